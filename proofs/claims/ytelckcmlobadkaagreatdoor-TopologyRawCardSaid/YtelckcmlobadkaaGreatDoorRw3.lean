/-
  Texts of ours, joined: FlCode Pm33 FlW1 FlPlain FlW2 FlW3 FlW4 FlW5 FlW6 FlW7 FlW8 FlW9 ToPlain ToCode ToW1 ToW2 Pm34 ToW3 ToW4 ToW5 ToW6 ToW7 ToW8 ToW9 ToW10 MkCode R1Code R1W1 R1W2 R1W3 R1W4. No condition.
-/
import Derived.Test.YtelckcmlobadkaaGreatDoorRw1
import Derived.Test.YtelckcmlobadkaaGreatDoorRw2

set_option linter.unusedSimpArgs false
set_option linter.unusedVariables false
open Nat renaming reduceEqDiff → γ, reduceAdd → δ, reduceSub → ε, reduceMul → ζ, reduceLT → η, reduceLeDiff → θ, reduceBEq → τ
open Int renaming reduceLT → ι, reduceLE → κ, reduceEq → μ, reduceToNat → ν, reduceAdd → ξ, reduceNeg → ο, reduceBEq → ρ, reduceBNe → σ
open List renaming reduceReplicate → υ
open List renaming length_map → bIM, range → bIN, replicate → bIP, length_append → bIQ, getElem_mem → bIS, length_singleton → bIX, getElem?_eq_getElem → bIZ, mem_cons → bJB, take_of_length_le → bJD, getD_eq_getElem?_getD → bJE, length_take → bJF, not_mem_nil → bJI, all_eq_true → bJL, take_length → bJN, append_assoc → bJO, drop_zero → bJR, getElem?_map → bJU, mem_map → bJV, getElem?_eq_none → bJY, append_nil → bJZ, getElem?_eq_some_iff → bKA, map_cons → bKD, drop_eq_getElem_cons → bKE, Sublist → bKH, getElem_map → bKI, mem_append → bKL, take_succ_eq_append_getElem → bKM, length_drop → bKQ, mem_range → bKR, length_set → bKU, map_append → bKV, map_nil → bKW, mem_of_getElem? → bKX, length_nil → bLA, take_append_drop → bLB, getElem?_append_left → bLF, length_cons → bLG, nodup_append → bLH, ext_getElem → bLI, getElem?_append_right → bLJ, getElem?_take → bLK, getElem_of_mem → bLL, set_append_right → bLM, drop_of_length_le → bLT
open Bool renaming not_true → bIO, false_and → bIV, not_false → bIY, true_and → bJC, and_eq_true → bJK, and_false → bJW, and_true → bKZ, and_assoc → bLE, false_eq_true → bLS
open Nat renaming gcd → bIR, zero_le → bIT, le_refl → bIU, mul_add → bJA, lt_or_ge → bJG, mul_assoc → bJH, zero_add → bJJ, mul_comm → bJM, add_mul → bJP, mul_le_mul_right → bJQ, mod_eq_of_lt → bJT, mod_lt → bJX, pow_succ → bKB, add_zero → bKF, le_trans → bKG, min_eq_left → bKJ, eq_zero_or_pos → bKN, mul_le_mul_left → bKO, pos_of_ne_zero → bKP, add_assoc → bKS, pow_pos → bKY, div_lt_iff_lt_mul → bLC, div_add_mod → bLN, div_eq_of_lt → bLO
open Option renaming map_eq_some_iff → bIW, map_some → bJS, getD_some → bKK, some → bKT, bind_eq_some_iff → bLP, bind_some → bLQ
open Array renaming replicate → bKC, length_toList → bLD, getElem?_eq_getElem → bLR, getElem?_eq_some_iff → bLU
namespace Go.PM
open Go
def oV:Rg:=[iT 2 false]
def oW:Rg:=[iM 3 0,iA 4 (.bin .geq (Tm 3) (.const (.int .u8 97))),iM 5 4,gM 6 0 5 true,iG 7 (.bin .leq (Tm 6) (.const (.int .u8 122))) 5 true,iP 8 5 7,iM 9 8,gM 10 0 9 false,iG 11 (.bin .geq (Tm 10) (.const (.int .u8 65))) 9 false,gM 12 11 9 false,gM 13 0 12 true,iG 14 (.bin .leq (Tm 13) (.const (.int .u8 90))) 12 true,iG 15 (.pick (Tm 12) (Tm 14) (.const (.bool false))) 9 false,iQ 16 9 15,iM 2 16]
def kM:aB:=(sq oV (sq oW .ret))
def a5D:List Nat:=[]
def DS:aS:=⟨1,17,kM,[.tmp 2]⟩
def zI:Rg:=[iT 2 false]
def zJ:Rg:=[iM 3 0,iA 4 (.bin .geq (Tm 3) (.const (.int .u8 48))),iM 5 4,gM 6 0 5 true,iG 7 (.bin .leq (Tm 6) (.const (.int .u8 57))) 5 true,iP 8 5 7,iM 2 8]
def pN:aB:=(sq zI (sq zJ .ret))
def bbX:List Nat:=[]
def MJ:aS:=⟨1,9,pN,[.tmp 2]⟩
def anV:Rg:=[iT 2 false]
def anW:Rg:=[iM 3 0,iK 4 126 3,iM 5 4,gM 6 0 5 false,gK 7 124 6 5 false,iQ 8 5 7,iM 9 8,gM 10 0 9 false,iG 11 (.bin .eql (Tm 10) (.const (.int .u8 45))) 9 false,iQ 12 9 11,iM 13 12,gM 14 0 13 false,iG 15 (.bin .eql (Tm 14) (.const (.int .u8 46))) 13 false,iQ 16 13 15,iM 2 16]
def AW:aB:=(sq anV (sq anW .ret))
def bcI:List Nat:=[]
def MM:aS:=⟨1,17,AW,[.tmp 2]⟩
def FW:Rg:=[iT 2 false]
def FX:Rg:=[iM 4 0,iA 5 (.bin .eql (Tm 4) (.const (.str []))),iM 6 5,gM 7 0 6 false,iG 8 (.bHQ (Tm 7)) 6 false,gC 9 .gtr 8 16 6 false,iQ 10 6 9,iM 11 10,gM 12 0 11 false,iG 13 (.bHR (Tm 12) (Ci 0)) 11 false,gK 14 126 13 11 false,iG 15 (.un .not (Tm 14)) 11 false,iQ 16 11 15]
def FY:Rg:=[iT 2 false]
def aEP:Rg:=[iI 3 0]
def aEQ:Rg:=[iM 17 3,iM 18 0,iA 19 (.bHQ (Tm 18)),iB 20 .lss 17 19]
def aER:Rg:=[iM 23 0,iM 24 3,iA 25 (.bHR (Tm 23) (Tm 24)),iK 26 125 25,iA 27 (.un .not (Tm 26))]
def aES:Rg:=[iT 2 false]
def aET:Rg:=[iM 21 3,iC 22 .add 21 1,iM 3 22]
def aEO:aB:=(.seq (sq aEQ (.cond (Tm 20) .skip (.exit 0))) (.seq (.block 1 (sq aER (.cond (Tm 27) (sq aES .ret) .skip))) (.region aET)))
def aEU:Rg:=[iT 2 true]
def rP:aB:=(sq FW (.seq (sq FX (.cond (Tm 16) (sq FY .ret) .skip)) (.seq (sq aEP (.block 0 (.loop aEO))) (sq aEU .ret))))
def bkX:List Nat:=[]
def abQ:aS:=⟨1,28,rP,[.tmp 2]⟩
def abD:Rg:=[iT 6 false]
def abE:Rg:=[iM 7 0,iM 8 1,iB 9 .geq 7 8,iM 10 9,gM 11 0 10 true,gM 12 2 10 true,gB 13 .leq 11 12 10 true,iP 14 10 13,iM 6 14]
def xQ:aB:=(sq abD (sq abE .ret))
def bvN:List Nat:=[]
def gin:aS:=⟨3,15,xQ,[.tmp 6]⟩
def amW:Rg:=[iA 1 (.box true (Tm 0)),iT 2 false]
def amX:Rg:=[iF 3 1 1,iL 4 3,iK 5 128 4,iC 6 .gtr 5 0,iM 2 6]
def AP:aB:=(sq amW (sq amX .ret))
def bbF:List Nat:=[1]
def abB:aS:=⟨1,7,AP,[.tmp 2]⟩
def aUL:Rg:=[iA 1 (.box true (Tm 0)),iT 2 false]
def aUM:Rg:=[iO 6 3 1,iK 7 116 6,iM 5 7,iE 8 5 0,iE 9 5 1,iA 3 (.alloc [(.bool false),.bGI,.bGI]),iS 3 3 8,iM 4 9]
def QZ:Rg:=[iM 10 4,iC 11 .eql 10 0,iM 12 11,gF 13 0 3 12 true,gL 14 13 12 true,iG 15 (.un .not (Tm 14)) 12 true,iP 16 12 15,iM 17 16,gF 18 1 3 17 true,gL 19 18 17 true,gK 20 128 19 17 true,gC 21 .leq 20 32 17 true,iP 22 17 21,iM 23 22,gF 24 2 3 23 true,gL 25 24 23 true,gK 26 128 25 23 true,gC 27 .leq 26 32 23 true,iP 28 23 27,iM 2 28]
def MC:aB:=(sq aUL (sq aUM (sq QZ .ret)))
def bqX:List Nat:=[1]
def a3Y:aS:=⟨1,29,MC,[.tmp 2]⟩
def aUQ:Rg:=[iA 1 (.box true (Tm 0)),iT 2 false]
def aUR:Rg:=[iA 8 (.call 115 [(Ci 1),(Ci 1)]),iM 7 8,iE 9 7 0,iE 10 7 1,iA 3 (.alloc [(.bool false),.bGI,.bGI]),iS 3 3 9,iM 4 10]
def aUS:Rg:=[iO 12 3 1,iO 13 3 3,iK2 14 114 12 13,iM 11 14,iE 15 11 0,iE 16 11 1,iM 5 15,iM 6 16]
def akC:Rg:=[iM 17 6,iC 18 .eql 17 0,iM 19 18,gM 20 5 19 true,gC 21 .leq 20 0 19 true,iP 22 19 21,iM 2 22]
def ME:aB:=(sq aUQ (sq aUR (sq aUS (sq akC .ret))))
def brB:List Nat:=[1]
def gone:aS:=⟨1,23,ME,[.tmp 2]⟩
def aBK:Rg:=[iT 4 false]
def aBL:Rg:=[iM 7 0,iN 8 7,iI 9 0]
def aBM:Rg:=[iB 10 .lss 9 8]
def aBN:Rg:=[iX 11 3 7 9,iO 12 3 11,iA 6 (.alloc [(.bool false),.bGI,.bGI]),iS 3 6 12]
def aBO:Rg:=[iM 13 1,iO 14 3 6,iA 15 (.bHT (Tm 13) [(Tm 14)]),iA 16 (.un .not (Tm 15))]
def aBP:Rg:=[iT 4 false]
def aBQ:Rg:=[iC 17 .add 9 1,iM 9 17]
def aBJ:aB:=(sq aBM (.seq (.cond (Tm 10) .skip (.exit 0)) (.seq (.block 1 (sq aBN (sq aBO (.cond (Tm 16) (sq aBP .ret) .skip)))) (.region aBQ))))
def aBR:Rg:=[iT 4 true]
def FB:aB:=(sq aBK (.seq (sq aBL (.block 0 (.loop aBJ))) (sq aBR .ret)))
def bjO:List Nat:=[]
def axN:aS:=⟨2,18,FB,[.tmp 4]⟩
def aBT:Rg:=[iT 4 false]
def aBU:Rg:=[iM 7 0,iN 8 7,iI 9 0]
def aBV:Rg:=[iB 10 .lss 9 8]
def aBW:Rg:=[iX 11 1 7 9,iL 12 11,iM 6 12]
def aBX:Rg:=[iM 13 1,iM 14 6,iA 15 (.bHT (Tm 13) [(Tm 14)]),iA 16 (.un .not (Tm 15))]
def aBY:Rg:=[iT 4 false]
def aBZ:Rg:=[iC 17 .add 9 1,iM 9 17]
def aBS:aB:=(sq aBV (.seq (.cond (Tm 10) .skip (.exit 0)) (.seq (.block 1 (sq aBW (sq aBX (.cond (Tm 16) (sq aBY .ret) .skip)))) (.region aBZ))))
def aCA:Rg:=[iT 4 true]
def FC:aB:=(sq aBT (.seq (sq aBU (.block 0 (.loop aBS))) (sq aCA .ret)))
def bjQ:List Nat:=[]
def axO:aS:=⟨2,18,FC,[.tmp 4]⟩
def aBB:Rg:=[iT 4 false]
def aBC:Rg:=[iM 7 0,iN 8 7,iI 9 0]
def aBD:Rg:=[iB 10 .lss 9 8]
def aBE:Rg:=[iX 11 1 7 9,iL 12 11,iM 6 12]
def aBF:Rg:=[iM 13 1,iM 14 6,iA 15 (.bHT (Tm 13) [(Tm 14)]),iA 16 (.un .not (Tm 15))]
def aBG:Rg:=[iT 4 false]
def aBH:Rg:=[iC 17 .add 9 1,iM 9 17]
def aBA:aB:=(sq aBD (.seq (.cond (Tm 10) .skip (.exit 0)) (.seq (.block 1 (sq aBE (sq aBF (.cond (Tm 16) (sq aBG .ret) .skip)))) (.region aBH))))
def aBI:Rg:=[iT 4 true]
def FA:aB:=(sq aBB (.seq (sq aBC (.block 0 (.loop aBA))) (sq aBI .ret)))
def bjM:List Nat:=[]
def axM:aS:=⟨2,18,FA,[.tmp 4]⟩
def amY:Rg:=[iT 2 false]
def amZ:Rg:=[iM 3 0,iM 2 3]
def AQ:aB:=(sq amY (sq amZ .ret))
def bbH:List Nat:=[]
def abC:aS:=⟨1,4,AQ,[.tmp 2]⟩
def aCF:Rg:=[iA 1 (.box true (Tm 0)),iT 2 false]
def aCG:Rg:=[iF 8 3 1,iL 9 8,iN 10 9,iA 11 (.bGS 1 1 [(.bool false)] (Tm 10) (Tm 10)),iM 3 11]
def aCH:Rg:=[iI 4 0]
def aCI:Rg:=[iM 12 4,iM 13 3,iN 14 13,iB 15 .leq 12 14]
def aCJ:Rg:=[iM 18 3,iN 19 18,iI 20 0]
def VK:Rg:=[iB 21 .lss 20 19]
def aCK:Rg:=[iM 22 20,iM 5 22]
def VL:Rg:=[iM 23 3,iM 24 5,iM 25 3,iM 26 5,iX 27 1 25 26,iL 28 27,iM 29 28,gF 30 3 1 29 false,gL 31 30 29 false,gM 32 5 29 false,iG 33 (.bHD 3 (Tm 31) (Tm 32)) 29 false,gO 34 3 33 29 false,gK 35 97 34 29 false,iQ 36 29 35,iX 37 1 23 24,iS 1 37 36]
def VM:Rg:=[iF 38 2 1,iL 39 38,iM 40 5,iX 41 1 39 40,iL 42 41,iN 43 42,iI 44 0]
def aCL:Rg:=[iB 45 .lss 44 43]
def anB:Rg:=[iM 46 44,iX 47 3 42 44,iO 48 3 47,iA 7 (.alloc [(.bool false),.bGI,.bGI]),iM 6 46,iS 3 7 48]
def LZ:Rg:=[iM 49 3,iM 50 5,iM 51 3,iM 52 5,iX 53 1 51 52,iL 54 53,iM 55 54,gO 56 3 7 55 false,gK 57 97 56 55 false,gM 58 57 55 false,gM 59 3 58 true,gM 60 6 58 true,iG 61 (.bHD 1 (Tm 59) (Tm 60)) 58 true,gL 62 61 58 true,iG 63 (.pick (Tm 58) (Tm 62) (.const (.bool false))) 55 false,iQ 64 55 63,iX 65 1 49 50,iS 1 65 64]
def zH:Rg:=[iC 66 .add 44 1,iM 44 66]
def zF:aB:=(sq aCL (.seq (.cond (Tm 45) .skip (.exit 4)) (.seq (.block 5 (sq anB (.region LZ))) (.region zH))))
def MA:Rg:=[iC 67 .add 20 1,iM 20 67]
def zG:aB:=(sq VK (.seq (.cond (Tm 21) .skip (.exit 2)) (.seq (.block 3 (sq aCK (sq VL (sq VM (.block 4 (.loop zF)))))) (.region MA))))
def anC:Rg:=[iM 16 4,iC 17 .add 16 1,iM 4 17]
def anA:aB:=(.seq (sq aCI (.cond (Tm 15) .skip (.exit 0))) (.seq (.block 1 (sq aCJ (.block 2 (.loop zG)))) (.region anC)))
def anD:Rg:=[iM 68 3,iA 69 (.call 98 [(Tm 68),(.const (.fn 103 []))]),iM 2 69]
def FD:aB:=(sq aCF (sq aCG (.seq (sq aCH (.block 0 (.loop anA))) (sq anD .ret))))
def bjT:List Nat:=[1]
def axP:aS:=⟨1,70,FD,[.tmp 2]⟩
def aUD:Rg:=[iA 1 (.box true (Tm 0)),iT 2 false]
def aUE:Rg:=[iF 12 1 1,iL 13 12,iN 14 13,iM 3 14]
def aUF:Rg:=[iM 15 3,iA 16 (.call 104 [(Tm 15),(Ci 1),(Ci 4)]),iA 17 (.un .not (Tm 16)),iM 18 17,gF 19 3 1 18 false,gL 20 19 18 false,gN 21 20 18 false,gM 22 3 18 false,gB 23 .neq 21 22 18 false,iQ 24 18 23,iM 25 24,gF 26 2 1 25 false,gL 27 26 25 false,gN 28 27 25 false,gM 29 3 25 false,gB 30 .neq 28 29 25 false,iQ 31 25 30,iM 32 31,gF 33 1 1 32 false,gL 34 33 32 false,iG 35 (.call 99 [(Tm 34),(.const (.fn 105 []))]) 32 false,iG 36 (.un .not (Tm 35)) 32 false,iQ 37 32 36,iM 38 37,gF 39 3 1 38 false,gL 40 39 38 false,iG 41 (.call 99 [(Tm 40),(.const (.fn 105 []))]) 38 false,iG 42 (.un .not (Tm 41)) 38 false,iQ 43 38 42]
def wX:Rg:=[iT 2 false]
def aUG:Rg:=[iF 44 2 1,iL 45 44,iN 46 45,iI 47 0]
def aUH:Rg:=[iB 48 .lss 47 46]
def aUI:Rg:=[iM 49 47,iX 50 1 45 47,iL 51 50,iM 4 49,iM 5 51]
def aUJ:Rg:=[iM 52 5,iN 53 52,iM 54 3,iB 55 .neq 53 54,iM 56 55,gM 57 5 56 false,iG 58 (.call 99 [(Tm 57),(.const (.fn 105 []))]) 56 false,iG 59 (.un .not (Tm 58)) 56 false,iQ 60 56 59,iM 61 60,gM 62 5 61 false,gM 63 4 61 false,iG 64 (.bHD 3 (Tm 62) (Tm 63)) 61 false,gO 65 3 64 61 false,gK 66 97 65 61 false,iQ 67 61 66]
def QY:Rg:=[iT 2 false]
def aUK:Rg:=[iC 68 .add 47 1,iM 47 68]
def aCM:aB:=(sq aUH (.seq (.cond (Tm 48) .skip (.exit 0)) (.seq (.block 1 (sq aUI (sq aUJ (.cond (Tm 67) (sq QY .ret) .skip)))) (.region aUK))))
def VN:Rg:=[iF 70 1 1,iL 71 70,iK 72 117 71,iM 69 72,iE 73 69 0,iE 74 69 1,iA 6 (.alloc [(.bool false),.bGI,.bGI]),iS 3 6 73,iM 7 74]
def FF:Rg:=[iA 76 (.call 115 [(Ci 1),(Ci 1)]),iM 75 76,iE 77 75 0,iE 78 75 1,iA 8 (.alloc [(.bool false),.bGI,.bGI]),iS 3 8 77,iM 9 78]
def FG:Rg:=[iO 80 3 6,iO 81 3 8,iK2 82 114 80 81,iM 79 82,iE 83 79 0,iE 84 79 1,iM 10 83,iM 11 84]
def sT:Rg:=[iM 85 7,iC 86 .eql 85 0,iM 87 86,gM 88 10 87 true,gC 89 .eql 88 0 87 true,iP 90 87 89,iM 91 90,gO 92 4 1 91 true,gK 93 102 92 91 true,iP 94 91 93,iM 2 94]
def MB:aB:=(sq aUD (sq aUE (.seq (sq aUF (.cond (Tm 43) (sq wX .ret) .skip)) (.seq (sq aUG (.block 0 (.loop aCM))) (sq VN (sq FF (sq FG (sq sT .ret))))))))
def bqV:List Nat:=[1]
def a3X:aS:=⟨1,95,MB,[.tmp 2]⟩
def aCW:Rg:=[iT 2 false]
def aCX:Rg:=[iA 6 (.bIE (false,[.str])),iM 3 6]
def aCY:Rg:=[iM 7 0,iN 8 7,iI 9 0]
def aCZ:Rg:=[iB 10 .lss 9 8]
def aDA:Rg:=[iX 11 1 7 9,iL 12 11,iM 5 12]
def aDB:Rg:=[iM 13 5,iK 14 123 13,iA 15 (.un .not (Tm 14)),iM 16 15,gM 17 3 16 false,gM 18 5 16 false,iG 19 (.lookup (false,[.str]) (.bool false) (Tm 17) (Tm 18) false) 16 false,iQ 20 16 19]
def VR:Rg:=[iT 2 false]
def aDC:Rg:=[iM 21 3,iM 22 5,⟨none,.bHG (false,[.str]) (Tm 21) (Tm 22) (.const (.bool true)),none⟩]
def aDD:Rg:=[iC 23 .add 9 1,iM 9 23]
def aCV:aB:=(sq aCZ (.seq (.cond (Tm 10) .skip (.exit 0)) (.seq (.block 1 (sq aDA (.seq (sq aDB (.cond (Tm 20) (sq VR .ret) .skip)) (.region aDC)))) (.region aDD))))
def anG:Rg:=[iT 2 true]
def FJ:aB:=(sq aCW (sq aCX (.seq (sq aCY (.block 0 (.loop aCV))) (sq anG .ret))))
def bkA:List Nat:=[]
def axS:aS:=⟨1,24,FJ,[.tmp 2]⟩
def akA:Rg:=[iA 1 (.box true (Tm 0)),iT 2 false]
def akB:Rg:=[iF 6 3 1,iL 7 6,iN 8 7,iC 9 .eql 8 0]
def aTX:Rg:=[iT 2 false]
def aTY:Rg:=[iF 10 3 1,iL 11 10,iA 12 (.bHD 7 (Tm 11) (Ci 0)),iO 13 7 12,iA 3 (.alloc [(.str []),(.int .i64 0),(.int .i64 0),(.int .i64 0),(.bool false),.bGI,.bGI]),iS 7 3 13]
def wW:Rg:=[iF 14 0 3,iL 15 14,iA 16 (.bin .neq (Tm 15) (.const (.str []))),iM 17 16,gF 18 1 3 17 false,gL 19 18 17 false,gC 20 .neq 19 0 17 false,iQ 21 17 20,iM 22 21,gF 23 2 3 22 false,gL 24 23 22 false,gC 25 .neq 24 (-1) 22 false,iQ 26 22 25,iM 27 26,gF 28 3 3 27 false,gL 29 28 27 false,gC 30 .neq 29 0 27 false,iQ 31 27 30,iM 32 31,gF 33 4 3 32 false,gO 34 3 33 32 false,gK 35 105 34 32 false,iG 36 (.un .not (Tm 35)) 32 false,iQ 37 32 36,iM 38 37,gF 39 4 3 38 false,gO 40 3 39 38 false,gK 41 97 40 38 false,iQ 42 38 41]
def sS:Rg:=[iT 2 false]
def aTZ:Rg:=[iF 43 3 1,iL 44 43,iA 45 (.slice 7 (Tm 44) (some (Ci 1)) none none),iN 46 45,iI 47 0]
def aUA:Rg:=[iB 48 .lss 47 46]
def aUB:Rg:=[iM 49 47,iX 50 7 45 47,iO 51 7 50,iA 5 (.alloc [(.str []),(.int .i64 0),(.int .i64 0),(.int .i64 0),(.bool false),.bGI,.bGI]),iM 4 49,iS 7 5 51]
def aUC:Rd:=[(iF 52 2 5,false),(iL 53 52,false),(iM 54 4,false),(iA 55 (.call 104 [(Tm 53),(Ci 0),(Tm 54)]),true),(iA 56 (.un .not (Tm 55)),false),(iM 57 56,false),(gF 58 3 1 57 false,false),(gL 59 58 57 false,false),(gF 60 2 5 57 false,false),(gL 61 60 57 false,false),(iG 62 (.bHD 7 (Tm 59) (Tm 61)) 57 false,false),(gF 63 1 62 57 false,false),(gL 64 63 57 false,false),(gF 65 1 5 57 false,false),(gL 66 65 57 false,false),(gC 67 .sub 66 1 57 false,false),(gB 68 .neq 64 67 57 false,false),(iQ 69 57 68,false),(iM 70 69,false),(gF 71 1 5 70 false,false),(gL 72 71 70 false,false),(iG 73 (.call 104 [(Tm 72),(Ci 1),(Ci 4)]) 70 false,true),(iG 74 (.un .not (Tm 73)) 70 false,false),(iQ 75 70 74,false),(iM 76 75,false),(gF 77 3 5 76 false,false),(gL 78 77 76 false,false),(iG 79 (.call 104 [(Tm 78),(Ci 1),(Ci 64)]) 76 false,true),(iG 80 (.un .not (Tm 79)) 76 false,false),(iQ 81 76 80,false),(iM 82 81,false),(gF 83 4 5 82 false,false),(gO 84 3 83 82 false,false),(gK 85 105 84 82 false,true),(iG 86 (.un .not (Tm 85)) 82 false,false),(iQ 87 82 86,false)]
def sR:Rg:=[iT 2 false]
def aCD:Rg:=[iC 88 .add 47 1,iM 47 88]
def aCC:aB:=(sq aUA (.seq (.cond (Tm 48) .skip (.exit 0)) (.seq (.block 1 (sq aUB (dq aUC (.cond (Tm 87) (sq sR .ret) .skip)))) (.region aCD))))
def aCE:Rg:=[iT 2 true]
def zE:aB:=(sq akA (.seq (sq akB (.cond (Tm 9) (sq aTX .ret) .skip)) (sq aTY (.seq (sq wW (.cond (Tm 42) (sq sS .ret) .skip)) (.seq (sq aTZ (.block 0 (.loop aCC))) (sq aCE .ret))))))
def bqT:List Nat:=[1]
def aCB:aS:=⟨1,89,zE,[.tmp 2]⟩
def aCN:Rg:=[iT 2 false]
def aCO:Rg:=[iM 3 0,iA 4 (.call 104 [(Tm 3),(Ci 0),(Ci 8)]),iM 2 4]
def FH:aB:=(sq aCN (sq aCO .ret))
def bjV:List Nat:=[]
def axQ:aS:=⟨1,5,FH,[.tmp 2]⟩
def aUN:Rg:=[iA 7 (.box true (Tm 3)),iT 8 false]
def aUO:Rg:=[iM 9 0,iA 10 (.call 104 [(Tm 9),(Ci 1),(Ci 6)]),iA 11 (.un .not (Tm 10)),iM 12 11,gM 13 1 12 false,iG 14 (.call 104 [(Tm 13),(Ci 0),(Ci 4)]) 12 false,iG 15 (.un .not (Tm 14)) 12 false,iQ 16 12 15,iM 17 16,gM 18 0 17 false,gM 19 1 17 false,gB 20 .add 18 19 17 false,gC 21 .gtr 20 8 17 false,iQ 22 17 21,iM 23 22,gM 24 2 23 false,gM 25 0 23 false,gM 26 0 23 false,gM 27 1 23 false,gB 28 .add 26 27 23 false,iG 29 (.call 104 [(Tm 24),(Tm 25),(Tm 28)]) 23 false,iG 30 (.un .not (Tm 29)) 23 false,iQ 31 23 30,iM 32 31,iG 33 (.idxA 5 1 (Tm 7) (Ci 0)) 32 false,gL 34 33 32 false,gC 35 .neq 34 0 32 false,iQ 36 32 35]
def wY:Rg:=[iT 8 false]
def aUP:Rg:=[iA 37 (.sliceA 5 1 (Tm 7) none none none),iA 38 (.call 100 [(Tm 37),(.const (.fn 107 []))]),iM 8 38]
def MD:aB:=(sq aUN (.seq (sq aUO (.cond (Tm 36) (sq wY .ret) .skip)) (sq aUP .ret)))
def bqZ:List Nat:=[7]
def a3Z:aS:=⟨4,39,MD,[.tmp 8]⟩
def anE:Rg:=[iA 1 (.box true (Tm 0)),iT 2 false]
def anF:Rg:=[iO 3 3 1,iK 4 105 3,iM 5 4,gO 6 3 1 5 true,gK 7 97 6 5 true,iP 8 5 7,iM 2 8]
def AR:aB:=(sq anE (sq anF .ret))
def bbK:List Nat:=[1]
def abG:aS:=⟨1,9,AR,[.tmp 2]⟩
def aCS:Rg:=[iA 6 (.box true (Tm 2)),iA 7 (.box true (Tm 3)),iT 8 false]
def aCT:Rg:=[iM 9 1,iN 10 9,iM 11 0,iA 12 (.bHJ true (Tm 11) (Ci 1)),iB 13 .eql 10 12,iM 14 13,gM 15 1 14 true,iG 16 (.call 99 [(Tm 15),(.const (.fn 109 []))]) 14 true,iP 17 14 16,iM 18 17,gO 19 3 6 18 true,gK 20 105 19 18 true,iP 21 18 20,iM 22 21,gO 23 3 6 22 true,gK 24 101 23 22 true,iP 25 22 24,iM 26 25,gO 27 3 7 26 true,gK 28 105 27 26 true,iP 29 26 28,iM 8 29]
def FI:aB:=(sq aCS (sq aCT .ret))
def bjX:List Nat:=[6,7]
def axR:aS:=⟨4,30,FI,[.tmp 8]⟩
def aUT:Rg:=[iA 2 (.box true (Tm 0)),iT 4 false]
def aUU:Rg:=[iF 8 1 2,iL 9 8,iF 10 2 2,iL 11 10,iF 12 3 2,iL 13 12,iF 14 4 2,iO 15 5 14,iA 16 (.call 106 [(Tm 9),(Tm 11),(Tm 13),(Tm 15)]),iA 17 (.un .not (Tm 16)),iM 18 17,gF 19 9 2 18 false,gL 20 19 18 false,gN 21 20 18 false,gC 22 .eql 21 0 18 false,iQ 23 18 22,iM 24 23,gF 25 2 2 24 false,gL 26 25 24 false,gF 27 10 2 24 false,gL 28 27 24 false,gF 29 11 2 24 false,gO 30 3 29 24 false,gF 31 14 2 24 false,gO 32 3 31 24 false,iG 33 (.call 108 [(Tm 26),(Tm 28),(Tm 30),(Tm 32)]) 24 false,iG 34 (.un .not (Tm 33)) 24 false,iQ 35 24 34]
def RA:Rg:=[iT 4 false]
def aUV:Rg:=[iM 36 1,iA 37 (.bGS 1 1 [(.bool false)] (Tm 36) (Tm 36)),iM 5 37]
def aUW:Rg:=[iF 38 9 2,iL 39 38,iN 40 39,iI 41 0]
def aUX:Rg:=[iB 42 .lss 41 40]
def aUY:Rg:=[iX 43 1 39 41,iL 44 43,iM 7 44]
def aUZ:Rg:=[iM 45 7,iM 46 1,iC 47 .sub 46 1,iA 48 (.call 104 [(Tm 45),(Ci 0),(Tm 47)]),iA 49 (.un .not (Tm 48)),iM 50 49,gM 51 5 50 false,gM 52 7 50 false,iG 53 (.bHD 1 (Tm 51) (Tm 52)) 50 false,gL 54 53 50 false,iQ 55 50 54]
def akD:Rg:=[iT 4 false]
def aVA:Rg:=[iM 56 5,iM 57 7,iX 58 1 56 57,⟨none,.store 1 (Tm 58) (.const (.bool true)),none⟩]
def aCQ:Rg:=[iC 59 .add 41 1,iM 41 59]
def aCP:aB:=(sq aUX (.seq (.cond (Tm 42) .skip (.exit 0)) (.seq (.block 1 (sq aUY (.seq (sq aUZ (.cond (Tm 55) (sq akD .ret) .skip)) (.region aVA)))) (.region aCQ))))
def aCR:Rg:=[iT 4 true]
def MF:aB:=(sq aUT (.seq (sq aUU (.cond (Tm 35) (sq RA .ret) .skip)) (sq aUV (.seq (sq aUW (.block 0 (.loop aCP))) (sq aCR .ret)))))
def brD:List Nat:=[2]
def a4A:aS:=⟨2,60,MF,[.tmp 4]⟩
def aVB:Rg:=[iA 1 (.box true (Tm 0)),iI 2 0]
def aVC:Rg:=[iF 21 0 1,iL 22 21,iA 23 (.call 104 [(Tm 22),(Ci 1),(Ci 4)]),iA 24 (.un .not (Tm 23)),iM 25 24,gF 26 1 1 25 false,gL 27 26 25 false,gN 28 27 25 false,gC 29 .gtr 28 4 25 false,iQ 30 25 29,iM 31 30,gF 32 2 1 31 false,gL 33 32 31 false,gN 34 33 31 false,gC 35 .gtr 34 4 31 false,iQ 36 31 35,iM 37 36,gF 38 3 1 37 false,gL 39 38 37 false,gN 40 39 37 false,gC 41 .gtr 40 40 37 false,iQ 42 37 41,iM 43 42,gF 44 4 1 43 false,gL 45 44 43 false,gN 46 45 43 false,gC 47 .gtr 46 24 43 false,iQ 48 43 47,iM 49 48,gF 50 5 1 49 false,gL 51 50 49 false,gN 52 51 49 false,gC 53 .gtr 52 4 49 false,iQ 54 49 53,iM 55 54,gF 56 6 1 55 false,gL 57 56 55 false,gN 58 57 55 false,gC 59 .gtr 58 12 55 false,iQ 60 55 59,iM 61 60,gO 62 7 1 61 false,gK 63 111 62 61 false,iG 64 (.un .not (Tm 63)) 61 false,iQ 65 61 64]
def oT:Rg:=[iI 2 1]
def aVD:Rg:=[iZ 3,iZ 4,iZ 5,iZ 6,iZ 7]
def aVE:Rg:=[iT 8 true]
def akE:Rg:=[iF 66 1 1,iL 67 66,iN 68 67,iI 69 0]
def aVF:Rg:=[iB 70 .lss 69 68]
def aVG:Rg:=[iX 71 4 67 69,iO 72 4 71,iA 10 (.alloc [(.str []),.bGI,.bGI,.bGI]),iS 4 10 72]
def aVH:Rg:=[iM 73 3,iF 74 0 10,iL 75 74,iA 76 (.bGN true 1 1 [(.str [])] [(0,(Tm 75))]),iA 77 (.append 1 16 (Tm 73) (Tm 76)),iM 3 77]
def akF:Rg:=[iM 78 8,iM 79 78,gO 80 4 10 79 true,gK 81 95 80 79 true,iP 82 79 81,iM 8 82]
def VS:Rg:=[iC 83 .add 69 1,iM 69 83]
def FK:aB:=(sq aVF (.seq (.cond (Tm 70) .skip (.exit 0)) (.seq (.block 1 (sq aVG (sq aVH (.region akF)))) (.region VS))))
def VT:Rg:=[iF 84 2 1,iL 85 84,iN 86 85,iI 87 0]
def aDE:Rg:=[iB 88 .lss 87 86]
def aDF:Rg:=[iX 89 4 85 87,iO 90 4 89,iA 12 (.alloc [(.str []),(.int .i64 0),(.int .i64 0),(.int .i64 0)]),iS 4 12 90]
def aDG:Rg:=[iM 91 4,iF 92 0 12,iL 93 92,iA 94 (.bGN true 1 1 [(.str [])] [(0,(Tm 93))]),iA 95 (.append 1 16 (Tm 91) (Tm 94)),iM 4 95]
def VU:Rg:=[iM 96 8,iM 97 96,gF 98 1 12 97 true,gL 99 98 97 true,iG 100 (.call 104 [(Tm 99),(Ci 1),(Ci 16)]) 97 true,iP 101 97 100,iM 102 101,gF 103 2 12 102 true,gL 104 103 102 true,iG 105 (.call 104 [(Tm 104),(Ci 1),(Ci 64)]) 102 true,iP 106 102 105,iM 107 106,gF 108 3 12 107 true,gL 109 108 107 true,gF 110 1 1 107 true,gL 111 110 107 true,gN 112 111 107 true,gC 113 .sub 112 1 107 true,iG 114 (.call 104 [(Tm 109),(Ci 0),(Tm 113)]) 107 true,iP 115 107 114,iM 8 115]
def xT:Rg:=[iC 116 .add 87 1,iM 87 116]
def FL:aB:=(sq aDE (.seq (.cond (Tm 88) .skip (.exit 2)) (.seq (.block 3 (sq aDF (sq aDG (.region VU)))) (.region xT))))
def VV:Rg:=[iF 117 3 1,iL 118 117,iA 119 (.slice 7 (Tm 118) (some (Ci 1)) none none),iN 120 119,iI 121 0]
def aDH:Rg:=[iB 122 .lss 121 120]
def aDI:Rg:=[iX 123 7 119 121,iO 124 7 123,iA 14 (.alloc [(.str []),(.int .i64 0),(.int .i64 0),(.int .i64 0),(.bool false),.bGI,.bGI]),iS 7 14 124]
def aDJ:Rg:=[iM 125 5,iF 126 0 14,iL 127 126,iA 128 (.bGN true 1 1 [(.str [])] [(0,(Tm 127))]),iA 129 (.append 1 16 (Tm 125) (Tm 128)),iM 5 129]
def aDK:Rg:=[iC 130 .add 121 1,iM 121 130]
def FM:aB:=(sq aDH (.seq (.cond (Tm 122) .skip (.exit 4)) (.seq (.block 5 (sq aDI (.region aDJ))) (.region aDK))))
def VW:Rg:=[iF 131 4 1,iL 132 131,iN 133 132,iI 134 0]
def aDL:Rg:=[iB 135 .lss 134 133]
def aDM:Rg:=[iX 136 3 132 134,iO 137 3 136,iA 16 (.alloc [(.str []),(.int .i64 0),(.int .i64 0)]),iS 3 16 137]
def aDN:Rg:=[iM 138 5,iF 139 0 16,iL 140 139,iA 141 (.bGN true 1 1 [(.str [])] [(0,(Tm 140))]),iA 142 (.append 1 16 (Tm 138) (Tm 141)),iM 5 142]
def VX:Rg:=[iM 143 8,iM 144 143,gF 145 1 16 144 true,gL 146 145 144 true,gF 147 2 1 144 true,gL 148 147 144 true,gN 149 148 144 true,gC 150 .sub 149 1 144 true,iG 151 (.call 104 [(Tm 146),(Ci 0),(Tm 150)]) 144 true,iP 152 144 151,iM 153 152,gF 154 2 16 153 true,gL 155 154 153 true,gF 156 3 1 153 true,gL 157 156 153 true,gN 158 157 153 true,gC 159 .sub 158 1 153 true,iG 160 (.call 104 [(Tm 155),(Ci 0),(Tm 159)]) 153 true,iP 161 153 160,iM 162 161,gF 163 3 1 162 true,gL 164 163 162 true,gF 165 2 16 162 true,gL 166 165 162 true,iG 167 (.bHD 7 (Tm 164) (Tm 166)) 162 true,gF 168 1 167 162 true,gL 169 168 162 true,gC 170 .eql 169 4 162 true,iP 171 162 170,iM 8 171]
def sU:Rg:=[iC 172 .add 134 1,iM 134 172]
def FN:aB:=(sq aDL (.seq (.cond (Tm 135) .skip (.exit 6)) (.seq (.block 7 (sq aDM (sq aDN (.region VX)))) (.region sU))))
def VY:Rg:=[iF 173 5 1,iL 174 173,iN 175 174,iI 176 0]
def aDO:Rg:=[iB 177 .lss 176 175]
def aDP:Rg:=[iX 178 17 174 176,iO 179 17 178,iA 18 (.alloc [(.str []),(.int .i64 0),(.int .i64 0),(.int .i64 0),(.int .i64 0),(.int .i64 0),(.int .i64 0),(.int .i64 0),(.int .i64 0),.bGI,.bGI,(.bool false),.bGI,.bGI,(.bool false),.bGI,.bGI]),iS 17 18 179]
def aDQ:Rg:=[iM 180 6,iF 181 0 18,iL 182 181,iA 183 (.bGN true 1 1 [(.str [])] [(0,(Tm 182))]),iA 184 (.append 1 16 (Tm 180) (Tm 183)),iM 6 184]
def VZ:Rg:=[iM 185 8,iM 186 185,gO 187 17 18 186 true,gF 188 2 1 186 true,gL 189 188 186 true,gN 190 189 186 true,gK2 191 112 187 190 186 true,iP 192 186 191,iM 8 192]
def WA:Rg:=[iC 193 .add 176 1,iM 176 193]
def FO:aB:=(sq aDO (.seq (.cond (Tm 177) .skip (.exit 8)) (.seq (.block 9 (sq aDP (sq aDQ (.region VZ)))) (.region WA))))
def WB:Rg:=[iF 194 6 1,iL 195 194,iN 196 195,iI 197 0]
def aDR:Rg:=[iB 198 .lss 197 196]
def aDS:Rg:=[iX 199 2 195 197,iO 200 2 199,iA 20 (.alloc [(.str []),(.int .i64 0)]),iS 2 20 200]
def aDT:Rg:=[iM 201 7,iF 202 0 20,iL 203 202,iA 204 (.bGN true 1 1 [(.str [])] [(0,(Tm 203))]),iA 205 (.append 1 16 (Tm 201) (Tm 204)),iM 7 205]
def WC:Rg:=[iM 206 8,iM 207 206,gF 208 1 20 207 true,gL 209 208 207 true,gF 210 5 1 207 true,gL 211 210 207 true,gN 212 211 207 true,gC 213 .sub 212 1 207 true,iG 214 (.call 104 [(Tm 209),(Ci 0),(Tm 213)]) 207 true,iP 215 207 214,iM 8 215]
def WD:Rg:=[iC 216 .add 197 1,iM 197 216]
def FP:aB:=(sq aDR (.seq (.cond (Tm 198) .skip (.exit 10)) (.seq (.block 11 (sq aDS (sq aDT (.region WC)))) (.region WD))))
def xU:Rg:=[iM 217 8,iA 218 (.un .not (Tm 217)),iM 219 218,gM 220 3 219 false,gK 221 110 220 219 false,iG 222 (.un .not (Tm 221)) 219 false,iQ 223 219 222,iM 224 223,gM 225 4 224 false,gK 226 110 225 224 false,iG 227 (.un .not (Tm 226)) 224 false,iQ 228 224 227,iM 229 228,gM 230 5 229 false,gK 231 110 230 229 false,iG 232 (.un .not (Tm 231)) 229 false,iQ 233 229 232,iM 234 233,gM 235 6 234 false,gK 236 110 235 234 false,iG 237 (.un .not (Tm 236)) 234 false,iQ 238 234 237,iM 239 238,gM 240 7 239 false,gK 241 110 240 239 false,iG 242 (.un .not (Tm 241)) 239 false,iQ 243 239 242]
def mR:Rg:=[iI 2 1]
def FQ:Rg:=[iI 2 0]
def MG:aB:=(sq aVB (.seq (sq aVC (.cond (Tm 65) (sq oT .ret) .skip)) (sq aVD (sq aVE (.seq (sq akE (.block 0 (.loop FK))) (.seq (sq VT (.block 2 (.loop FL))) (.seq (sq VV (.block 4 (.loop FM))) (.seq (sq VW (.block 6 (.loop FN))) (.seq (sq VY (.block 8 (.loop FO))) (.seq (sq WB (.block 10 (.loop FP))) (.seq (sq xU (.cond (Tm 243) (sq mR .ret) .skip)) (sq FQ .ret))))))))))))
def brF:List Nat:=[1,76,94,128,141,183,204]
def a4D:aS:=⟨1,244,MG,[.tmp 2]⟩
@[go_sem] theorem byH (a b:List UInt8):LD .eql a b=some (.bool (a==b)):=(rfl)
@[go_sem] theorem byI (a b:List UInt8):LD .neq a b=some (.bool !(a==b)):=(rfl)
@[go_sem] theorem a2W (a b:List UInt8):LD .add a b=if ((a.length+b.length:Nat):Int)>9223372036854775807 then none else some (.str (a++b)):=(rfl)
@[go_sem] theorem buY:(([]:List UInt8)==[])=true:=(rfl)
@[go_sem] theorem bpW (c:UInt8) (t:List UInt8):((c::t)==[])=false:=(rfl)
theorem oQ {a b:List UInt8} (h:a=b):(a==b)=true:=by simp[h]
theorem ZZ {a b:List UInt8} (h:a≠b):(a==b)=false:=by simp[h]
section
variable {C:Ctx} {F:PF} {H:PH}
theorem pP {name o s:Nat} {rs:List (List PV)} {vs:List PV} {v:PV} {args:List aP} {d:Option Nat} {K:PF→PH→Prop} (h:aH C name vs .nil (aD v)) (ho:H o=some (.rows s rs))
  (ha:aP.evs (F.frz o s rs) args=some vs) (hK:K ((F.frz o s rs).put d v) (H.frz o s rs)):gW C name args [] d K F H:=by
 refine .inr ⟨_,_,.step o ho (.refl _ _),vs,.nil,aD v,?_,PH.nil_le,h,?_⟩
 ·rw[ha]; simp
 ·rintro r H' ⟨rfl,rfl⟩ -
  rw[PH.yB]
  exact hK
theorem jI.trans {F1 F2 F3:PF} {H1 H2 H3:PH} (h:jI F1 H1 F2 H2) (k:jI F2 H2 F3 H3):jI F1 H1 F3 H3:=by
 induction h with
 | refl=>exact k
 | step o ho h ih=>exact .step o ho (ih k)
theorem pG {c:aB} {K:bX} {s:Nat} {v:PV} {rows:List (List PV)} (ho:aX H s v rows)
  (h:∀ v1,Seen s v1 rows→∀ F1 H1,(∀ t,F t=some v→F1 t=some v1)→(∀ i u,F i=some u→Pure u→F1 i=some u)→aB.wp C (.loop c) K F1 H1):aB.wp C (.loop c) K F H:=by
 obtain⟨v1,hs,hf⟩:=ho.frz
 obtain⟨F1,H1,hz,h1,h2⟩:=hf F
 obtain⟨α,Fs,Hs,Pr,m,a0,F2,H2,hz2,rest⟩:=h v1 hs F1 H1 h1 h2
 exact⟨α,Fs,Hs,Pr,m,a0,F2,H2,hz.trans hz2,rest⟩
theorem aH.a8C {name s:Nat} {v:PV} {rows:List (List PV)} {H0:PH} {R:PV→PH→Prop} (h:aH C name [.sl s rows] H0 R) (hs:Seen s v rows):aH C name [v] H0 R:=by
 rcases hs with ⟨rfl,rfl⟩ | rfl
 ·refine h.args ⟨rfl,fun j p q hp hq=>?_⟩
  cases j with
  | zero=>simp at hp hq; subst hp; subst hq; exact .nil s
  | succ j=>simp at hp
 ·exact h
theorem aX.fresh {s:Nat} {v:PV} {rows:List (List PV)} {o:Nat} (h:aX H s v rows) (ho:H o=none) (x:cE):aX (H.set o x) s v rows∧∀ l,v≠.osl o s 0 l:=by
 refine⟨h.ext fun q y hq=>?_,fun l e=>?_⟩
 ·have:q≠o:=by rintro rfl; rw[ho] at hq; cases hq
  simp only[bA,if_neg this,hq]
 ·rcases h with ⟨_,h2⟩ | ⟨q,rs,h1,h2,_⟩
  ·rw[h2] at e; cases e
  ·rw[h1] at e
   injection e with e1
   subst e1
   rw[ho] at h2; cases h2
theorem mD {s b:Nat} {v:PV} {rows:List (List PV)} {r:List PV} {o:Nat} {x:cE} {K:PV→PH→Prop} (h:aX H s v rows) (ho:H o=none) (hr:roomFor rows.length 1 b)
  (hk:∀ v' H',aX H' s v' (rows++[r])→H' o=some x→K v' H'):mW (H.set o x) s b v (.sl s [r]) K:=by
 obtain⟨h1,h2⟩:=h.fresh ho x
 refine cX (src:=[r]) h1 (by simp[dT]) hr fun v' H' hO hp=>hk v' H' hO (hp o x (by simp only[bA,if_true]) h2)
theorem wV {o s k:Nat} {rs:List (List PV)} (hk:k≤rs.length):PV.frz o s rs (.osl o s 0 k)=.sl s (rs.take k):=by
 have:0+k≤rs.length:=by omega
 simp only[PV.frz,PV.rK,PV.dP,if_true,true_and,if_pos this,bJR]
end
open Go Go.Na
def fE (n:Nat):Bool:=decide (97≤n)&&decide (n≤122)||decide (65≤n)&&decide (n≤90)
def lE (n:Nat):Bool:=decide (48≤n)&&decide (n≤57)
def gU (n:Nat):Bool:=fE n||lE n||decide (n=45)||decide (n=46)
theorem a5C {C:Ctx} (n:Nat):kM.wp C (aR DS.res (aD (.bool (fE n)))) (PF.args [.int .u8 n]) .nil:=by
 have fin:∀ (F:PF) (b:Bool),F 2=some (.bool b)→b=fE n→aR DS.res (aD (.bool (fE n))) .ret F .nil:=by
  intro F b h e
  subst e
  refine aM (.inr rfl) (vs:=[.bool (fE n)]) (by simp only[go_sem,DS,h]) rfl
 unfold fE at *
 by_cases a:97≤n
 ·have a':(n:Int)≥97:=by omega
  by_cases b:n≤122
  ·have b':(n:Int)≤122:=by omega
   simp only[go_sem,γ,reduceCtorEq,kM,oV,oW,a',b']
   exact fin _ _ rfl (by simp[a,b])
  ·have b':¬ (n:Int)≤122:=by omega
   by_cases c:65≤n
   ·have c':(n:Int)≥65:=by omega
    have d:¬ (n:Int)≤90:=by omega
    simp only[go_sem,γ,reduceCtorEq,kM,oV,oW,a',b',c',d]
    exact fin _ _ rfl (by simp[a,b,c]; omega)
   ·omega
 ·have a':¬ (n:Int)≥97:=by omega
  by_cases c:65≤n
  ·have c':(n:Int)≥65:=by omega
   by_cases d:n≤90
   ·have d':(n:Int)≤90:=by omega
    simp only[go_sem,γ,reduceCtorEq,kM,oV,oW,a',c',d']
    exact fin _ _ rfl (by simp[a,c,d])
   ·have d':¬ (n:Int)≤90:=by omega
    simp only[go_sem,γ,reduceCtorEq,kM,oV,oW,a',c',d']
    exact fin _ _ rfl (by simp[a,c,d])
  ·have c':¬ (n:Int)≥65:=by omega
   simp only[go_sem,γ,reduceCtorEq,kM,oV,oW,a',c']
   exact fin _ _ rfl (by simp[a,c])
theorem bbW {C:Ctx} (n:Nat):pN.wp C (aR MJ.res (aD (.bool (lE n)))) (PF.args [.int .u8 n]) .nil:=by
 have fin:∀ (F:PF) (b:Bool),F 2=some (.bool b)→b=lE n→aR MJ.res (aD (.bool (lE n))) .ret F .nil:=by
  intro F b h e
  subst e
  refine aM (.inr rfl) (vs:=[.bool (lE n)]) (by simp only[go_sem,MJ,h]) rfl
 unfold lE at *
 by_cases a:48≤n
 ·have a':(n:Int)≥48:=by omega
  by_cases b:n≤57
  ·have b':(n:Int)≤57:=by omega
   simp only[go_sem,γ,reduceCtorEq,pN,zI,zJ,a',b']
   exact fin _ _ rfl (by simp[a,b])
  ·have b':¬ (n:Int)≤57:=by omega
   simp only[go_sem,γ,reduceCtorEq,pN,zI,zJ,a',b']
   exact fin _ _ rfl (by simp[a,b])
 ·have a':¬ (n:Int)≥48:=by omega
  simp only[go_sem,γ,reduceCtorEq,pN,zI,zJ,a']
  exact fin _ _ rfl (by simp[a])
theorem bcH {C:Ctx} (h1:∀ n:Nat,aH C 126 [.int .u8 n] .nil (aD (.bool (fE n)))) (h2:∀ n:Nat,aH C 124 [.int .u8 n] .nil (aD (.bool (lE n)))) (n:Nat) :
  AW.wp C (aR MM.res (aD (.bool (gU n)))) (PF.args [.int .u8 n]) .nil:=by
 have fin:∀ (F:PF) (b:Bool),F 2=some (.bool b)→b=gU n→aR MM.res (aD (.bool (gU n))) .ret F .nil:=by
  intro F b h e
  subst e
  refine aM (.inr rfl) (vs:=[.bool (gU n)]) (by simp only[go_sem,MM,h]) rfl
 simp only[go_sem,reduceCtorEq,AW,anV,anW]
 refine aA (h1 n) rfl ?_
 cases hl:fE n with
 | true =>
  simp only[go_sem,γ]
  exact fin _ _ rfl (by simp[gU,hl])
 | false =>
  simp only[go_sem,γ,reduceCtorEq]
  refine aA (h2 n) rfl ?_
  cases hd:lE n with
  | true =>
   simp only[go_sem,γ,reduceCtorEq]
   exact fin _ _ rfl (by simp[gU,hd])
  | false =>
   by_cases c:n=45
   ·simp only[go_sem,γ,reduceCtorEq,bO (Om:(n:Int)=45)]
    exact fin _ _ rfl (by simp[gU,c])
   ·by_cases d:n=46
    ·simp only[go_sem,γ,reduceCtorEq,bF (Om:(n:Int)≠45),bO (Om:(n:Int)=46)]
     exact fin _ _ rfl (by simp[gU,d])
    ·simp only[go_sem,γ,reduceCtorEq,bF (Om:(n:Int)≠45),bF (Om:(n:Int)≠46)]
     exact fin _ _ rfl (by simp[gU,c,d,hl,hd])
def isName (s:List UInt8):Bool:=match s with
 | []=>false
 | c::_=>decide (s.length≤16)&&fE c.toNat&&s.all fun c=>gU c.toNat
theorem nU {α:Type} {p:α→Bool} {l:List α} {k:Nat} (hk:k<l.length) (h:(l.take k).all p=true) (hp:p l[k]=true):(l.take (k+1)).all p=true:=by
 rw[bKM hk,List.all_append,h]; simp[hp]
theorem nY {α:Type} {p:α→Bool} {l:List α} {k:Nat} (hk:k<l.length) (hp:p l[k]=false):l.all p=false:=by
 rw[List.all_eq_false]
 exact⟨l[k],bIS hk,by simp[hp]⟩
def aEN (s:List UInt8) (k:Nat):PF:=((PF.nil.set 0 (.str s)).set 3 (.int .i64 k))
theorem bkW {C:Ctx} (h1:∀ n:Nat,aH C 126 [.int .u8 n] .nil (aD (.bool (fE n)))) (h2:∀ n:Nat,aH C 125 [.int .u8 n] .nil (aD (.bool (gU n)))) (s:List UInt8) :
  rP.wp C (aR abQ.res (aD (.bool (isName s)))) (PF.args [.str s]) .nil:=by
 have fin:∀ (F:PF) (b:Bool),F 2=some (.bool b)→b=isName s→aR abQ.res (aD (.bool (isName s))) .ret F .nil:=by
  intro F b h e
  subst e
  refine aM (.inr rfl) (vs:=[.bool (isName s)]) (by simp only[go_sem,abQ,h]) rfl
 cases s with
 | nil =>
  simp only[go_sem,γ,reduceCtorEq,rP,FW,FX,FY]
  exact fin _ _ rfl rfl
 | cons c t =>
  have hz:(c::t)[0]?=some c:=rfl
  have hne:(c::t==[])=false:=rfl
  have hN:isName (c::t)=(decide ((c::t).length≤16)&&fE c.toNat&&(c::t).all fun c=>gU c.toNat):=rfl
  generalize c::t=s at *
  by_cases hl:s.length≤16
  ·have hl':¬ ((s.length:Nat):Int)>16:=by omega
   rw[decide_eq_true hl,bJC] at hN
   simp only[go_sem,ν,γ,reduceCtorEq,rP,FW,FX,hne,hl',hz,bJS]
   refine aA (h1 c.toNat) rfl ?_
   cases hc:fE c.toNat with
   | false =>
    simp only[go_sem,γ,reduceCtorEq,bIY,FY]
    exact fin _ _ rfl (by rw[hN,hc]; rfl)
   | true =>
    rw[hc,bJC] at hN
    simp only[go_sem,γ,reduceCtorEq,bIO,aEP]
    refine wp_loop (α:=Nat) (fun k=>aEN s k) (fun _=>.nil) (fun k=>k≤s.length∧(s.take k).all (fun c=>gU c.toNat)=true) (fun k=>s.length-k) 0 ⟨bIT _,rfl⟩ ?_ PH.nil_le ?_
    ·unfold aEN
     exact Lq
    rintro k ⟨hk,ha⟩
    simp only[go_sem,γ,reduceCtorEq,aEO,aEQ,aEN]
    by_cases hlt:k<s.length
    ·have bGO:(k:Int)<(s.length:Nat):=by omega
     have hg:s[k]?=some s[k]:=bIZ hlt
     simp only[go_sem,γ,reduceCtorEq,bGO,aER,hg,bJS]
     refine aA (h2 (s[k]).toNat) rfl ?_
     cases hi:gU (s[k]).toNat with
     | false =>
      simp only[go_sem,γ,reduceCtorEq,bIY,aES]
      refine fin _ false rfl ?_
      rw[hN,nY hlt hi]
     | true =>
      simp only[go_sem,γ,reduceCtorEq,bIO,aET,ws k]
      refine aC (k+1) ⟨hlt,bJL.1 (nU hlt ha hi)⟩ Om ?_ PH.nil_le
      exact Lq
    ·have bGO:¬ (k:Int)<(s.length:Nat):=by omega
     simp only[go_sem,bGO,aEU]
     have:k=s.length:=by omega
     subst this
     rw[bJD (bIU _)] at ha
     exact fin _ true rfl (by rw[hN,ha])
  ·have hl':((s.length:Nat):Int)>16:=by omega
   simp only[go_sem,γ,reduceCtorEq,rP,FW,FX,FY,hne,hl']
   exact fin _ _ rfl (by rw[hN,decide_eq_false hl]; rfl)
abbrev dA (x:Int):Prop:=-9223372036854775808≤x∧x≤9223372036854775807
structure bZ where
 name:List UInt8
 start:List RF
 bGM:List (List RF)
 exit:List RF
structure cH where
 name:List UInt8
 bHC:Int
 port:Int
 law:Int
structure cG where
 name:List UInt8
 level:Int
 parent:Int
 bHI:Int
 bHA:RF
structure dD where
 name:List UInt8
 model:Int
 machine:Int
structure cF where
 name:List UInt8
 k:Int
 m:Int
 bHM:Int
 s0:Int
 s1:Int
 s2:Int
 s3:Int
 s4:Int
 bGH:List Int
 repair:List RF
 target:RF
 bGU:RF
structure eF where
 name:List UInt8
 bGW:Int
structure aE where
 bHW:Int
 bGR:List bZ
 bGH:List cH
 bGK:List cG
 bGG:List dD
 bGL:List cF
 bGJ:List eF
abbrev a7Y (l:List (List RF)):PV:=.sl 1 (l.map fun r=>[frs r])
abbrev bZ.cells (x:bZ):List PV:=[.str x.name,frs x.start,a7Y x.bGM,frs x.exit]
abbrev cH.cells (x:cH):List PV:=[.str x.name,.int .i64 x.bHC,.int .i64 x.port,.int .i64 x.law]
abbrev cG.cells (x:cG):List PV:=[.str x.name,.int .i64 x.level,.int .i64 x.parent,.int .i64 x.bHI,.bool x.bHA.neg,aI x.bHA.num,aI x.bHA.den]
abbrev dD.cells (x:dD):List PV:=[.str x.name,.int .i64 x.model,.int .i64 x.machine]
abbrev cF.cells (x:cF):List PV:=[.str x.name,.int .i64 x.k,.int .i64 x.m,.int .i64 x.bHM,.int .i64 x.s0,.int .i64 x.s1,.int .i64 x.s2,.int .i64 x.s3,.int .i64 x.s4,ints x.bGH,frs x.repair,
 .bool x.target.neg,aI x.target.num,aI x.target.den,.bool x.bGU.neg,aI x.bGU.num,aI x.bGU.den]
abbrev eF.cells (x:eF):List PV:=[.str x.name,.int .i64 x.bGW]
abbrev aE.cells (f:aE):List PV:=[.int .i64 f.bHW,.sl 4 (f.bGR.map bZ.cells),.sl 4 (f.bGH.map cH.cells),.sl 7 (f.bGK.map cG.cells),.sl 3 (f.bGG.map dD.cells),.sl 17 (f.bGL.map cF.cells),.sl 2 (f.bGJ.map eF.cells)]
def cF.spread (p:cF) (level:Nat):Int:=match level with
 | 0=>p.s0
 | 1=>p.s1
 | 2=>p.s2
 | 3=>p.s3
 | _=>p.s4
abbrev Fits {α:Type} (l:List α):Prop:=l.length≤9223372036854775807
structure gS (l:List RF):Prop where
 fits:Fits l
 all:∀ x∈l,x.Ok
structure bZ.Ok (x:bZ):Prop where
 start:gS x.start
 exit:gS x.exit
 bGM:Fits x.bGM
 row:∀ r∈x.bGM,gS r
structure cF.Ok (x:cF):Prop where
 k:dA x.k
 m:dA x.m
 bHM:dA x.bHM
 bGH:Fits x.bGH
 each:∀ m∈x.bGH,dA m
 repair:gS x.repair
 target:x.target.Ok
 bGU:x.bGU.Ok
structure aE.Ok (f:aE):Prop where
 bGR:Fits f.bGR
 bGH:Fits f.bGH
 bGK:Fits f.bGK
 bGG:Fits f.bGG
 bGL:Fits f.bGL
 bGJ:Fits f.bGJ
 law:∀ x∈f.bGR,x.Ok
 dom:∀ x∈f.bGK,x.bHA.Ok∧dA x.level∧dA x.parent
 drive:∀ x∈f.bGG,dA x.model∧dA x.machine
 bGW:∀ x∈f.bGL,x.Ok
 volume:∀ x∈f.bGJ,dA x.bGW
def nJ (x:RF):FR:=if cK (val x.num) (val x.den) then gQ x.neg (val x.num) (val x.den) else .error 1
theorem a7R (x:RF):RK x.neg (val x.num) (val x.den)=frV (nJ x):=by
 unfold RK nJ
 split
 ·exact akK _ _ _
 ·rfl
def cI (x:RF):Bool:=match nJ x with
 | .ok (n,a,b)=>!n&&(decide (cC a≤32)&&decide (cC b≤32))
 | .error _=>false
def cB (x:RF):Bool:=decide (val x.num≠0)
def vC (x:RF):Bool:=cK (val x.num) (val x.den)&&decide (qE x.neg (val x.num) (val x.den) false 1 1≤0)
def within (n lo hi:Int):Bool:=decide (lo≤n)&&decide (n≤hi)
def cM (R:List Bool) (i:Nat) (row:List RF):Nat→List Bool
 | 0=>R
 | k+1=>let R':=cM R i row k
  R'.set i (R'.getD i false||(row.map cB).getD k false&&R'.getD k false)
def yG (l:bZ) (R:List Bool) (i:Nat):List Bool :=
 cM (R.set i (R.getD i false||(l.exit.map cB).getD i false)) i (l.bGM.getD i []) (l.bGM.getD i []).length
def cT (l:bZ) (R:List Bool):Nat→List Bool
 | 0=>R
 | i+1=>yG l (cT l R i) i
def cZ (l:bZ):Nat→List Bool
 | 0=>bIP l.exit.length false
 | r+1=>cT l (cZ l r) l.exit.length
def vK (l:bZ):Bool:=(cZ l (l.exit.length+1)).all id
def kY (l:bZ):Bool :=
 within l.start.length 1 4&&decide (l.exit.length=l.start.length)&&decide (l.bGM.length=l.start.length)&&l.start.all cI&&l.exit.all cI
 && (bIN l.bGM.length).all (fun i=>decide ((l.bGM.getD i []).length=l.start.length)&&(l.bGM.getD i []).all cI&&!((l.bGM.getD i []).map cB).getD i false)
 && (match oN (l.start.map RF.v) with
  | .ok (n,a,b)=>decide (qE n a b false 1 1=0)
  | .error _=>false)&&vK l
def distinct (l:List (List UInt8)):Bool:=(bIN l.length).all fun i=>isName (l.getD i [])&&!(l.take i).contains (l.getD i [])
def VC (f:aE) (i:Nat) (d:cG):Bool :=
 within d.parent 0 i&&decide ((f.bGK.map cG.level).getD d.parent.toNat 0=IntKind.i64.wrap (d.level-1))&&within d.level 1 4&&within d.bHI 1 64&&cI d.bHA
def QQ (f:aE) (r:cG) (t:List cG):Bool :=
 decide (r.name=[])&&decide (r.level=0)&&decide (r.parent=-1)&&decide (r.bHI=0)&&cI r.bHA&&!cB r.bHA
  && (bIN t.length).all fun i=>match t[i]? with
   | some d=>VC f i d
   | none=>false
def pR (f:aE):Bool:=match f.bGK with
 | []=>false
 | r::t=>QQ f r t
def NP (p:cF):Bool :=
 within p.k 1 6&&within p.m 0 4&&decide (p.k+p.m≤8)&&within p.bHM p.k (p.k+p.m)&&decide (p.s0=0)&&([p.s0,p.s1,p.s2,p.s3,p.s4].all fun n=>within n 0 8)
def HL (p:cF):Bool :=
 decide ((p.repair.length:Int)=max p.m 1)&&(p.repair.all fun x=>cI x&&cB x)&&cI p.target&&vC p.target&&cI p.bGU
def jY (bGH:Nat) (p:cF):Bool :=
 NP p&&decide (p.bGH.length≠0)&&HL p&&(bIN p.bGH.length).all fun j=>within (p.bGH.getD j 0) 0 ((bGH:Int)-1)&&!(p.bGH.take j).contains (p.bGH.getD j 0)
def jQ (f:aE) (m:cH):Bool:=within m.bHC 1 16&&within m.port 1 64&&within m.law 0 ((f.bGR.length:Int)-1)
def iH (f:aE) (d:dD):Bool:=within d.model 0 ((f.bGH.length:Int)-1)&&within d.machine 0 ((f.bGK.length:Int)-1)&&decide ((f.bGK.map cG.level).getD d.machine.toNat 0=4)
def nK (f:aE) (v:eF):Bool:=within v.bGW 0 ((f.bGL.length:Int)-1)
def nA (f:aE):Bool:=within f.bHW 1 4&&decide (f.bGR.length≤4)&&decide (f.bGH.length≤4)&&decide (f.bGK.length≤40)&&decide (f.bGG.length≤24)&&decide (f.bGL.length≤4)&&decide (f.bGJ.length≤12)
def cU (f:aE):Bool :=
 nA f&&pR f&&(f.bGR.all kY&&f.bGH.all (jQ f)&&f.bGG.all (iH f)&&f.bGL.all (jY f.bGH.length)&&f.bGJ.all (nK f))
 && (distinct (f.bGR.map bZ.name)&&distinct (f.bGH.map cH.name)&&distinct ((f.bGK.drop 1).map cG.name++f.bGG.map dD.name)&&distinct (f.bGL.map cF.name)&&distinct (f.bGJ.map eF.name))
theorem aY {t:Nat} {b b':Bool} {F:PF} {H:PH} (h:F t=some (.bool b)) (e:b=b'):aR [.tmp t] (bP (.bool b')) .ret F H:=by
 subst e
 exact aV (.inr rfl) .nil (vs:=[.bool b]) (by rw[kP,nH,h,pC]) PH.nil_le ⟨.refl _,rfl⟩
theorem bvM {C:Ctx} (n lo hi:Int):xQ.wp C (aR gin.res (bP (.bool (within n lo hi)))) (PF.args [.int .i64 n,.int .i64 lo,.int .i64 hi]) .nil:=by
 by_cases a:lo≤n
 ·by_cases b:n≤hi
  ·simp only[go_sem,γ,reduceCtorEq,xQ,abD,abE,gin,show n≥lo from a,b]
   exact aY rfl (by simp[within,a,b])
  ·simp only[go_sem,γ,reduceCtorEq,xQ,abD,abE,gin,show n≥lo from a,b]
   exact aY rfl (by simp[within,a,b])
 ·have a':¬ n≥lo:=a
  simp only[go_sem,γ,reduceCtorEq,xQ,abD,abE,gin,a']
  exact aY rfl (by simp[within,a])
theorem bbE {C:Ctx} (L:rD C) (x:RF) (hx:x.Ok):AP.wp C (aR abB.res (bP (.bool (cB x)))) (PF.args [.agg x.cells]) .nil:=by
 simp only[go_sem,δ,γ,θ,AP,amW,amX,abB]
 refine aA (L.bits x.num hx.1 hx.2.2.1) rfl ?_
 simp only[go_sem,γ]
 refine aY rfl ?_
 have:=@jK (val x.num)
 rw[cB,decide_eq_decide]
 omega
structure axH (C:Ctx):Prop extends EI C where
 frac:∀ n d:Int,dA n→dA d→aH C 115 [.int .i64 n,.int .i64 d] .nil (aD (abU n d))
 red:∀ x:RF,x.Ok→aH C 116 [.agg x.cells] .nil (aD (frV (nJ x)))
 ord:∀ x y:RF,x.Ok→y.Ok→aH C 114 [.agg x.cells,.agg y.cells] .nil (aD (zB x.neg (val x.num) (val x.den) y.neg (val y.num) (val y.den)))
 plus:∀ x y:RF,x.Ok→y.Ok→aH C 113 [.agg x.cells,.agg y.cells] .nil (aD (frV (gY x.v y.v)))
 tot:∀ l:List RF,gS l→aH C 117 [frs l] .nil (aD (frV (oN (l.map RF.v))))
theorem FZ {neg:Bool} {a b:Nat} {e:Int} (h:gQ neg a b=.error e):e=2:=by
 unfold gQ at h
 split at h
 ·injection h with h; exact h.symm
 ·cases h
theorem aIQ {x:RF} {e:Int} (h:nJ x=.error e):e≠0:=by
 unfold nJ at h
 split at h
 ·rw[FZ h]; decide
 ·injection h with h; subst h; decide
theorem btD {x:RF} {r:FV} (h:nJ x=.ok r):r.rf.Ok:=by
 unfold nJ at h
 split at h
 ·exact (rQ h).2
 ·cases h
theorem bqW {C:Ctx} (L:axH C) (x:RF) (hx:x.Ok):MC.wp C (aR a3Y.res (bP (.bool (cI x)))) (PF.args [.agg x.cells]) .nil:=by
 simp only[go_sem,δ,γ,MC,aUL,aUM,a3Y]
 refine aA (L.red x hx) rfl ?_
 unfold cI
 cases hr:nJ x with
 | error e =>
  have:=bF (aIQ hr)
  simp only[go_sem,δ,γ,frV]
  refine aO fun o ho=>?_
  simp only[go_sem,δ,γ,reduceCtorEq,QZ,this]
  exact aY rfl rfl
 | ok r =>
  obtain⟨n,a,b⟩:=r
  obtain⟨l1,l2,l3,l4⟩:=btD hr
  simp only[go_sem,δ,γ,frV]
  refine aO fun o ho=>?_
  cases n with
  | true =>
   simp only[go_sem,ρ,δ,γ,θ,reduceCtorEq,QZ]
   exact aY rfl rfl
  | false =>
   simp only[go_sem,ρ,δ,γ,θ,QZ]
   refine aA (L.bits _ l1 l3) rfl ?_
   rw[show val (FV.rf (false,a,b)).num=a from aQ a]
   by_cases c1:cC a≤32
   ·have c1':((cC a:Nat):Int)≤32:=by omega
    simp only[go_sem,δ,γ,c1']
    refine aA (L.bits _ l2 l4) rfl ?_
    rw[show val (FV.rf (false,a,b)).den=b from aQ b]
    simp only[go_sem,γ]
    refine aY rfl ?_
    rw[decide_eq_true c1]
    simp
    omega
   ·have c1':¬ ((cC a:Nat):Int)≤32:=by omega
    simp only[go_sem,γ,reduceCtorEq,c1']
    refine aY rfl ?_
    rw[decide_eq_false c1]
    rfl
theorem aEX:gQ false 1 1=.ok (false,1,1):=by
 have:cC 1=1:=by rw[nZ (by decide),jC]
 simp[gQ,this]
theorem aEZ:abU 1 1=frV (.ok (false,1,1)):=by
 rw[abU,if_neg (by decide),akK]
 show frV (gQ false 1 1)=_
 rw[aEX]
theorem beG:(FV.rf (false,1,1)).Ok:=(rQ aEX).2
theorem avE:cK 1 1=true:=by
 have:cC 1=1:=by rw[nZ (by decide),jC]
 simp[cK,this]
theorem brA {C:Ctx} (L:axH C) (x:RF) (hx:x.Ok):ME.wp C (aR gone.res (bP (.bool (vC x)))) (PF.args [.agg x.cells]) .nil:=by
 simp only[go_sem,ME,aUQ,aUR,gone]
 refine aA (L.frac 1 1 (by decide) (by decide)) rfl ?_
 rw[aEZ]
 simp only[go_sem,δ,γ,frV]
 refine aO fun o ho=>?_
 simp only[go_sem,δ,γ,aUS]
 refine aA (L.ord x (FV.rf (false,1,1)) hx beG) rfl ?_
 rw[show val (FV.rf (false,1,1)).num=1 from aQ 1,show val (FV.rf (false,1,1)).den=1 from aQ 1,show (FV.rf (false,1,1)).neg=false from rfl]
 unfold zB vC
 rw[avE,bKZ]
 cases hv:cK (val x.num) (val x.den) with
 | false =>
  simp only[go_sem,ρ,γ,reduceCtorEq,akC]
  exact aY rfl rfl
 | true =>
  simp only[go_sem,ρ,γ,akC]
  exact aY rfl rfl
theorem bjN {C:Ctx} (p:RF→Bool) (fn:Nat) (l:List RF) (hf:Fits l) (h:∀ x∈l,aH C fn [.agg x.cells] .nil (aD (.bool (p x)))) :
  FB.wp C (aR axN.res (bP (.bool (l.all p)))) (PF.args [frs l,.fn fn []]) .nil:=by
 simp only[go_sem,γ,reduceCtorEq,FB,aBK,aBL,axN]
 refine wp_loop (α:=Nat) (fun k=>((((PF.nil.set 1 (.fn fn [])).set 7 (frs l)).set 8 (.int .i64 (l.length:Nat))).set 9 (.int .i64 k))) (fun _=>.nil) (fun k=>k≤l.length∧(l.take k).all p=true) (fun k=>l.length-k) 0 ⟨bIT _,rfl⟩ ?_ PH.nil_le ?_
 ·(repeat' (first|exact PF.nil_le|refine PF.aF ?_ ?_))<;>first|(simp only[go_sem,γ,bIM]<;>rfl)|rfl
 rintro k ⟨hk,ha⟩
 simp only[go_sem,γ,aBJ,aBM]
 by_cases hlt:k<l.length
 ·have bGO:(k:Int)<(l.length:Nat):=by omega
  have hr:(l.map RF.cells)[k]?=some (l[k]).cells:=by simp[hlt]
  simp only[go_sem,δ,γ,bGO,aBN,hr]
  refine aO fun o ho=>?_
  simp only[go_sem,δ,γ,aBO]
  refine⟨fn,[],rfl,?_⟩
  refine aA (h _ (bIS hlt)) rfl ?_
  cases hp:p l[k] with
  | false =>
   simp only[go_sem,γ,aBP]
   exact aY (b:=false) rfl (nY (p:=p) hlt hp).symm
  | true =>
   simp only[go_sem,γ,aBQ,ws k]
   refine aC (k+1) ⟨hlt,bJL.1 (nU hlt ha hp)⟩ Om ?_ PH.nil_le
   exact Lq
 ·have bGO:¬ (k:Int)<(l.length:Nat):=by omega
  simp only[go_sem,bGO,aBR]
  have:k=l.length:=by omega
  subst this
  rw[bJD (bIU _)] at ha
  exact aY rfl ha.symm
theorem bjP {C:Ctx} (p:Int→Bool) (fn:Nat) (l:List Int) (hf:Fits l) (h:∀ x∈l,aH C fn [.int .i64 x] .nil (aD (.bool (p x)))) :
  FC.wp C (aR axO.res (bP (.bool (l.all p)))) (PF.args [ints l,.fn fn []]) .nil:=by
 simp only[go_sem,γ,reduceCtorEq,FC,aBT,aBU,axO]
 refine wp_loop (α:=Nat) (fun k=>((((PF.nil.set 1 (.fn fn [])).set 7 (ints l)).set 8 (.int .i64 (l.length:Nat))).set 9 (.int .i64 k))) (fun _=>.nil) (fun k=>k≤l.length∧(l.take k).all p=true) (fun k=>l.length-k) 0 ⟨bIT _,rfl⟩ ?_ PH.nil_le ?_
 ·(repeat' (first|exact PF.nil_le|refine PF.aF ?_ ?_))<;>first|(simp only[go_sem,γ,bIM]<;>rfl)|rfl
 rintro k ⟨hk,ha⟩
 simp only[go_sem,γ,aBS,aBV]
 by_cases hlt:k<l.length
 ·have bGO:(k:Int)<(l.length:Nat):=by omega
  have hr:(l.map fun n=>[PV.int .i64 n])[k]?=some [.int .i64 l[k]]:=by simp[hlt]
  simp only[go_sem,γ,bGO,aBW,hr,aBX]
  refine⟨fn,[],rfl,?_⟩
  refine aA (h _ (bIS hlt)) rfl ?_
  cases hp:p l[k] with
  | false =>
   simp only[go_sem,γ,aBY]
   exact aY (b:=false) rfl (nY (p:=p) hlt hp).symm
  | true =>
   simp only[go_sem,γ,aBZ,ws k]
   refine aC (k+1) ⟨hlt,bJL.1 (nU hlt ha hp)⟩ Om ?_ PH.nil_le
   exact Lq
 ·have bGO:¬ (k:Int)<(l.length:Nat):=by omega
  simp only[go_sem,bGO,aCA]
  have:k=l.length:=by omega
  subst this
  rw[bJD (bIU _)] at ha
  exact aY rfl ha.symm
abbrev a2X (l:List Bool):PV:=.sl 1 (l.map fun b=>[PV.bool b])
theorem bjL {C:Ctx} (p:Bool→Bool) (fn:Nat) (l:List Bool) (hf:Fits l) (h:∀ x∈l,aH C fn [.bool x] .nil (aD (.bool (p x)))) :
  FA.wp C (aR axM.res (bP (.bool (l.all p)))) (PF.args [a2X l,.fn fn []]) .nil:=by
 simp only[go_sem,γ,reduceCtorEq,FA,aBB,aBC,axM]
 refine wp_loop (α:=Nat) (fun k=>((((PF.nil.set 1 (.fn fn [])).set 7 (a2X l)).set 8 (.int .i64 (l.length:Nat))).set 9 (.int .i64 k))) (fun _=>.nil) (fun k=>k≤l.length∧(l.take k).all p=true) (fun k=>l.length-k) 0 ⟨bIT _,rfl⟩ ?_ PH.nil_le ?_
 ·(repeat' (first|exact PF.nil_le|refine PF.aF ?_ ?_))<;>first|(simp only[go_sem,γ,bIM]<;>rfl)|rfl
 rintro k ⟨hk,ha⟩
 simp only[go_sem,γ,aBA,aBD]
 by_cases hlt:k<l.length
 ·have bGO:(k:Int)<(l.length:Nat):=by omega
  have hr:(l.map fun b=>[PV.bool b])[k]?=some [.bool l[k]]:=by simp[hlt]
  simp only[go_sem,γ,bGO,aBE,hr,aBF]
  refine⟨fn,[],rfl,?_⟩
  refine aA (h _ (bIS hlt)) rfl ?_
  cases hp:p l[k] with
  | false =>
   simp only[go_sem,γ,aBG]
   exact aY (b:=false) rfl (nY (p:=p) hlt hp).symm
  | true =>
   simp only[go_sem,γ,aBH,ws k]
   refine aC (k+1) ⟨hlt,bJL.1 (nU hlt ha hp)⟩ Om ?_ PH.nil_le
   exact Lq
 ·have bGO:¬ (k:Int)<(l.length:Nat):=by omega
  simp only[go_sem,bGO,aBI]
  have:k=l.length:=by omega
  subst this
  rw[bJD (bIU _)] at ha
  exact aY rfl ha.symm
theorem bbG {C:Ctx} (b:Bool):AQ.wp C (aR abC.res (bP (.bool b))) (PF.args [.bool b]) .nil:=by
 simp only[go_sem,γ,reduceCtorEq,AQ,amY,amZ,abC]
 exact aY rfl rfl
theorem bjU {C:Ctx} (hin:∀ n lo hi:Int,aH C 104 [.int .i64 n,.int .i64 lo,.int .i64 hi] .nil (aD (.bool (within n lo hi)))) (n:Int):FH.wp C (aR axQ.res (bP (.bool (within n 0 8)))) (PF.args [.int .i64 n]) .nil:=by
 simp only[go_sem,reduceCtorEq,FH,aCN,aCO,axQ]
 refine aA (hin n 0 8) rfl ?_
 simp only[go_sem,γ]
 exact aY rfl rfl
theorem bbJ {C:Ctx} (h1:∀ x:RF,x.Ok→aH C 105 [.agg x.cells] .nil (aD (.bool (cI x)))) (h2:∀ x:RF,x.Ok→aH C 97 [.agg x.cells] .nil (aD (.bool (cB x)))) (x:RF) (hx:x.Ok) :
  AR.wp C (aR abG.res (bP (.bool (cI x&&cB x)))) (PF.args [.agg x.cells]) .nil:=by
 simp only[go_sem,δ,γ,AR,anE,anF,abG]
 refine aA (h1 x hx) rfl ?_
 cases hl:cI x with
 | false =>
  simp only[go_sem,γ,reduceCtorEq]
  exact aY rfl rfl
 | true =>
  simp only[go_sem,δ,γ]
  refine aA (h2 x hx) rfl ?_
  simp only[go_sem,γ]
  exact aY rfl rfl
structure rB (C:Ctx):Prop extends axH C where
 inn:∀ n lo hi:Int,aH C 104 [.int .i64 n,.int .i64 lo,.int .i64 hi] .nil (aD (.bool (within n lo hi)))
 kR:∀ x:RF,x.Ok→aH C 97 [.agg x.cells] .nil (aD (.bool (cB x)))
 lim:∀ x:RF,x.Ok→aH C 105 [.agg x.cells] .nil (aD (.bool (cI x)))
 one:∀ x:RF,x.Ok→aH C 101 [.agg x.cells] .nil (aD (.bool (vC x)))
 allf:∀ (p:RF→Bool) (fn:Nat) (l:List RF),Fits l→(∀ x∈l,aH C fn [.agg x.cells] .nil (aD (.bool (p x))))→aH C 99 [frs l,.fn fn []] .nil (aD (.bool (l.all p)))
 alli:∀ (p:Int→Bool) (fn:Nat) (l:List Int),Fits l→(∀ x∈l,aH C fn [.int .i64 x] .nil (aD (.bool (p x))))→aH C 100 [ints l,.fn fn []] .nil (aD (.bool (l.all p)))
 allb:∀ (p:Bool→Bool) (fn:Nat) (l:List Bool),Fits l→(∀ x∈l,aH C fn [.bool x] .nil (aD (.bool (p x))))→aH C 98 [a2X l,.fn fn []] .nil (aD (.bool (l.all p)))
 ends1:∀ b:Bool,aH C 103 [.bool b] .nil (aD (.bool b))
 num1:∀ n:Int,aH C 107 [.int .i64 n] .nil (aD (.bool (within n 0 8)))
 rate1:∀ x:RF,x.Ok→aH C 109 [.agg x.cells] .nil (aD (.bool (cI x&&cB x)))
 name:∀ s:List UInt8,aH C 123 [.str s] .nil (aD (.bool (isName s)))
theorem rB.bkK {C:Ctx} (L:rB C) (l:List RF) (h:gS l):aH C 99 [frs l,.fn 105 []] .nil (aD (.bool (l.all cI))) :=
 L.allf cI 105 l h.fits fun x hx=>L.lim x (h.all x hx)
theorem within_iff {n lo hi:Int}:within n lo hi=true↔lo≤n∧n≤hi:=by simp[within]
theorem bqY {C:Ctx} (L:rB C) (p:cF) (hp:p.Ok) :
  MD.wp C (aR a3Z.res (bP (.bool (NP p)))) (PF.args [.int .i64 p.k,.int .i64 p.m,.int .i64 p.bHM,.agg [.int .i64 p.s0,.int .i64 p.s1,.int .i64 p.s2,.int .i64 p.s3,.int .i64 p.s4]]) .nil:=by
 simp only[go_sem,reduceCtorEq,MD,aUN,aUO,a3Z]
 refine aA (L.inn p.k 1 6) rfl ?_
 unfold NP
 cases h1:within p.k 1 6 with
 | false =>
  simp only[go_sem,γ,bIY,wY]
  exact aY rfl (by simp only[bIV])
 | true =>
  obtain⟨k1,k2⟩:=within_iff.1 h1
  simp only[go_sem,γ,bIO]
  refine aA (L.inn p.m 0 4) rfl ?_
  cases h2:within p.m 0 4 with
  | false =>
   simp only[go_sem,γ,reduceCtorEq,bIY,wY]
   exact aY rfl (by simp only[bIV,bJW])
  | true =>
   obtain⟨m1,m2⟩:=within_iff.1 h2
   have hw:IntKind.i64.wrap (p.k+p.m)=p.k+p.m:=wrap_i64 Om Om
   by_cases h3:p.k+p.m≤8
   ·have h3':¬ p.k+p.m>8:=by omega
    simp only[go_sem,γ,reduceCtorEq,bIO,hw,h3']
    refine aA (L.inn p.bHM p.k (p.k+p.m)) rfl ?_
    cases h4:within p.bHM p.k (p.k+p.m) with
    | false =>
     simp only[go_sem,γ,reduceCtorEq,bIY,wY]
     exact aY rfl (by simp only[bIV,bJW])
    | true =>
     have h50:(0:Int)<((5:Nat):Int):=by decide
     by_cases h5:p.s0=0
     ·have hch:chunks 1 5 [PV.int .i64 p.s0,.int .i64 p.s1,.int .i64 p.s2,.int .i64 p.s3,.int .i64 p.s4]=([p.s0,p.s1,p.s2,p.s3,p.s4].map fun n=>[PV.int .i64 n]):=rfl
      have hm:5≤maxLen:=by decide
      simp only[go_sem,ν,δ,γ,η,θ,ζ,reduceCtorEq,bIO,h50,bV h5,aUP,hch,hm]
      refine aA (L.alli (fun n=>within n 0 8) 107 [p.s0,p.s1,p.s2,p.s3,p.s4] (show 5≤9223372036854775807 by decide) fun x _=>L.num1 x) rfl ?_
      simp only[go_sem,γ]
      exact aY rfl (by rw[decide_eq_true h3,decide_eq_true h5]; simp only[bJC])
     ·simp only[go_sem,ν,δ,γ,θ,ζ,reduceCtorEq,bIO,h50,cQ h5,wY]
      exact aY rfl (by rw[decide_eq_false h5]; simp only[bIV,bJW])
   ·have h3':p.k+p.m>8:=by omega
    simp only[go_sem,γ,reduceCtorEq,bIO,hw,h3',wY]
    exact aY rfl (by rw[decide_eq_false h3]; simp only[bIV,bJW])
theorem max_eq (a b:Int):(if a<b then b else a)=max a b:=by
 rw[Int.max_def]
 by_cases h:a<b
 ·rw[if_pos h,if_pos Om]
 ·by_cases h':a≤b
  ·rw[if_neg h,if_pos h']; omega
  ·rw[if_neg h,if_neg h']
theorem bjW {C:Ctx} (L:rB C) (p:cF) (hp:p.Ok) :
  FI.wp C (aR axR.res (bP (.bool (HL p)))) (PF.args [.int .i64 p.m,frs p.repair,.agg p.target.cells,.agg p.bGU.cells]) .nil:=by
 simp only[go_sem,γ,reduceCtorEq,FI,aCS,aCT,axR,max_eq,bIM]
 unfold HL
 by_cases h1:(p.repair.length:Int)=max p.m 1
 ·simp only[go_sem,γ,bO h1]
  refine aA (L.allf (fun x=>cI x&&cB x) 109 p.repair hp.repair.fits fun x hx=>L.rate1 x (hp.repair.all x hx)) rfl ?_
  rw[decide_eq_true h1,bJC]
  cases h2:p.repair.all fun x=>cI x&&cB x with
  | false =>
   simp only[go_sem,γ,reduceCtorEq]
   exact aY rfl rfl
  | true =>
   simp only[go_sem,δ,γ]
   refine aA (L.lim _ hp.target) rfl ?_
   cases h3:cI p.target with
   | false =>
    simp only[go_sem,γ,reduceCtorEq]
    exact aY rfl rfl
   | true =>
    simp only[go_sem,δ,γ]
    refine aA (L.one _ hp.target) rfl ?_
    cases h4:vC p.target with
    | false =>
     simp only[go_sem,γ,reduceCtorEq]
     exact aY rfl rfl
    | true =>
     simp only[go_sem,δ,γ]
     refine aA (L.lim _ hp.bGU) rfl ?_
     simp only[go_sem,γ]
     exact aY rfl rfl
 ·simp only[go_sem,γ,reduceCtorEq,bF h1]
  exact aY rfl (by rw[decide_eq_false h1]; rfl)
def pE (l:List (List UInt8)) (k:List KS):Option PV:=match k with
 | [.str s]=>if l.contains s then some (.bool true) else none
 | _=>none
theorem bfI (l:List (List UInt8)) (s:List UInt8):(fun k=>if k=[KS.str s] then some (PV.bool true) else pE l k)=pE (l++[s]):=by
 funext k
 match k with
 | []=>rfl
 | [.int a b]=>simp[pE]
 | [.bool a]=>simp[pE]
 | [.str t] =>
  by_cases h:t=s
  ·subst h; simp[pE]
  ·simp[pE,h]
 | a::b::c=>simp[pE]
abbrev texts (l:List (List UInt8)):PV:=.sl 1 (l.map fun s=>[PV.str s])
theorem bfH:pE []=(fun _=>none:kW):=by
 funext k
 match k with
 | []=>rfl
 | [.int a b]=>rfl
 | [.bool a]=>rfl
 | [.str t]=>rfl
 | a::b::c=>cases a<;>rfl
theorem bfJ (l:List (List UInt8)) (s:List UInt8):kW.upd (pE l) [KS.str s] (.bool true)=pE (l++[s]):=bfI l s
theorem aJA (l:List (List UInt8)) (s:List UInt8):(pE l [KS.str s]).getD (.bool false)=.bool (l.contains s):=by
 show (if l.contains s then some (PV.bool true) else none).getD (.bool false)=_
 cases l.contains s<;>rfl
theorem alN {p:Nat→Bool} {k:Nat} (h:(bIN k).all p=true) (hp:p k=true):(bIN (k+1)).all p=true:=by
 rw[List.range_succ,List.all_append,h]; simp[hp]
theorem dH {p:Nat→Bool} {n k:Nat} (hk:k<n) (hp:p k=false):(bIN n).all p=false:=by
 rw[List.all_eq_false]
 exact⟨k,bKR.2 hk,by simp[hp]⟩
def nL (p:Nat→Bool) (k:Nat):Prop:=(bIN k).all p=true
theorem nL.zero {p:Nat→Bool}:nL p 0:=rfl
theorem nL.step {p:Nat→Bool} {k:Nat} (h:nL p k) (hp:p k=true):nL p (k+1):=alN h hp
def a8Y (l:List (List UInt8)) (o k:Nat):PF:=((((PF.nil.set 3 (.map o)).set 7 (texts l)).set 8 (.int .i64 (l.length:Nat))).set 9 (.int .i64 k))
theorem bjZ {C:Ctx} (L:rB C) (l:List (List UInt8)) (hf:Fits l):FJ.wp C (aR axS.res (bP (.bool (distinct l)))) (PF.args [texts l]) .nil:=by
 simp only[go_sem,FJ,aCW,aCX,axS]
 refine aO fun o ho=>?_
 simp only[go_sem,γ,reduceCtorEq,aCY]
 have e0:(PH.nil.set o (.map (false,[.str]) (fun _=>none)))=PH.nil.set o (.map (false,[.str]) (pE (l.take 0))):=by rw[List.take_zero,bfH]
 unfold distinct
 generalize hp:(fun i=>isName (l.getD i [])&&!(l.take i).contains (l.getD i []))=p
 have hpk:∀ k (h:k<l.length),p k=(isName l[k]&&!(l.take k).contains l[k]):=by
  intro k h
  rw[← hp]
  simp only[bJE,bIZ h,bKK]
 refine wp_loop (α:=Nat) (fun k=>a8Y l o k) (fun k=>PH.nil.set o (.map (false,[.str]) (pE (l.take k)))) (fun k=>k≤l.length∧nL p k) (fun k=>l.length-k) 0 ⟨bIT _,.zero⟩ ?_ ?_ ?_
 ·unfold a8Y
  (repeat' (first|exact PF.nil_le|refine PF.aF ?_ ?_))<;>first|(simp only[go_sem,γ,bIM]<;>rfl)|rfl
 ·rw[e0]; exact PH.le_refl
 rintro k ⟨hk,ha⟩
 simp only[go_sem,γ,aCV,aCZ,a8Y]
 by_cases hlt:k<l.length
 ·have bGO:(k:Int)<(l.length:Nat):=by omega
  have hr:(l.map fun s=>[PV.str s])[k]?=some [.str l[k]]:=by simp[hlt]
  simp only[go_sem,γ,bGO,aDA,hr,aDB]
  refine aA (L.name l[k]) rfl ?_
  have hk2:=hpk k hlt
  cases h1:isName l[k] with
  | false =>
   rw[h1,bIV] at hk2
   simp only[go_sem,γ,bIY,VR]
   exact aY (b:=false) rfl (dH hlt hk2).symm
  | true =>
   rw[h1,bJC] at hk2
   cases h2:(l.take k).contains l[k] with
   | true =>
    rw[h2] at hk2
    simp only[go_sem,γ,reduceCtorEq,bIO,aJA,h2,VR]
    exact aY (b:=false) rfl (dH hlt hk2).symm
   | false =>
    rw[h2] at hk2
    simp only[go_sem,γ,reduceCtorEq,bIO,aJA,h2,aDC,bfJ,aDD,ws k]
    refine aC (k+1) ⟨hlt,ha.step hk2⟩ Om ?_ ?_
    ·exact Lq
    ·rw[bKM hlt]
     exact PH.aF PH.nil_le Sq
 ·have bGO:¬ (k:Int)<(l.length:Nat):=by omega
  simp only[go_sem,bGO,anG]
  have:k=l.length:=by omega
  subst this
  exact aY (b:=true) rfl (show nL p l.length from ha).symm
def marks (n:Nat) (l:List Int):List Bool:=(bIN n).map fun (i:Nat)=>l.contains (i:Int)
theorem bcZ (n:Nat) (l:List Int):(marks n l).length=n:=by simp[marks]
theorem aoG (n:Nat):marks n []=bIP n false:=by
 refine bLI (by simp[marks]) fun i h1 h2=>by simp[marks]
theorem WJ {n:Nat} {l:List Int} {m:Int} (h0:0≤m) (h1:m<n):(marks n l)[m.toNat]?=some (l.contains m):=by
 have:m.toNat<n:=by omega
 simp only[marks,bJU,List.getElem?_range this,bJS]
 rw[Int.toNat_of_nonneg h0]
theorem aoI {n:Nat} {l:List Int} {m:Int} (h0:0≤m) (h1:m<n):(marks n l).set m.toNat true=marks n (l++[m]):=by
 refine bLI (by simp[marks]) fun i h2 h3=>?_
 simp only[marks,bKI,List.getElem_range,List.getElem_set,List.contains_append]
 by_cases h:m.toNat=i
 ·subst h
  rw[if_pos rfl,Int.toNat_of_nonneg h0]; simp
 ·have hne:((i:Nat):Int)≠m:=by omega
  rw[if_neg h]; simp[hne]
abbrev eH (l:List Bool):List (List PV):=l.map fun b=>[PV.bool b]
theorem kB (l:List Bool) (i:Nat) (b:Bool):(eH l).set i [.bool b]=eH (l.set i b):=by unfold eH; rw[List.map_set]
structure ayY (C:Ctx):Prop extends rB C where
 num:∀ p:cF,p.Ok→aH C 106 [.int .i64 p.k,.int .i64 p.m,.int .i64 p.bHM,.agg [.int .i64 p.s0,.int .i64 p.s1,.int .i64 p.s2,.int .i64 p.s3,.int .i64 p.s4]] .nil (aD (.bool (NP p)))
 rate:∀ p:cF,p.Ok→aH C 108 [.int .i64 p.m,frs p.repair,.agg p.target.cells,.agg p.bGU.cells] .nil (aD (.bool (HL p)))
 uniq:∀ l:List (List UInt8),Fits l→aH C 110 [texts l] .nil (aD (.bool (distinct l)))
def bmJ (p:cF) (bGH:Nat) (o k:Nat):PF:=(((((PF.nil.set 1 (.int .i64 bGH)).set 5 (.osl o 1 0 bGH)).set 39 (ints p.bGH)).set 40 (.int .i64 (p.bGH.length:Nat))).set 41 (.int .i64 k))
theorem brC {C:Ctx} (L:ayY C) (p:cF) (hp:p.Ok) (bGH:Nat) (hm:bGH≤4):MF.wp C (aR a4A.res (bP (.bool (jY bGH p)))) (PF.args [.agg p.cells,.int .i64 bGH]) .nil:=by
 simp only[go_sem,δ,γ,θ,MF,aUT,aUU,a4A]
 refine aA (L.num p hp) rfl ?_
 unfold jY
 cases h1:NP p with
 | false =>
  simp only[go_sem,γ,bIY,RA]
  exact aY rfl (by simp only[bIV])
 | true =>
  by_cases h2:p.bGH.length=0
  ·simp only[go_sem,δ,γ,θ,reduceCtorEq,bIO,bIM,bO (Om:((p.bGH.length:Nat):Int)=0),RA]
   refine aY rfl ?_
   have:decide (p.bGH.length≠0)=false:=by simp[h2]
   rw[this]; simp only[bIV,bJW]
  ·have h2':decide (p.bGH.length≠0)=true:=by simp[h2]
   simp only[go_sem,δ,γ,θ,reduceCtorEq,bIO,bIM,bF (Om:((p.bGH.length:Nat):Int)≠0)]
   refine aA (L.rate p hp) rfl ?_
   rw[h2']
   cases h3:HL p with
   | false =>
    simp only[go_sem,γ,reduceCtorEq,bIY,RA]
    exact aY rfl (by simp only[bIV,bJW])
   | true =>
    have hb1:((bGH:Nat):Int)*((1:Nat):Int)≤140737488355328:=by omega
    have hb2:((bGH:Nat):Int)≤9223372036854775807:=by omega
    simp only[bJC]
    simp only[go_sem,γ,reduceCtorEq,bIO,aUV,hb1,hb2]
    refine aO fun o ho=>?_
    simp only[go_sem,δ,γ,θ,aUW]
    have e0:bIP bGH [PV.bool false]=eH (marks bGH (p.bGH.take 0)):=by
     rw[List.take_zero,aoG]; simp[eH]
    rw[e0]
    generalize hq:(fun j=>within (p.bGH.getD j 0) 0 ((bGH:Int)-1)&&!(p.bGH.take j).contains (p.bGH.getD j 0))=q
    have hqk:∀ k (h:k<p.bGH.length),q k=(within p.bGH[k] 0 ((bGH:Int)-1)&&!(p.bGH.take k).contains p.bGH[k]):=by
     intro k h
     rw[← hq]
     simp only[bJE,bIZ h,bKK]
    refine wp_loop (α:=Nat) (fun k=>bmJ p bGH o k) (fun k=>PH.nil.set o (.rows 1 (eH (marks bGH (p.bGH.take k))))) (fun k=>k≤p.bGH.length∧nL q k) (fun k=>p.bGH.length-k) 0 ⟨bIT _,.zero⟩ ?_ (PH.le_refl) ?_
    ·unfold bmJ
     (repeat' (first|exact PF.nil_le|refine PF.aF ?_ ?_))<;>first|(simp only[go_sem,γ,bIM]<;>rfl)|rfl
    rintro k ⟨hk,ha⟩
    simp only[go_sem,γ,aCP,aUX,bmJ]
    have bHX:=hp.bGH
    by_cases hlt:k<p.bGH.length
    ·have bGO:(k:Int)<(p.bGH.length:Nat):=by omega
     have hr:(p.bGH.map fun n=>[PV.int .i64 n])[k]?=some [.int .i64 p.bGH[k]]:=by simp[hlt]
     have hw:IntKind.i64.wrap ((bGH:Int)-1)=(bGH:Int)-1:=wrap_i64 Om Om
     simp only[go_sem,γ,bGO,aUY,hr,aUZ,hw]
     refine aA (L.inn p.bGH[k] 0 ((bGH:Int)-1)) rfl ?_
     have hk2:=hqk k hlt
     cases h1:within p.bGH[k] 0 ((bGH:Int)-1) with
     | false =>
      rw[h1,bIV] at hk2
      simp only[go_sem,γ,bIY,akD]
      exact aY (b:=false) rfl (dH hlt hk2).symm
     | true =>
      rw[h1,bJC] at hk2
      obtain⟨i1,i2⟩:=within_iff.1 h1
      have i3:p.bGH[k]<(bGH:Nat):=by omega
      have hmk:(eH (marks bGH (p.bGH.take k)))[p.bGH[k].toNat]?=some [.bool ((p.bGH.take k).contains p.bGH[k])]:=by
       unfold eH
       rw[bJU,WJ i1 i3]; rfl
      cases h2:(p.bGH.take k).contains p.bGH[k] with
      | true =>
       rw[h2] at hk2 hmk
       simp only[go_sem,γ,reduceCtorEq,bIO,i1,i3,bJJ,hmk,akD]
       exact aY (b:=false) rfl (dH hlt hk2).symm
      | false =>
       rw[h2] at hk2 hmk
       simp only[go_sem,γ,reduceCtorEq,bIO,i1,i3,bJJ,hmk,aVA,kB,aoI i1 i3,aCQ,ws k]
       refine aC (k+1) ⟨hlt,ha.step hk2⟩ Om ?_ ?_
       ·exact Lq
       ·rw[bKM hlt]
        exact PH.aF PH.nil_le Sq
    ·have bGO:¬ (k:Int)<(p.bGH.length:Nat):=by omega
     simp only[go_sem,bGO,aCR]
     have:k=p.bGH.length:=by omega
     subst this
     exact aY (b:=true) rfl (show nL q p.bGH.length from ha).symm
def biY:PV→RF
 | .agg [.bool n,a,b]=>⟨n,iD a,iD b⟩
 | _=>⟨false,[],[]⟩
theorem a3D (x:RF):biY (.agg x.cells)=x:=by
 show (⟨x.neg,iD (aI x.num),iD (aI x.den)⟩:RF)=x
 rw[dU,dU]
def flS:Spec:=fun name vs=>match name,vs with
 | 104,[.int _ n,.int _ lo,.int _ hi]=>some ([],fun _=>aD (.bool (within n lo hi)))
 | 105,[x]=>some ([],fun _=>aD (.bool (cI (biY x))))
 | 97,[x]=>some ([],fun _=>aD (.bool (cB (biY x))))
 | _,_=>none
theorem aAQ (n lo hi:Int):flS 104 [.int .i64 n,.int .i64 lo,.int .i64 hi]=some ([],fun _=>aD (.bool (within n lo hi))):=rfl
theorem bqL (x:RF):flS 105 [.agg x.cells]=some ([],fun _=>aD (.bool (cI x))):=by
 show some _=_; rw[a3D]
def a3W (f:aE) (t:List cG) (k:Nat):PF:=((((PF.nil.set 1 (.bGQ f.cells)).set 45 (.sl 7 (t.map cG.cells))).set 46 (.int .i64 (t.length:Nat))).set 47 (.int .i64 k))
theorem bqS {C:Ctx} (L:rB C) (f:aE) (hf:f.Ok):zE.wp C (aR aCB.res (bP (.bool (pR f)))) (PF.args [.agg f.cells]) .nil:=by
 obtain⟨bHW,bGR,bGH,bGK,bGG,bGL,bGJ⟩:=f
 cases bGK with
 | nil =>
  rw[show pR ⟨bHW,bGR,bGH,[],bGG,bGL,bGJ⟩=false from rfl]
  simp only[go_sem,δ,γ,θ,zE,akA,akB,aCB,bKW,bLA]
  have:(((0:Nat):Int)==0)=true:=rfl
  simp only[go_sem,this,aTX]
  exact aY rfl rfl
 | cons r t =>
  generalize hF:(⟨bHW,bGR,bGH,r::t,bGG,bGL,bGJ⟩:aE)=f at *
  have hd:f.bGK=r::t:=by rw[← hF]
  have hP:pR f=QQ f r t:=by unfold pR; rw[hd]
  rw[hP]
  unfold QQ
  have hlen:f.bGK.length=t.length+1:=by rw[hd]; rfl
  have bHX:=hf.bGK
  have hr0:(f.bGK.map cG.cells)[0]?=some r.cells:=by rw[hd]; rfl
  have hr0':(f.bGK.map cG.cells)[Int.toNat 0]?=some r.cells:=hr0
  have hok:=hf.dom
  have hrok:=hok r (by rw[hd]; exact List.mem_cons_self ..)
  simp only[go_sem,ο,ν,δ,γ,θ,zE,akA,akB,aCB,bIM,hlen,bF (Om:((t.length+1:Nat):Int)≠0),aTY,hr0]
  refine aO fun o ho=>?_
  by_cases c1:r.name=[]
  ·rw[decide_eq_true c1]
   by_cases c2:r.level=0
   ·rw[decide_eq_true c2]
    by_cases c3:r.parent=-1
    ·rw[decide_eq_true c3]
     by_cases c4:r.bHI=0
     ·rw[decide_eq_true c4]
      simp only[go_sem,ο,δ,γ,θ,reduceCtorEq,wW,oQ c1,bIO,bV c2,bV c3,bV c4]
      refine aA (L.lim r.bHA hrok.1) rfl ?_
      cases c5:cI r.bHA with
      | false =>
       simp only[go_sem,γ,reduceCtorEq,bIY,sS]
       exact aY rfl (by simp only[bJW,bIV])
      | true =>
       simp only[go_sem,δ,γ,reduceCtorEq,bIO]
       refine aA (L.kR r.bHA hrok.1) rfl ?_
       cases c6:cB r.bHA with
       | true =>
        simp only[go_sem,γ,reduceCtorEq,sS]
        exact aY rfl (by simp only[bIO,bJW,bIV])
       | false =>
        have hsl:(0:Int)≤1∧(1:Int)≤((t.length+1:Nat):Int):=by omega
        have hdrop:((f.bGK.map cG.cells).take (t.length+1)).drop (Int.toNat 1)=t.map cG.cells:=by
         rw[bJD (by simp[hlen]),hd]; rfl
        have hdrop':((f.bGK.map cG.cells).take (t.length+1)).drop 1=t.map cG.cells:=hdrop
        simp only[go_sem,ν,δ,γ,θ,reduceCtorEq,aTZ,bIM,hlen,hsl,hdrop',Int.toNat_natCast]
        generalize hq:(fun i=>match t[i]? with | some d=>VC f i d | none=>false)=q
        have hqk:∀ k (h:k<t.length),q k=VC f k t[k]:=by
         intro k h
         rw[← hq]
         simp only[bIZ h]
        refine wp_loop (α:=Nat) (fun k=>a3W f t k) (fun k=>.nil) (fun k=>k≤t.length∧nL q k) (fun k=>t.length-k) 0 ⟨bIT _,.zero⟩ ?_ PH.nil_le ?_
        ·unfold a3W
         (repeat' (first|exact PF.nil_le|refine PF.aF ?_ ?_))<;>first|(simp only[go_sem,γ,bIM]<;>rfl)|rfl
        rintro k ⟨hk,ha⟩
        simp only[go_sem,γ,aCC,aUA,a3W]
        by_cases hlt:k<t.length
        ·have bGO:(k:Int)<(t.length:Nat):=by omega
         have hrk:(t.map cG.cells)[k]?=some (t[k]).cells:=by simp[hlt]
         have hdk:=hok t[k] (by rw[hd]; exact List.mem_cons_of_mem _ (bIS hlt))
         have hk2:=hqk k hlt
         unfold VC at hk2
         simp only[go_sem,δ,γ,bGO,aUB,hrk]
         refine aO fun o2 ho2=>?_
         simp only[go_sem,δ,γ]
         refine bK .nil flS PH.nil_le ?_
         simp only[go_sem,δ,γ,θ,reduceCtorEq,aUC]
         refine bC (aAQ _ 0 k) (L.inn (t[k]).parent 0 k) rfl PH.nil_le ?_
         cases e1:within (t[k]).parent 0 k with
         | false =>
          simp only[e1,bIV] at hk2
          simp only[go_sem,γ,bIY,sR]
          exact aY (b:=false) rfl (dH hlt hk2).symm
         | true =>
          obtain⟨i1,i2⟩:=within_iff.1 e1
          have i3:(t[k]).parent.toNat<f.bGK.length:=by omega
          have hpr:(f.bGK.map cG.cells)[(t[k]).parent.toNat]?=some (f.bGK[(t[k]).parent.toNat]).cells:=by simp[i3]
          have hlv:(f.bGK.map cG.level).getD (t[k]).parent.toNat 0=(f.bGK[(t[k]).parent.toNat]).level:=by simp[i3]
          rw[hlv,e1,bJC] at hk2
          by_cases e2:(f.bGK[(t[k]).parent.toNat]).level=IntKind.i64.wrap ((t[k]).level-1)
          ·rw[decide_eq_true e2,bJC] at hk2
           simp only[go_sem,δ,γ,θ,reduceCtorEq,bIO,i1,hpr,bV e2]
           refine bC (aAQ _ 1 4) (L.inn (t[k]).level 1 4) rfl PH.nil_le ?_
           cases e3:within (t[k]).level 1 4 with
           | false =>
            simp only[e3,bIV] at hk2
            simp only[go_sem,γ,reduceCtorEq,bIY,sR]
            exact aY (b:=false) rfl (dH hlt hk2).symm
           | true =>
            rw[e3,bJC] at hk2
            simp only[go_sem,δ,γ,θ,reduceCtorEq,bIO]
            refine bC (aAQ _ 1 64) (L.inn (t[k]).bHI 1 64) rfl PH.nil_le ?_
            cases e4:within (t[k]).bHI 1 64 with
            | false =>
             simp only[e4,bIV] at hk2
             simp only[go_sem,γ,reduceCtorEq,bIY,sR]
             exact aY (b:=false) rfl (dH hlt hk2).symm
            | true =>
             rw[e4,bJC] at hk2
             simp only[go_sem,δ,γ,reduceCtorEq,bIO]
             refine bC (bqL (t[k]).bHA) (L.lim _ hdk.1) rfl PH.nil_le ?_
             cases e5:cI (t[k]).bHA with
             | false =>
              rw[e5] at hk2
              simp only[go_sem,γ,reduceCtorEq,bIY,sR]
              exact aY (b:=false) rfl (dH hlt hk2).symm
             | true =>
              rw[e5] at hk2
              simp only[go_sem,γ,reduceCtorEq,bIO,aCD,ws k]
              refine aC (k+1) ⟨hlt,ha.step hk2⟩ Om ?_ PH.nil_le
              exact Lq
          ·simp only[decide_eq_false e2,bIV] at hk2
           simp only[go_sem,δ,γ,θ,reduceCtorEq,bIO,i1,hpr,cQ e2,sR]
           exact aY (b:=false) rfl (dH hlt hk2).symm
        ·have bGO:¬ (k:Int)<(t.length:Nat):=by omega
         simp only[go_sem,bGO,aCE]
         have:k=t.length:=by omega
         subst this
         exact aY (b:=true) rfl (show nL q t.length from ha).symm
     ·simp only[go_sem,ο,δ,γ,θ,reduceCtorEq,wW,oQ c1,bIO,bV c2,bV c3,cQ c4,sS]
      exact aY rfl (by rw[decide_eq_false c4]; simp only[bJW,bIV])
    ·simp only[go_sem,ο,δ,γ,θ,reduceCtorEq,wW,oQ c1,bIO,bV c2,cQ c3,sS]
     exact aY rfl (by rw[decide_eq_false c3]; simp only[bJW,bIV])
   ·simp only[go_sem,ο,δ,γ,θ,reduceCtorEq,wW,oQ c1,bIO,cQ c2,sS]
    exact aY rfl (by rw[decide_eq_false c2]; simp only[bJW,bIV])
  ·simp only[go_sem,ο,δ,γ,θ,wW,ZZ c1,bIY,sS]
   exact aY rfl (by rw[decide_eq_false c1]; simp only[bJW,bIV])
theorem rY (R:List Bool) (i:Nat) (row:List RF):∀ k,(cM R i row k).length=R.length
 | 0=>rfl
 | k+1=>by simp only[cM,bKU,rY R i row k]
theorem aIP (l:bZ) (R:List Bool) (i:Nat):(yG l R i).length=R.length:=by
 unfold yG; rw[rY,bKU]
theorem pB (l:bZ) (R:List Bool):∀ i,(cT l R i).length=R.length
 | 0=>rfl
 | i+1=>by simp only[cT,aIP,pB l R i]
theorem pA (l:bZ):∀ r,(cZ l r).length=l.exit.length
 | 0=>by simp[cZ]
 | r+1=>by simp only[cZ,pB,pA l r]
theorem pY {R:List Bool} {i:Nat} (h:i<R.length):(eH R)[i]?=some [.bool (R.getD i false)]:=by
 unfold eH
 rw[bJU,bIZ h,bJE,bIZ h]; rfl
theorem amJ (R:List Bool):(eH R).length=R.length:=by simp[eH]
def QR (l:bZ) (o r:Nat):PF:=(((PF.nil.set 1 (.bGQ l.cells)).set 3 (.osl o 1 0 l.exit.length)).set 4 (.int .i64 r))
def ER (l:bZ) (o r i:Nat):PF:=(((((PF.nil.set 1 (.bGQ l.cells)).set 3 (.osl o 1 0 l.exit.length)).set 4 (.int .i64 r)).set 19 (.int .i64 (l.exit.length:Nat))).set 20 (.int .i64 i))
def rJ (l:bZ) (o r i:Nat) (row:List RF) (k:Nat):PF:=(((((((((PF.nil.set 1 (.bGQ l.cells)).set 3 (.osl o 1 0 l.exit.length)).set 4 (.int .i64 r)).set 19 (.int .i64 (l.exit.length:Nat))).set 20 (.int .i64 i)).set 5 (.int .i64 i)).set 42 (frs row)).set 43 (.int .i64 (row.length:Nat))).set 44 (.int .i64 k))
def gD (o:Nat) (R:List Bool):PH:=PH.nil.set o (.rows 1 (eH R))
theorem aPJ {C:Ctx} (L:rB C) (l:bZ) (o r i:Nat) (row:List RF) (bGV:gS row) (hrl:row.length=l.exit.length) (hi:i<l.exit.length) (hn:l.exit.length≤4) (R1:List Bool) (hR:R1.length=l.exit.length) (K:bX) (F:PF) (H:PH)
  (hF:(rJ l o r i row 0).le F) (hH:(gD o R1).le H)
  (hK:∀ F H,(rJ l o r i row row.length).le F→(gD o (cM R1 i row row.length)).le H→K .normal F H) :
  aB.wp C (.block 4 (.loop zF)) K F H:=by
 simp only[go_sem]
 refine wp_loop (α:=Nat) (fun k=>rJ l o r i row k) (fun k=>gD o (cM R1 i row k)) (fun k=>k≤row.length) (fun k=>row.length-k) 0 (bIT _) hF hH ?_
 intro k hk
 simp only[go_sem,γ,zF,aCL,rJ,gD]
 have hlen:=rY R1 i row k
 by_cases hlt:k<row.length
 ·have bGO:(k:Int)<(row.length:Nat):=by omega
  have hr:(row.map RF.cells)[k]?=some (row[k]).cells:=by simp[hlt]
  simp only[go_sem,δ,γ,bGO,anB,hr]
  refine aO fun o7 ho7=>?_
  have n7:o≠o7:=by rintro rfl; simp only[bA,if_true] at ho7; cases ho7
  have hi':(i:Int)<(l.exit.length:Nat):=by omega
  have hk':(k:Int)<(l.exit.length:Nat):=by omega
  have hat:=pY (R:=cM R1 i row k) (i:=i) Om
  have hatk:=pY (R:=cM R1 i row k) (i:=k) Om
  have bGP:cM R1 i row (k+1)=(cM R1 i row k).set i ((cM R1 i row k).getD i false||cB row[k]&&(cM R1 i row k).getD k false):=by
   simp only[cM,bJE,bJU,bIZ hlt,bJS,bKK]
  have fin:∀ (b:Bool) (F:PF) (H:PH),b=((cM R1 i row k).getD i false||cB row[k]&&(cM R1 i row k).getD k false)→(rJ l o r i row (k+1)).le F→H o=some (.rows 1 ((eH (cM R1 i row k)).set i [.bool b])) →
    dQ (fun k=>rJ l o r i row k) (fun k=>gD o (cM R1 i row k)) (fun k=>k≤row.length) (fun k=>row.length-k) (row.length-k) (dJ 4 K) .normal F H:=by
   intro b F H hb hF hH
   refine aC (k+1) hlt Om hF ?_
   rw[kB,hb,← bGP] at hH
   exact PH.aF PH.nil_le hH
  unfold rJ gD at fin
  generalize hb:(cM R1 i row k).getD i false=b at *
  generalize hc:(cM R1 i row k).getD k false=c at *
  generalize hA:cB row[k]=A at *
  cases b with
  | true =>
   simp only[go_sem,δ,γ,LZ,n7,hi',bJJ,hat,zH,ws k]
   exact fin true _ _ (by simp) Lq Sq
  | false =>
   simp only[go_sem,δ,γ,LZ,n7,hi',bJJ,hat]
   refine aA (L.kR _ (bGV.all _ (bIS hlt))) rfl ?_
   rw[hA]
   cases A with
   | false =>
    simp only[go_sem,γ,reduceCtorEq,hi',hk',n7,bJJ,hat,hatk,zH,ws k]
    exact fin false _ _ (by simp) Lq Sq
   | true =>
    simp only[go_sem,γ,reduceCtorEq,hi',hk',n7,bJJ,hat,hatk,zH,ws k]
    exact fin c _ _ (by simp) Lq Sq
 ·have bGO:¬ (k:Int)<(row.length:Nat):=by omega
  simp only[go_sem,bGO]
  have:k=row.length:=by omega
  subst this
  exact hK _ _ (by unfold rJ; exact Lq) (PH.le_refl)
structure yZ (l:bZ):Prop where
 n:l.exit.length≤4
 bGM:l.bGM.length=l.exit.length
 row:∀ r∈l.bGM,r.length=l.exit.length
theorem aPK {C:Ctx} (L:rB C) (l:bZ) (hl:l.Ok) (he:yZ l) (o r:Nat) (R:List Bool) (hR:R.length=l.exit.length) (K:bX) (F:PF) (H:PH)
  (hF:(ER l o r 0).le F) (hH:(gD o R).le H)
  (hK:∀ F H,(QR l o r).le F→(gD o (cT l R l.exit.length)).le H→K .normal F H) :
  aB.wp C (.block 2 (.loop zG)) K F H:=by
 simp only[go_sem]
 refine wp_loop (α:=Nat) (fun i=>ER l o r i) (fun i=>gD o (cT l R i)) (fun i=>i≤l.exit.length) (fun i=>l.exit.length-i) 0 (bIT _) hF hH ?_
 intro i hi
 have hlen:=pB l R i
 have hn:=he.n
 by_cases hlt:i<l.exit.length
 ·have bGO:(i:Int)<(l.exit.length:Nat):=by omega
  have hir:i<l.bGM.length:=by rw[he.bGM]; exact hlt
  have hat:=pY (R:=cT l R i) (i:=i) Om
  have hx:(l.exit.map RF.cells)[i]?=some (l.exit[i]).cells:=by simp[hlt]
  have bGV:(l.bGM.map fun r=>[frs r])[i]?=some [frs l.bGM[i]]:=by simp[hir]
  have hrl:(l.bGM[i]).length=l.exit.length:=he.row _ (bIS hir)
  generalize hR1:(cT l R i).set i ((cT l R i).getD i false||cB l.exit[i])=R1
  have hR1l:R1.length=l.exit.length:=by rw[← hR1,bKU]; omega
  have bGP:cT l R (i+1)=cM R1 i l.bGM[i] (l.bGM[i]).length:=by
   simp only[cT,yG]
   have e1:(l.exit.map cB).getD i false=cB l.exit[i]:=by simp[bJE,hlt]
   have e2:l.bGM.getD i []=l.bGM[i]:=by simp[bJE,hir]
   rw[e1,e2,hR1]
  have rest:∀ (F:PF) (H:PH),(((((((PF.nil.set 1 (.bGQ l.cells)).set 3 (.osl o 1 0 l.exit.length)).set 4 (.int .i64 r)).set 19 (.int .i64 (l.exit.length:Nat))).set 20 (.int .i64 i)).set 5 (.int .i64 i)):PF).le F→H o=some (.rows 1 (eH R1)) →
    aB.wp C (.seq (.region VM) (.block 4 (.loop zF))) (dJ 3 (hC C (aB.wp C (.region MA)) (dQ (fun i=>ER l o r i) (fun i=>gD o (cT l R i)) (fun i=>i≤l.exit.length) (fun i=>l.exit.length-i) (l.exit.length-i) (dJ 2 K)))) F H:=by
   intro F H hF hH
   have f1:F 1=some (.bGQ l.cells):=hF 1 _ rfl
   have f3:F 3=some (.osl o 1 0 l.exit.length):=hF 3 _ rfl
   have f4:F 4=some (.int .i64 r):=hF 4 _ rfl
   have f19:F 19=some (.int .i64 (l.exit.length:Nat)):=hF 19 _ rfl
   have f20:F 20=some (.int .i64 i):=hF 20 _ rfl
   have f5:F 5=some (.int .i64 i):=hF 5 _ rfl
   rw[amG]
   simp only[go_sem,δ,γ,θ,VM,f1,f5,bGV,bIM]
   have inner:=aPJ L l o r i l.bGM[i] (hl.row _ (bIS hir)) hrl hlt hn R1 hR1l
   simp only[aB.wp,go_sem] at inner
   refine inner _ _ _ ?_ (PH.aF PH.nil_le hH) ?_
   ·unfold rJ
    exact Lq
   ·intro F' H' hF' hH'
    have g20:F' 20=some (.int .i64 i):=hF' 20 _ (by unfold rJ; simp only[go_sem,γ])
    simp only[go_sem,MA,g20,ws i]
    refine aC (i+1) hlt Om ?_ (by rw[bGP]; exact hH')
    have g:=fun (q:Nat) v h=>hF' q v h
    unfold ER
    unfold rJ at g
    refine PF.aF (PF.aF (PF.aF (PF.aF (PF.aF PF.nil_le ?_) ?_) ?_) ?_) ?_
    ·simp only[go_sem,γ]; exact g 1 _ rfl
    ·simp only[go_sem,γ]; exact g 3 _ rfl
    ·simp only[go_sem,γ]; exact g 4 _ rfl
    ·simp only[go_sem,γ]; exact g 19 _ rfl
    ·simp only[go_sem,γ]
  simp only[aB.wp,go_sem] at rest
  simp only[go_sem,γ,zG,VK,ER,gD,bGO,aCK]
  generalize hb:(cT l R i).getD i false=b at *
  cases b with
  | true =>
   simp only[go_sem,γ,VL,bGO,bJJ,hat]
   refine rest _ _ Lq ?_
   rw[← hR1]
   simp only[go_sem,kB,Bool.true_or]
  | false =>
   simp only[go_sem,δ,γ,VL,bGO,bJJ,hat,hx]
   refine aA (L.kR _ (hl.exit.all _ (bIS hlt))) rfl ?_
   simp only[go_sem,γ,reduceCtorEq,bGO,bJJ,hat]
   refine rest _ _ Lq ?_
   rw[← hR1]
   simp only[go_sem,kB,Bool.false_or]
 ·have bGO:¬ (i:Int)<(l.exit.length:Nat):=by omega
  simp only[go_sem,γ,zG,VK,ER,gD,bGO]
  have:i=l.exit.length:=by omega
  subst this
  exact hK _ _ (by unfold QR; exact Lq) PH.le_refl
theorem bjS {C:Ctx} (L:rB C) (l:bZ) (hl:l.Ok) (he:yZ l):FD.wp C (aR axP.res (bP (.bool (vK l)))) (PF.args [.agg l.cells]) .nil:=by
 have hn:=he.n
 have hb1:((l.exit.length:Nat):Int)*((1:Nat):Int)≤140737488355328:=by omega
 have hb2:((l.exit.length:Nat):Int)≤9223372036854775807:=by omega
 simp only[go_sem,γ,FD,aCF,aCG,axP,bIM,hb1,hb2]
 refine aO fun o ho=>?_
 simp only[go_sem,γ,aCH]
 refine wp_loop (α:=Nat) (fun r=>QR l o r) (fun r=>gD o (cZ l r)) (fun r=>r≤l.exit.length+1) (fun r=>l.exit.length+1-r) 0 (bIT _) ?_ ?_ ?_
 ·unfold QR
  exact Lq
 ·refine PH.aF PH.nil_le ?_
  simp only[go_sem,cZ]
  simp[eH]
 intro r hr
 have hlen:=pA l r
 simp only[go_sem,γ,anA,aCI,QR,gD]
 by_cases hlt:r≤l.exit.length
 ·have bGO:(r:Int)≤(l.exit.length:Nat):=by omega
  simp only[go_sem,γ,bGO,aCJ]
  have inner:=aPK L l hl he o r (cZ l r) hlen
  simp only[aB.wp,go_sem] at inner
  refine inner _ _ _ ?_ PH.le_refl ?_
  ·unfold ER
   exact Lq
  ·intro F' H' hF' hH'
   have g:=fun (q:Nat) v h=>hF' q v h
   unfold QR at g
   have g4:F' 4=some (.int .i64 r):=g 4 _ rfl
   simp only[go_sem,γ,anC,g4,ws r]
   refine aC (r+1) Om Om ?_ hH'
   refine PF.aF (PF.aF (PF.aF PF.nil_le ?_) ?_) ?_
   ·simp only[go_sem,γ]; exact g 1 _ rfl
   ·simp only[go_sem,γ]; exact g 3 _ rfl
   ·simp only[go_sem,γ]
 ·have bGO:¬ (r:Int)≤(l.exit.length:Nat):=by omega
  have:r=l.exit.length+1:=by omega
  subst this
  simp only[go_sem,γ,bGO,anD]
  have bHP:=L.allb id 103 (cZ l (l.exit.length+1)) (Om:(cZ l (l.exit.length+1)).length≤_) fun x _=>L.ends1 x
  have hbl:(eH (cZ l (l.exit.length+1))).length=l.exit.length:=by rw[amJ,hlen]
  refine pP bHP (rs:=eH (cZ l (l.exit.length+1))) (o:=o) (s:=1) Sq ?_ ?_
  ·simp only[go_sem,γ,wV (show l.exit.length≤(eH (cZ l (l.exit.length+1))).length by omega),bJD (show (eH (cZ l (l.exit.length+1))).length≤l.exit.length by omega)]
  ·simp only[go_sem,γ]
   exact aY rfl rfl
structure ZM (C:Ctx):Prop extends ayY C where
 ends:∀ l:bZ,l.Ok→yZ l→aH C 102 [.agg l.cells] .nil (aD (.bool (vK l)))
def qF (l:bZ) (i:Nat):Bool:=decide ((l.bGM.getD i []).length=l.start.length)&&(l.bGM.getD i []).all cI&&!((l.bGM.getD i []).map cB).getD i false
def tH (l:bZ):Bool:=match oN (l.start.map RF.v) with
 | .ok (n,a,b)=>decide (qE n a b false 1 1=0)
 | .error _=>false
theorem aVI (l:bZ):kY l=(within l.start.length 1 4&&decide (l.exit.length=l.start.length)&&decide (l.bGM.length=l.start.length)&&l.start.all cI&&l.exit.all cI&&(bIN l.bGM.length).all (qF l)&&tH l&&vK l):=rfl
theorem aKI {l:List FV} {e:Int} (h:oN l=.error e):e≠0:=by
 have:∀ (l:List FV) (b:FV) (e:Int),l.foldlM gY b=.error e→e≠0:=by
  intro l
  induction l with
  | nil=>intro b e h; cases h
  | cons x t ih =>
   intro b e h
   rw[List.foldlM_cons] at h
   cases hx:gY b x with
   | error e' =>
    rw[hx] at h
    have:e'=e:=by injection h
    subst this
    obtain⟨n1,a1,b1⟩:=b
    obtain⟨n2,a2,b2⟩:=x
    simp only[gY] at hx
    split at hx
    ·split at hx
     ·rw[FZ hx]; decide
     ·split at hx
      ·rw[FZ hx]; decide
      ·rw[FZ hx]; decide
    ·injection hx with hx; subst hx; decide
   | ok y=>rw[hx] at h; exact ih y e h
 exact this l _ e h
theorem aYZ {l:List FV} {r:FV} (h:oN l=.ok r):r.rf.Ok:=by
 have:∀ (l:List FV) (b r:FV),b.rf.Ok→l.foldlM gY b=.ok r→r.rf.Ok:=by
  intro l
  induction l with
  | nil=>intro b r hb h; injection h with h; subst h; exact hb
  | cons x t ih =>
   intro b r hb h
   rw[List.foldlM_cons] at h
   cases hx:gY b x with
   | error e'=>rw[hx] at h; cases h
   | ok y=>rw[hx] at h; exact ih y r (ajO hx) h
 refine this l _ r ⟨aU _,aU _,?_,?_⟩ h
 ·show (aG 0).length≤_
  rw[fA]; simp
 ·show (aG 1).length≤_
  rw[nE (by decide) (by decide)]; simp
theorem GA {neg:Bool} {a b:Nat} {r:FV} (hb:b≠0) (h:gQ neg a b=.ok r):cK r.2.1 r.2.2=true:=by
 unfold gQ at h
 split at h
 ·cases h
 ·rename_i hc
  injection h with h
  subst h
  have hg:bIR a b ∣ b:=Nat.gcd_dvd_right _ _
  have h0:b/bIR a b≠0:=by
   have:=Nat.div_pos (Nat.le_of_dvd (bKP hb) hg) (bKP fun h=>hb (Nat.gcd_eq_zero_iff.1 h).2)
   omega
  have h1:=@jK (b/bIR a b)
  simp only[cK,bJK,decide_eq_true_eq]
  omega
theorem a2O {x y r:FV} (h:gY x y=.ok r):cK r.2.1 r.2.2=true:=by
 obtain⟨n1,a1,b1⟩:=x
 obtain⟨n2,a2,b2⟩:=y
 simp only[gY] at h
 split at h
 ·rename_i hv
  rw[bJK] at hv
  have h0:b1*b2≠0:=Nat.mul_ne_zero (fC.1 hv.1).1 (fC.1 hv.2).1
  split at h
  ·exact GA h0 h
  ·split at h
   ·exact GA h0 h
   ·exact GA h0 h
 ·cases h
theorem a9D:cK 0 1=true:=by
 have:cC 1=1:=by rw[nZ (by decide),jC]
 simp[cK,this,jC]
theorem aeT {l:List FV} {r:FV} (h:oN l=.ok r):cK r.2.1 r.2.2=true:=by
 have:∀ (l:List FV) (b r:FV),cK b.2.1 b.2.2=true→l.foldlM gY b=.ok r→cK r.2.1 r.2.2=true:=by
  intro l
  induction l with
  | nil=>intro b r hb h; injection h with h; subst h; exact hb
  | cons x t ih =>
   intro b r hb h
   rw[List.foldlM_cons] at h
   cases hx:gY b x with
   | error e'=>rw[hx] at h; cases h
   | ok y=>rw[hx] at h; exact ih y r (a2O hx) h
 exact this l _ r a9D h
theorem bjF:(⟨false,[],[]⟩:RF).Ok:=⟨fun _ h=>absurd h (bJI),fun _ h=>absurd h (bJI),show 0≤35184372087808 by decide,show 0≤35184372087808 by decide⟩
def bkH (l:bZ) (k:Nat):PF:=(((((PF.nil.set 1 (.bGQ l.cells)).set 3 (.int .i64 (l.start.length:Nat))).set 45 (a7Y l.bGM)).set 46 (.int .i64 (l.bGM.length:Nat))).set 47 (.int .i64 k))
theorem bbI {C:Ctx} (L:ZM C) (l:bZ) (hl:l.Ok) (he:yZ l) (F:PF) (hF:F 1=some (.bGQ l.cells)) :
  aB.wp C (.seq (.region VN) (.seq (.region FF) (.seq (.region FG) (.seq (.region sT) .ret)))) (aR [.tmp 2] (bP (.bool (tH l&&vK l)))) F .nil:=by
 simp only[go_sem,δ,θ,VN,hF]
 refine aA (L.tot l.start hl.start) rfl ?_
 obtain⟨neg',x,y,e,hs⟩:=sP (oN (l.start.map RF.v))
 have go:∀ (z:RF) (e:Int),z.Ok→(e=0→(zB z.neg (val z.num) (val z.den) false 1 1=.tup [.int .i64 (qE z.neg (val z.num) (val z.den) false 1 1),.int .i64 0])∧tH l=decide (qE z.neg (val z.num) (val z.den) false 1 1=0))→(e≠0→tH l=false) →
   frV (oN (l.start.map RF.v))=.tup [.agg z.cells,.int .i64 e] →
   wpOps C [⟨(some 69),.mv (.tmp 72),none⟩,⟨(some 73),.extract (.tmp 69) 0,none⟩,⟨(some 74),.extract (.tmp 69) 1,none⟩,⟨(some 6),.alloc [(.bool false),.bGI,.bGI],none⟩,⟨none,.store 3 (.tmp 6) (.tmp 73),none⟩,⟨(some 7),.mv (.tmp 74),none⟩]
    (aB.wp C (.seq (.region FF) (.seq (.region FG) (.seq (.region sT) .ret))) (aR [.tmp 2] (bP (.bool (tH l&&vK l))))) ((((F.set 70 (.bGQ [frs l.start,a7Y l.bGM,frs l.exit])).set 71 (frs l.start))).set 72 (.tup [.agg z.cells,.int .i64 e])) .nil:=by
  intro z e hz h0 h1 _
  simp only[go_sem,δ,γ]
  refine aO fun o6 ho6=>?_
  simp only[go_sem,δ,γ,FF]
  refine aA (L.frac 1 1 (by decide) (by decide)) rfl ?_
  rw[aEZ]
  simp only[go_sem,δ,γ,frV]
  refine aO fun o8 ho8=>?_
  have n8:o6≠o8:=by rintro rfl; simp only[bA,if_true] at ho8; cases ho8
  simp only[go_sem,δ,γ,FG,n8]
  refine aA (L.ord z (FV.rf (false,1,1)) hz beG) rfl ?_
  rw[show val (FV.rf (false,1,1)).num=1 from aQ 1,show val (FV.rf (false,1,1)).den=1 from aQ 1,show (FV.rf (false,1,1)).neg=false from rfl]
  by_cases c:e=0
  ·obtain⟨g1,g2⟩:=h0 c
   rw[g1,g2]
   by_cases d:qE z.neg (val z.num) (val z.den) false 1 1=0
   ·simp only[go_sem,δ,γ,sT,bO c,bO d,hF]
    refine aA (L.ends l hl he) rfl ?_
    simp only[go_sem,γ]
    exact aY rfl (by rw[decide_eq_true d,bJC])
   ·simp only[go_sem,γ,reduceCtorEq,sT,bO c,bF d]
    exact aY rfl (by rw[decide_eq_false d,bIV])
  ·rw[h1 c]
   have:∃ v w,zB z.neg (val z.num) (val z.den) false 1 1=.tup [.int .i64 v,.int .i64 w]:=by
    unfold zB
    split
    ·exact⟨_,_,rfl⟩
    ·exact⟨_,_,rfl⟩
   obtain⟨v,w,hv⟩:=this
   rw[hv]
   simp only[go_sem,γ,reduceCtorEq,sT,bF c]
   exact aY rfl rfl
 cases hs':oN (l.start.map RF.v) with
 | error e =>
  rw[hs'] at go
  exact go ⟨false,[],[]⟩ e bjF (fun h=>absurd h (aKI hs')) (fun _=>by rw[tH,hs']) rfl
 | ok r =>
  obtain⟨n,a,b⟩:=r
  rw[hs'] at go
  have hr:=aYZ hs'
  refine go (FV.rf (n,a,b)) 0 hr (fun _=>?_) (fun h=>absurd rfl h) rfl
  rw[show val (FV.rf (n,a,b)).num=a from aQ a,show val (FV.rf (n,a,b)).den=b from aQ b,show (FV.rf (n,a,b)).neg=n from rfl]
  refine⟨?_,by rw[tH,hs']⟩
  have hv:cK a b=true:=aeT hs'
  rw[zB,hv,avE]
  rfl
theorem bqU {C:Ctx} (L:ZM C) (l:bZ) (hl:l.Ok):MB.wp C (aR a3X.res (bP (.bool (kY l)))) (PF.args [.agg l.cells]) .nil:=by
 rw[aVI]
 simp only[go_sem,δ,γ,θ,MB,aUD,aUE,a3X,aUF,bIM]
 refine aA (L.inn l.start.length 1 4) rfl ?_
 cases c1:within l.start.length 1 4 with
 | false =>
  simp only[go_sem,γ,bIY,wX]
  exact aY rfl (by simp only[bIV])
 | true =>
  obtain⟨n1,n2⟩:=within_iff.1 c1
  by_cases c2:l.exit.length=l.start.length
  ·rw[decide_eq_true c2]
   by_cases c3:l.bGM.length=l.start.length
   ·rw[decide_eq_true c3]
    simp only[go_sem,δ,γ,θ,reduceCtorEq,bIO,bIM,bV (Om:((l.exit.length:Nat):Int)=(l.start.length:Nat)),bV (Om:((l.bGM.length:Nat):Int)=(l.start.length:Nat))]
    refine aA (L.bkK l.start hl.start) rfl ?_
    cases c4:l.start.all cI with
    | false =>
     simp only[go_sem,γ,reduceCtorEq,bIY,wX]
     exact aY rfl (by simp only[bIV])
    | true =>
     simp only[go_sem,γ,reduceCtorEq,bIO]
     refine aA (L.bkK l.exit hl.exit) rfl ?_
     cases c5:l.exit.all cI with
     | false =>
      simp only[go_sem,γ,reduceCtorEq,bIY,wX]
      exact aY rfl (by simp only[bIV])
     | true =>
      simp only[go_sem,δ,γ,θ,reduceCtorEq,bIO,aUG,bIM]
      have hrk:∀ k (h:k<l.bGM.length),qF l k=(decide ((l.bGM[k]).length=l.start.length)&&(l.bGM[k]).all cI&&!((l.bGM[k]).map cB).getD k false):=by
       intro k h
       have:l.bGM.getD k []=l.bGM[k]:=by simp[bJE,h]
       rw[qF,this]
      refine wp_loop (α:=Nat) (fun k=>bkH l k) (fun _=>.nil) (fun k=>k≤l.bGM.length∧nL (qF l) k) (fun k=>l.bGM.length-k) 0 ⟨bIT _,.zero⟩ ?_ PH.nil_le ?_
      ·unfold bkH
       (repeat' (first|exact PF.nil_le|refine PF.aF ?_ ?_))<;>first|(simp only[go_sem,γ,bIM]<;>rfl)|rfl
      rintro k ⟨hk,ha⟩
      simp only[go_sem,γ,aCM,aUH,bkH]
      by_cases hlt:k<l.bGM.length
      ·have bGO:(k:Int)<(l.bGM.length:Nat):=by omega
       have hr:(l.bGM.map fun r=>[frs r])[k]?=some [frs l.bGM[k]]:=by simp[hlt]
       have hk2:=hrk k hlt
       have hrok:=hl.row l.bGM[k] (bIS hlt)
       simp only[go_sem,γ,bGO,aUI,hr,aUJ,bIM]
       by_cases d1:(l.bGM[k]).length=l.start.length
       ·rw[decide_eq_true d1,bJC] at hk2
        simp only[go_sem,γ,bV (show (((l.bGM[k]).length:Nat):Int)=(l.start.length:Nat) by omega)]
        refine aA (L.bkK _ hrok) rfl ?_
        cases d2:(l.bGM[k]).all cI with
        | false =>
         rw[d2,bIV] at hk2
         simp only[go_sem,γ,reduceCtorEq,bIY,QY]
         refine aY (b:=false) rfl ?_
         have:(bIN l.bGM.length).all (qF l)=false:=dH hlt hk2
         rw[this]; simp only[bIV,bJW]
        | true =>
         have hkr:k<(l.bGM[k]).length:=by omega
         have hx:((l.bGM[k]).map RF.cells)[k]?=some ((l.bGM[k])[k]).cells:=by simp[hkr]
         have hab:((l.bGM[k]).map cB).getD k false=cB (l.bGM[k])[k]:=by simp[bJE,hkr]
         rw[d2,bJC,hab] at hk2
         simp only[go_sem,δ,γ,reduceCtorEq,bIO,hx]
         refine aA (L.kR _ (hrok.all _ (bIS hkr))) rfl ?_
         cases d3:cB (l.bGM[k])[k] with
         | true =>
          rw[d3] at hk2
          simp only[go_sem,γ,reduceCtorEq,QY]
          refine aY (b:=false) rfl ?_
          have:(bIN l.bGM.length).all (qF l)=false:=dH hlt hk2
          rw[this]; simp only[bIV,bJW]
         | false =>
          rw[d3] at hk2
          simp only[go_sem,γ,reduceCtorEq,aUK,ws k]
          refine aC (k+1) ⟨hlt,ha.step hk2⟩ Om ?_ PH.nil_le
          exact Lq
       ·simp only[decide_eq_false d1,bIV] at hk2
        simp only[go_sem,γ,cQ (show (((l.bGM[k]).length:Nat):Int)≠(l.start.length:Nat) by omega),QY]
        refine aY (b:=false) rfl ?_
        have:(bIN l.bGM.length).all (qF l)=false:=dH hlt hk2
        rw[this]; simp only[bIV,bJW]
      ·have bGO:¬ (k:Int)<(l.bGM.length:Nat):=by omega
       have:k=l.bGM.length:=by omega
       subst this
       have bHZ:(bIN l.bGM.length).all (qF l)=true:=ha
       have he:yZ l:=⟨by omega,by omega,fun r hr=>by
        obtain⟨i,hi,rfl⟩:=bLL hr
        have:=bJL.1 bHZ i (bKR.2 hi)
        rw[hrk i hi] at this
        simp only[bJK,decide_eq_true_eq] at this
        omega⟩
       have tail:=bbI L l hl he
       simp only[aB.wp,go_sem] at tail
       rw[bHZ]
       simp only[go_sem,bGO,bJC,bKZ]
       exact tail _ rfl
   ·simp only[go_sem,δ,γ,θ,reduceCtorEq,bIO,bIM,bV (Om:((l.exit.length:Nat):Int)=(l.start.length:Nat)),cQ (Om:((l.bGM.length:Nat):Int)≠(l.start.length:Nat)),wX]
    exact aY rfl (by rw[decide_eq_false c3]; simp only[bIV,bJW])
  ·simp only[go_sem,γ,reduceCtorEq,bIO,bIM,cQ (Om:((l.exit.length:Nat):Int)≠(l.start.length:Nat)),wX]
   exact aY rfl (by rw[decide_eq_false c2]; simp only[bIV,bJW])
structure jP (C:Ctx):Prop extends ZM C where
 law:∀ l:bZ,l.Ok→aH C 95 [.agg l.cells] .nil (aD (.bool (kY l)))
 pol:∀ (p:cF) (n:Nat),p.Ok→n≤4→aH C 112 [.agg p.cells,.int .i64 n] .nil (aD (.bool (jY n p)))
 bGT:∀ f:aE,f.Ok→aH C 111 [.agg f.cells] .nil (aD (.bool (pR f)))
abbrev eK (l:List (List UInt8)):List (List PV):=l.map fun s=>[PV.str s]
theorem uP (l:List (List UInt8)) {k:Nat} (h:k<l.length):eK (l.take k)++[[.str l[k]]]=eK (l.take (k+1)):=by
 unfold eK
 rw[bKM h,bKV]; rfl
theorem qW {l:List (List UInt8)} (h:l.length≤1000):roomFor (eK l).length 1 16:=by
 unfold roomFor eK
 simp only[bIM,maxLen]; omega
def gX {α:Type} (l:List α) (p:α→Bool) (k:Nat):Bool:=(l.take k).all p
theorem rG {α:Type} (l:List α) (p:α→Bool):gX l p 0=true:=rfl
theorem rF {α:Type} (l:List α) (p:α→Bool) {k:Nat} (h:k<l.length):gX l p (k+1)=(gX l p k&&p l[k]):=by
 unfold gX
 rw[bKM h,List.all_append]; simp
theorem uA {α:Type} (l:List α) (p:α→Bool):gX l p l.length=l.all p:=by unfold gX; rw[bJN]
def hJ (f:aE) (w3 w4 w5 w6 w7:PV) (ok:Bool):PF:=(((((((PF.nil.set 1 (.bGQ f.cells)).set 3 (w3)).set 4 (w4)).set 5 (w5)).set 6 (w6)).set 7 (w7)).set 8 (.bool ok))
structure jT (F:PF) (f:aE) (w3 w4 w5 w6 w7:PV) (ok:Bool):Prop where
 a1:F 1=some (.bGQ f.cells)
 a3:F 3=some w3
 a4:F 4=some w4
 a5:F 5=some w5
 a6:F 6=some w6
 a7:F 7=some w7
 a8:F 8=some (.bool ok)
theorem a4E {C:Ctx} (L:jP C) (f:aE) (hf:f.Ok) (hs:f.bGR.length≤4) (w4 w5 w6 w7:PV) (K:bX) (F:PF) (H:PH) (hv:jT F f .bGI w4 w5 w6 w7 true)
  (h67:F 67=some (.sl 4 (f.bGR.map bZ.cells))) (h68:F 68=some (.int .i64 (f.bGR.length:Nat))) (h69:F 69=some (.int .i64 0))
  (hK:∀ v F' H',jT F' f v w4 w5 w6 w7 (f.bGR.all kY)→aX H' 1 v (eK (f.bGR.map bZ.name))→K (.exit 0) F' H') :
  aB.wp C (.loop FK) K F H:=by
 refine wp_loop (α:=Nat × PV × PH) (fun t=>(((hJ f t.2.1 w4 w5 w6 w7 (gX f.bGR kY t.1)).set 67 (.sl 4 (f.bGR.map bZ.cells))).set 68 (.int .i64 (f.bGR.length:Nat))).set 69 (.int .i64 t.1)) (fun t=>t.2.2)
  (fun t=>t.1≤f.bGR.length∧aX t.2.2 1 t.2.1 (eK ((f.bGR.map bZ.name).take t.1))) (fun t=>f.bGR.length-t.1) (0,.bGI,.nil) ⟨bIT _,.nil⟩ ?_ PH.nil_le ?_
 ·unfold hJ
  (repeat' (first|exact PF.nil_le|refine PF.aF ?_ ?_))<;>first|(simp only[go_sem,hv.a1,hv.a3,hv.a4,hv.a5,hv.a6,hv.a7,hv.a8,h67,h68,h69,rG]<;>rfl)|rfl
 rintro⟨k,v,H0⟩ ⟨hk,hO⟩
 simp only at hk hO ⊢
 simp only[go_sem,γ,FK,aVF,hJ]
 by_cases hlt:k<f.bGR.length
 ·have bGO:(k:Int)<(f.bGR.length:Nat):=by omega
  have hr:(f.bGR.map bZ.cells)[k]?=some (f.bGR[k]).cells:=by simp[hlt]
  have hsn:=uP (f.bGR.map bZ.name) (k:=k) (by simpa using hlt)
  rw[bKI] at hsn
  simp only[go_sem,δ,γ,bGO,aVG,hr]
  refine aO fun o ho=>?_
  simp only[go_sem,υ,δ,γ,η,θ,ζ,aVH]
  refine mD hO ho (qW (by simp; omega)) fun v' H' hO' ho'=>?_
  rw[hsn] at hO'
  have bGP:=rF f.bGR kY hlt
  cases hb:gX f.bGR kY k with
  | false =>
   rw[hb,bIV] at bGP
   simp only[go_sem,γ,reduceCtorEq,akF,ho',VS,ws k]
   refine aC (k+1,v',H') ⟨hlt,hO'⟩ (by simp only; omega) ?_ PH.le_refl
   simp only[bGP]
   exact Lq
  | true =>
   rw[hb,bJC] at bGP
   simp only[go_sem,δ,γ,akF,ho']
   refine aA (L.law _ (hf.law _ (bIS hlt))) Ev ?_
   simp only[go_sem,γ,VS,ws k]
   refine aC (k+1,v',H') ⟨hlt,hO'⟩ (by simp only; omega) ?_ PH.le_refl
   simp only[bGP]
   exact Lq
 ·have bGO:¬ (k:Int)<(f.bGR.length:Nat):=by omega
  have:k=f.bGR.length:=by omega
  subst this
  rw[bJD (by simp)] at hO
  rw[uA]
  simp only[go_sem,bGO]
  exact hK v _ _ ⟨by simp only[go_sem,γ],by simp only[go_sem,γ],by simp only[go_sem,γ],by simp only[go_sem,γ],by simp only[go_sem,γ],by simp only[go_sem,γ],by simp only[go_sem,γ]⟩ hO
theorem AI {n:Nat} (h:n≤1000):IntKind.i64.wrap ((n:Int)-1)=(n:Int)-1:=wrap_i64 Om Om
theorem a4F {C:Ctx} (L:jP C) (f:aE) (hs:f.bGH.length≤4) (hl:f.bGR.length≤4) (b0:Bool) (w3 w5 w6 w7:PV) (K:bX) (F:PF) (H:PH) (hv:jT F f w3 .bGI w5 w6 w7 b0)
  (h67:F 85=some (.sl 4 (f.bGH.map cH.cells))) (h68:F 86=some (.int .i64 (f.bGH.length:Nat))) (h69:F 87=some (.int .i64 0))
  (hK:∀ v F' H',jT F' f w3 v w5 w6 w7 (b0&&f.bGH.all (jQ f))→aX H' 1 v (eK (f.bGH.map cH.name))→K (.exit 2) F' H') :
  aB.wp C (.loop FL) K F H:=by
 refine wp_loop (α:=Nat × PV × PH) (fun t=>(((hJ f w3 t.2.1 w5 w6 w7 (b0&&gX f.bGH (jQ f) t.1)).set 85 (.sl 4 (f.bGH.map cH.cells))).set 86 (.int .i64 (f.bGH.length:Nat))).set 87 (.int .i64 t.1)) (fun t=>t.2.2)
  (fun t=>t.1≤f.bGH.length∧aX t.2.2 1 t.2.1 (eK ((f.bGH.map cH.name).take t.1))) (fun t=>f.bGH.length-t.1) (0,.bGI,.nil) ⟨bIT _,.nil⟩ ?_ PH.nil_le ?_
 ·unfold hJ
  (repeat' (first|exact PF.nil_le|refine PF.aF ?_ ?_))<;>first|(simp only[go_sem,hv.a1,hv.a3,hv.a4,hv.a5,hv.a6,hv.a7,hv.a8,h67,h68,h69,rG,bKZ]<;>rfl)|rfl
 rintro⟨k,v,H0⟩ ⟨hk,hO⟩
 simp only at hk hO ⊢
 simp only[go_sem,γ,FL,aDE,hJ]
 by_cases hlt:k<f.bGH.length
 ·have bGO:(k:Int)<(f.bGH.length:Nat):=by omega
  have hr:(f.bGH.map cH.cells)[k]?=some (f.bGH[k]).cells:=by simp[hlt]
  have hsn:=uP (f.bGH.map cH.name) (k:=k) (by simpa using hlt)
  rw[bKI] at hsn
  simp only[go_sem,δ,γ,bGO,aDF,hr]
  refine aO fun o ho=>?_
  simp only[go_sem,υ,δ,γ,η,θ,ζ,aDG]
  refine mD hO ho (qW (by simp; omega)) fun v' H' hO' ho'=>?_
  rw[hsn] at hO'
  have bGP:=rF f.bGH (jQ f) hlt
  have fin:∀ (c:Bool) (F':PF),c=(b0&&gX f.bGH (jQ f) (k+1))→((((hJ f w3 v' w5 w6 w7 c).set 85 (.sl 4 (f.bGH.map cH.cells))).set 86 (.int .i64 (f.bGH.length:Nat))).set 87 (.int .i64 (k+1:Nat))).le F' →
    dQ (fun (t:Nat × PV × PH)=>(((hJ f w3 t.2.1 w5 w6 w7 (b0&&gX f.bGH (jQ f) t.1)).set 85 (.sl 4 (f.bGH.map cH.cells))).set 86 (.int .i64 (f.bGH.length:Nat))).set 87 (.int .i64 t.1)) (fun (t:Nat × PV × PH)=>t.2.2)  (fun (t:Nat × PV × PH)=>t.1≤f.bGH.length∧aX t.2.2 1 t.2.1 (eK ((f.bGH.map cH.name).take t.1))) (fun (t:Nat × PV × PH)=>f.bGH.length-t.1) (f.bGH.length-k) K .normal F' H':=by
   intro c F' hc hle
   refine aC (α:=Nat × PV × PH) (k+1,v',H') ⟨hlt,hO'⟩ (by simp only; omega) ?_ PH.le_refl
   rw[hc] at hle
   exact hle
  unfold hJ at fin
  rw[bGP,← bLE] at fin
  have hm:jQ f f.bGH[k]=(within (f.bGH[k]).bHC 1 16&&within (f.bGH[k]).port 1 64&&within (f.bGH[k]).law 0 ((f.bGR.length:Int)-1)):=rfl
  cases hb:(b0&&gX f.bGH (jQ f) k) with
  | false =>
   rw[hb,bIV] at fin
   simp only[go_sem,γ,reduceCtorEq,VU,ho',xT,ws k]
   refine fin false _ rfl ?_
   exact Lq
  | true =>
   rw[hb,bJC] at fin
   simp only[go_sem,δ,γ,θ,VU,ho']
   refine aA (L.inn _ 1 16) Ev ?_
   cases e1:within (f.bGH[k]).bHC 1 16 with
   | false =>
    simp only[go_sem,γ,reduceCtorEq,xT,ws k]
    refine fin false _ (by rw[hm,e1]; simp only[bIV]) ?_
    exact Lq
   | true =>
    simp only[go_sem,δ,γ,θ,ho']
    refine aA (L.inn _ 1 64) Ev ?_
    cases e2:within (f.bGH[k]).port 1 64 with
    | false =>
     simp only[go_sem,γ,reduceCtorEq,xT,ws k]
     refine fin false _ (by rw[hm,e1,e2]; simp only[bIV,bJW]) ?_
     exact Lq
    | true =>
     simp only[go_sem,δ,γ,θ,ho',bIM,AI (Om:f.bGR.length≤1000)]
     refine aA (L.inn _ 0 _) Ev ?_
     simp only[go_sem,γ,xT,ws k]
     refine fin (within (f.bGH[k]).law 0 ((f.bGR.length:Int)-1)) _ (by rw[hm,e1,e2]; simp only[bJC]) ?_
     exact Lq
 ·have bGO:¬ (k:Int)<(f.bGH.length:Nat):=by omega
  have:k=f.bGH.length:=by omega
  subst this
  rw[bJD (by simp)] at hO
  rw[uA]
  simp only[go_sem,bGO]
  exact hK v _ _ ⟨by simp only[go_sem,γ],by simp only[go_sem,γ],by simp only[go_sem,γ],by simp only[go_sem,γ],by simp only[go_sem,γ],by simp only[go_sem,γ],by simp only[go_sem,γ]⟩ hO
theorem a4G {C:Ctx} (L:jP C) (f:aE) (t:List cG) (hs:t.length≤40) (b0:Bool) (w3 w4 w6 w7:PV) (K:bX) (F:PF) (H:PH) (hv:jT F f w3 w4 .bGI w6 w7 b0)
  (h67:F 119=some (.sl 7 (t.map cG.cells))) (h68:F 120=some (.int .i64 (t.length:Nat))) (h69:F 121=some (.int .i64 0))
  (hK:∀ v F' H',jT F' f w3 w4 v w6 w7 b0→aX H' 1 v (eK (t.map cG.name))→K (.exit 4) F' H') :
  aB.wp C (.loop FM) K F H:=by
 refine wp_loop (α:=Nat × PV × PH) (fun a=>(((hJ f w3 w4 a.2.1 w6 w7 b0).set 119 (.sl 7 (t.map cG.cells))).set 120 (.int .i64 (t.length:Nat))).set 121 (.int .i64 a.1)) (fun a=>a.2.2)
  (fun a=>a.1≤t.length∧aX a.2.2 1 a.2.1 (eK ((t.map cG.name).take a.1))) (fun a=>t.length-a.1) (0,.bGI,.nil) ⟨bIT _,.nil⟩ ?_ PH.nil_le ?_
 ·unfold hJ
  (repeat' (first|exact PF.nil_le|refine PF.aF ?_ ?_))<;>first|(simp only[go_sem,hv.a1,hv.a3,hv.a4,hv.a5,hv.a6,hv.a7,hv.a8,h67,h68,h69]<;>rfl)|rfl
 rintro⟨k,v,H0⟩ ⟨hk,hO⟩
 simp only at hk hO ⊢
 simp only[go_sem,γ,FM,aDH,hJ]
 by_cases hlt:k<t.length
 ·have bGO:(k:Int)<(t.length:Nat):=by omega
  have hr:(t.map cG.cells)[k]?=some (t[k]).cells:=by simp[hlt]
  have hsn:=uP (t.map cG.name) (k:=k) (by simpa using hlt)
  rw[bKI] at hsn
  simp only[go_sem,δ,γ,bGO,aDI,hr]
  refine aO fun o ho=>?_
  simp only[go_sem,υ,δ,γ,η,θ,ζ,aDJ]
  refine mD hO ho (qW (by simp; omega)) fun v' H' hO' ho'=>?_
  rw[hsn] at hO'
  simp only[go_sem,γ,aDK,ws k]
  refine aC (k+1,v',H') ⟨hlt,hO'⟩ (by simp only; omega) ?_ PH.le_refl
  exact Lq
 ·have bGO:¬ (k:Int)<(t.length:Nat):=by omega
  have:k=t.length:=by omega
  subst this
  rw[bJD (by simp)] at hO
  simp only[go_sem,bGO]
  exact hK v _ _ ⟨by simp only[go_sem,γ],by simp only[go_sem,γ],by simp only[go_sem,γ],by simp only[go_sem,γ],by simp only[go_sem,γ],by simp only[go_sem,γ],by simp only[go_sem,γ]⟩ hO
theorem a4H {C:Ctx} (L:jP C) (f:aE) (names:List (List UInt8)) (hn:names.length≤40) (hs:f.bGG.length≤24) (hm:f.bGH.length≤4) (hd:f.bGK.length≤40) (b0:Bool) (w3 w4 v0 w6 w7:PV) (K:bX) (F:PF) (H:PH) (hv:jT F f w3 w4 v0 w6 w7 b0)
  (h0:aX H 1 v0 (eK names))
  (h67:F 132=some (.sl 3 (f.bGG.map dD.cells))) (h68:F 133=some (.int .i64 (f.bGG.length:Nat))) (h69:F 134=some (.int .i64 0))
  (hK:∀ v F' H',jT F' f w3 w4 v w6 w7 (b0&&f.bGG.all (iH f))→aX H' 1 v (eK (names++f.bGG.map dD.name))→K (.exit 6) F' H') :
  aB.wp C (.loop FN) K F H:=by
 refine wp_loop (α:=Nat × PV × PH) (fun t=>(((hJ f w3 w4 t.2.1 w6 w7 (b0&&gX f.bGG (iH f) t.1)).set 132 (.sl 3 (f.bGG.map dD.cells))).set 133 (.int .i64 (f.bGG.length:Nat))).set 134 (.int .i64 t.1)) (fun t=>t.2.2)
  (fun t=>t.1≤f.bGG.length∧aX t.2.2 1 t.2.1 (eK (names++(f.bGG.map dD.name).take t.1))) (fun t=>f.bGG.length-t.1) (0,v0,H) ⟨bIT _,by rw[List.take_zero,bJZ]; exact h0⟩ ?_ PH.le_refl ?_
 ·unfold hJ
  (repeat' (first|exact PF.nil_le|refine PF.aF ?_ ?_))<;>first|(simp only[go_sem,hv.a1,hv.a3,hv.a4,hv.a5,hv.a6,hv.a7,hv.a8,h67,h68,h69,rG,bKZ]<;>rfl)|rfl
 rintro⟨k,v,H0⟩ ⟨hk,hO⟩
 simp only at hk hO ⊢
 simp only[go_sem,γ,FN,aDL,hJ]
 by_cases hlt:k<f.bGG.length
 ·have bGO:(k:Int)<(f.bGG.length:Nat):=by omega
  have hr:(f.bGG.map dD.cells)[k]?=some (f.bGG[k]).cells:=by simp[hlt]
  have hsn:eK (names++(f.bGG.map dD.name).take k)++[[.str (f.bGG[k]).name]]=eK (names++(f.bGG.map dD.name).take (k+1)):=by
   rw[bKM (by simpa using hlt),← bJO,bKI]
   unfold eK
   simp only[bKV,bKD,bKW]
  simp only[go_sem,δ,γ,bGO,aDM,hr]
  refine aO fun o ho=>?_
  simp only[go_sem,υ,δ,γ,η,θ,ζ,aDN]
  refine mD hO ho (qW (by simp; omega)) fun v' H' hO' ho'=>?_
  rw[hsn] at hO'
  have bGP:=rF f.bGG (iH f) hlt
  have fin:∀ (c:Bool) (F':PF),c=(b0&&gX f.bGG (iH f) (k+1))→((((hJ f w3 w4 v' w6 w7 c).set 132 (.sl 3 (f.bGG.map dD.cells))).set 133 (.int .i64 (f.bGG.length:Nat))).set 134 (.int .i64 (k+1:Nat))).le F' →
    dQ (fun (t:Nat × PV × PH)=>(((hJ f w3 w4 t.2.1 w6 w7 (b0&&gX f.bGG (iH f) t.1)).set 132 (.sl 3 (f.bGG.map dD.cells))).set 133 (.int .i64 (f.bGG.length:Nat))).set 134 (.int .i64 t.1)) (fun (t:Nat × PV × PH)=>t.2.2)  (fun (t:Nat × PV × PH)=>t.1≤f.bGG.length∧aX t.2.2 1 t.2.1 (eK (names++(f.bGG.map dD.name).take t.1))) (fun (t:Nat × PV × PH)=>f.bGG.length-t.1) (f.bGG.length-k) K .normal F' H':=by
   intro c F' hc hle
   refine aC (α:=Nat × PV × PH) (k+1,v',H') ⟨hlt,hO'⟩ (by simp only; omega) ?_ PH.le_refl
   rw[hc] at hle
   exact hle
  unfold hJ at fin
  rw[bGP,← bLE] at fin
  have hmd:iH f f.bGG[k]=(within (f.bGG[k]).model 0 ((f.bGH.length:Int)-1)&&within (f.bGG[k]).machine 0 ((f.bGK.length:Int)-1)&&decide ((f.bGK.map cG.level).getD (f.bGG[k]).machine.toNat 0=4)):=rfl
  cases hb:(b0&&gX f.bGG (iH f) k) with
  | false =>
   rw[hb,bIV] at fin
   simp only[go_sem,γ,reduceCtorEq,VX,ho',sU,ws k]
   refine fin false _ rfl ?_
   exact Lq
  | true =>
   rw[hb,bJC] at fin
   simp only[go_sem,δ,γ,θ,VX,ho',bIM,AI (Om:f.bGH.length≤1000)]
   refine aA (L.inn _ 0 _) Ev ?_
   cases e1:within (f.bGG[k]).model 0 ((f.bGH.length:Int)-1) with
   | false =>
    simp only[go_sem,γ,reduceCtorEq,sU,ws k]
    refine fin false _ (by rw[hmd,e1]; simp only[bIV]) ?_
    exact Lq
   | true =>
    simp only[go_sem,δ,γ,θ,ho',bIM,AI (Om:f.bGK.length≤1000)]
    refine aA (L.inn _ 0 _) Ev ?_
    cases e2:within (f.bGG[k]).machine 0 ((f.bGK.length:Int)-1) with
    | false =>
     simp only[go_sem,γ,reduceCtorEq,sU,ws k]
     refine fin false _ (by rw[hmd,e1,e2]; simp only[bIV,bJW]) ?_
     exact Lq
    | true =>
     obtain⟨i1,i2⟩:=within_iff.1 e2
     have i3:(f.bGG[k]).machine.toNat<f.bGK.length:=by omega
     have hpr:(f.bGK.map cG.cells)[(f.bGG[k]).machine.toNat]?=some (f.bGK[(f.bGG[k]).machine.toNat]).cells:=by simp[i3]
     have hlv:(f.bGK.map cG.level).getD (f.bGG[k]).machine.toNat 0=(f.bGK[(f.bGG[k]).machine.toNat]).level:=by simp[i3]
     rw[hlv] at hmd
     by_cases e3:(f.bGK[(f.bGG[k]).machine.toNat]).level=4
     ·simp only[go_sem,δ,γ,θ,ho',i1,hpr,bO e3,sU,ws k]
      refine fin true _ (by rw[hmd,e1,e2,decide_eq_true e3]; rfl) ?_
      exact Lq
     ·simp only[go_sem,δ,γ,θ,ho',i1,hpr,bF e3,sU,ws k]
      refine fin false _ (by rw[hmd,e1,e2,decide_eq_false e3]; rfl) ?_
      exact Lq
 ·have bGO:¬ (k:Int)<(f.bGG.length:Nat):=by omega
  have:k=f.bGG.length:=by omega
  subst this
  rw[bJD (by simp)] at hO
  rw[uA]
  simp only[go_sem,bGO]
  exact hK v _ _ ⟨by simp only[go_sem,γ],by simp only[go_sem,γ],by simp only[go_sem,γ],by simp only[go_sem,γ],by simp only[go_sem,γ],by simp only[go_sem,γ],by simp only[go_sem,γ]⟩ hO
theorem a4I {C:Ctx} (L:jP C) (f:aE) (hf:f.Ok) (hs:f.bGL.length≤4) (hm:f.bGH.length≤4) (b0:Bool) (w3 w4 w5 w7:PV) (K:bX) (F:PF) (H:PH) (hv:jT F f w3 w4 w5 .bGI w7 b0)
  (h67:F 174=some (.sl 17 (f.bGL.map cF.cells))) (h68:F 175=some (.int .i64 (f.bGL.length:Nat))) (h69:F 176=some (.int .i64 0))
  (hK:∀ v F' H',jT F' f w3 w4 w5 v w7 (b0&&f.bGL.all (jY f.bGH.length))→aX H' 1 v (eK (f.bGL.map cF.name))→K (.exit 8) F' H') :
  aB.wp C (.loop FO) K F H:=by
 refine wp_loop (α:=Nat × PV × PH) (fun t=>(((hJ f w3 w4 w5 t.2.1 w7 (b0&&gX f.bGL (jY f.bGH.length) t.1)).set 174 (.sl 17 (f.bGL.map cF.cells))).set 175 (.int .i64 (f.bGL.length:Nat))).set 176 (.int .i64 t.1)) (fun t=>t.2.2)
  (fun t=>t.1≤f.bGL.length∧aX t.2.2 1 t.2.1 (eK ((f.bGL.map cF.name).take t.1))) (fun t=>f.bGL.length-t.1) (0,.bGI,.nil) ⟨bIT _,.nil⟩ ?_ PH.nil_le ?_
 ·unfold hJ
  (repeat' (first|exact PF.nil_le|refine PF.aF ?_ ?_))<;>first|(simp only[go_sem,hv.a1,hv.a3,hv.a4,hv.a5,hv.a6,hv.a7,hv.a8,h67,h68,h69,rG,bKZ]<;>rfl)|rfl
 rintro⟨k,v,H0⟩ ⟨hk,hO⟩
 simp only at hk hO ⊢
 simp only[go_sem,γ,FO,aDO,hJ]
 by_cases hlt:k<f.bGL.length
 ·have bGO:(k:Int)<(f.bGL.length:Nat):=by omega
  have hr:(f.bGL.map cF.cells)[k]?=some (f.bGL[k]).cells:=by simp[hlt]
  have hsn:=uP (f.bGL.map cF.name) (k:=k) (by simpa using hlt)
  rw[bKI] at hsn
  simp only[go_sem,δ,γ,bGO,aDP,hr]
  refine aO fun o ho=>?_
  simp only[go_sem,υ,δ,γ,η,θ,ζ,aDQ]
  refine mD hO ho (qW (by simp; omega)) fun v' H' hO' ho'=>?_
  rw[hsn] at hO'
  have bGP:=rF f.bGL (jY f.bGH.length) hlt
  have fin:∀ (c:Bool) (F':PF),c=(b0&&gX f.bGL (jY f.bGH.length) (k+1))→((((hJ f w3 w4 w5 v' w7 c).set 174 (.sl 17 (f.bGL.map cF.cells))).set 175 (.int .i64 (f.bGL.length:Nat))).set 176 (.int .i64 (k+1:Nat))).le F' →
    dQ (fun (t:Nat × PV × PH)=>(((hJ f w3 w4 w5 t.2.1 w7 (b0&&gX f.bGL (jY f.bGH.length) t.1)).set 174 (.sl 17 (f.bGL.map cF.cells))).set 175 (.int .i64 (f.bGL.length:Nat))).set 176 (.int .i64 t.1)) (fun (t:Nat × PV × PH)=>t.2.2)  (fun (t:Nat × PV × PH)=>t.1≤f.bGL.length∧aX t.2.2 1 t.2.1 (eK ((f.bGL.map cF.name).take t.1))) (fun (t:Nat × PV × PH)=>f.bGL.length-t.1) (f.bGL.length-k) K .normal F' H':=by
   intro c F' hc hle
   refine aC (α:=Nat × PV × PH) (k+1,v',H') ⟨hlt,hO'⟩ (by simp only; omega) ?_ PH.le_refl
   rw[hc] at hle
   exact hle
  unfold hJ at fin
  rw[bGP,← bLE] at fin
  cases hb:(b0&&gX f.bGL (jY f.bGH.length) k) with
  | false =>
   rw[hb,bIV] at fin
   simp only[go_sem,γ,reduceCtorEq,VZ,ho',WA,ws k]
   refine fin false _ rfl ?_
   exact Lq
  | true =>
   rw[hb,bJC] at fin
   simp only[go_sem,δ,γ,θ,VZ,ho',bIM]
   refine aA (L.pol _ _ (hf.bGW _ (bIS hlt)) hm) Ev ?_
   simp only[go_sem,γ,WA,ws k]
   refine fin _ _ rfl ?_
   exact Lq
 ·have bGO:¬ (k:Int)<(f.bGL.length:Nat):=by omega
  have:k=f.bGL.length:=by omega
  subst this
  rw[bJD (by simp)] at hO
  rw[uA]
  simp only[go_sem,bGO]
  exact hK v _ _ ⟨by simp only[go_sem,γ],by simp only[go_sem,γ],by simp only[go_sem,γ],by simp only[go_sem,γ],by simp only[go_sem,γ],by simp only[go_sem,γ],by simp only[go_sem,γ]⟩ hO
theorem a4J {C:Ctx} (L:jP C) (f:aE) (hs:f.bGJ.length≤12) (hl:f.bGL.length≤4) (b0:Bool) (w3 w4 w5 w6:PV) (K:bX) (F:PF) (H:PH) (hv:jT F f w3 w4 w5 w6 .bGI b0)
  (h67:F 195=some (.sl 2 (f.bGJ.map eF.cells))) (h68:F 196=some (.int .i64 (f.bGJ.length:Nat))) (h69:F 197=some (.int .i64 0))
  (hK:∀ v F' H',jT F' f w3 w4 w5 w6 v (b0&&f.bGJ.all (nK f))→aX H' 1 v (eK (f.bGJ.map eF.name))→K (.exit 10) F' H') :
  aB.wp C (.loop FP) K F H:=by
 refine wp_loop (α:=Nat × PV × PH) (fun t=>(((hJ f w3 w4 w5 w6 t.2.1 (b0&&gX f.bGJ (nK f) t.1)).set 195 (.sl 2 (f.bGJ.map eF.cells))).set 196 (.int .i64 (f.bGJ.length:Nat))).set 197 (.int .i64 t.1)) (fun t=>t.2.2)
  (fun t=>t.1≤f.bGJ.length∧aX t.2.2 1 t.2.1 (eK ((f.bGJ.map eF.name).take t.1))) (fun t=>f.bGJ.length-t.1) (0,.bGI,.nil) ⟨bIT _,.nil⟩ ?_ PH.nil_le ?_
 ·unfold hJ
  (repeat' (first|exact PF.nil_le|refine PF.aF ?_ ?_))<;>first|(simp only[go_sem,hv.a1,hv.a3,hv.a4,hv.a5,hv.a6,hv.a7,hv.a8,h67,h68,h69,rG,bKZ]<;>rfl)|rfl
 rintro⟨k,v,H0⟩ ⟨hk,hO⟩
 simp only at hk hO ⊢
 simp only[go_sem,γ,FP,aDR,hJ]
 by_cases hlt:k<f.bGJ.length
 ·have bGO:(k:Int)<(f.bGJ.length:Nat):=by omega
  have hr:(f.bGJ.map eF.cells)[k]?=some (f.bGJ[k]).cells:=by simp[hlt]
  have hsn:=uP (f.bGJ.map eF.name) (k:=k) (by simpa using hlt)
  rw[bKI] at hsn
  simp only[go_sem,δ,γ,bGO,aDS,hr]
  refine aO fun o ho=>?_
  simp only[go_sem,υ,δ,γ,η,θ,ζ,aDT]
  refine mD hO ho (qW (by simp; omega)) fun v' H' hO' ho'=>?_
  rw[hsn] at hO'
  have bGP:=rF f.bGJ (nK f) hlt
  have fin:∀ (c:Bool) (F':PF),c=(b0&&gX f.bGJ (nK f) (k+1))→((((hJ f w3 w4 w5 w6 v' c).set 195 (.sl 2 (f.bGJ.map eF.cells))).set 196 (.int .i64 (f.bGJ.length:Nat))).set 197 (.int .i64 (k+1:Nat))).le F' →
    dQ (fun (t:Nat × PV × PH)=>(((hJ f w3 w4 w5 w6 t.2.1 (b0&&gX f.bGJ (nK f) t.1)).set 195 (.sl 2 (f.bGJ.map eF.cells))).set 196 (.int .i64 (f.bGJ.length:Nat))).set 197 (.int .i64 t.1)) (fun (t:Nat × PV × PH)=>t.2.2)  (fun (t:Nat × PV × PH)=>t.1≤f.bGJ.length∧aX t.2.2 1 t.2.1 (eK ((f.bGJ.map eF.name).take t.1))) (fun (t:Nat × PV × PH)=>f.bGJ.length-t.1) (f.bGJ.length-k) K .normal F' H':=by
   intro c F' hc hle
   refine aC (α:=Nat × PV × PH) (k+1,v',H') ⟨hlt,hO'⟩ (by simp only; omega) ?_ PH.le_refl
   rw[hc] at hle
   exact hle
  unfold hJ at fin
  rw[bGP,← bLE] at fin
  have hm:nK f f.bGJ[k]=within (f.bGJ[k]).bGW 0 ((f.bGL.length:Int)-1):=rfl
  cases hb:(b0&&gX f.bGJ (nK f) k) with
  | false =>
   rw[hb,bIV] at fin
   simp only[go_sem,γ,reduceCtorEq,WC,ho',WD,ws k]
   refine fin false _ rfl ?_
   exact Lq
  | true =>
   rw[hb,bJC,hm] at fin
   simp only[go_sem,δ,γ,θ,WC,ho',bIM,AI (Om:f.bGL.length≤1000)]
   refine aA (L.inn _ 0 _) Ev ?_
   simp only[go_sem,γ,WD,ws k]
   refine fin _ _ rfl ?_
   exact Lq
 ·have bGO:¬ (k:Int)<(f.bGJ.length:Nat):=by omega
  have:k=f.bGJ.length:=by omega
  subst this
  rw[bJD (by simp)] at hO
  rw[uA]
  simp only[go_sem,bGO]
  exact hK v _ _ ⟨by simp only[go_sem,γ],by simp only[go_sem,γ],by simp only[go_sem,γ],by simp only[go_sem,γ],by simp only[go_sem,γ],by simp only[go_sem,γ],by simp only[go_sem,γ]⟩ hO
theorem mK {f:aE} (h:¬ (f.bGR.length≤4∧f.bGH.length≤4∧f.bGK.length≤40∧f.bGG.length≤24∧f.bGL.length≤4∧f.bGJ.length≤12)):nA f=false:=by
 rw[← Bool.not_eq_true]
 intro hs
 simp only[nA,bJK,decide_eq_true_eq] at hs
 omega
theorem aSC {f:aE} (h:f.bGR.length≤4∧f.bGH.length≤4∧f.bGK.length≤40∧f.bGG.length≤24∧f.bGL.length≤4∧f.bGJ.length≤12):nA f=within f.bHW 1 4:=by
 obtain⟨h1,h2,h3,h4,h5,h6⟩:=h
 simp[nA,h1,h2,h3,h4,h5,h6]
theorem fQ {t:Nat} {n m:Int} {F:PF} {H:PH} (h:F t=some (.int .i64 n)) (e:n=m):aR [.tmp t] (bP (.int .i64 m)) .ret F H:=by
 subst e
 exact aV (.inr rfl) .nil (vs:=[.int .i64 n]) (by rw[kP,nH,h,pC]) PH.nil_le ⟨.refl _,rfl⟩
def JF (f:aE):Int:=if cU f then 0 else 1
theorem a9C {f:aE} (h:cU f=false):JF f=1:=by rw[JF,h]; rfl
theorem sF {C:Ctx} {F:PF} {H:PH} {name t s:Nat} {v r:PV} {rows:List (List PV)} {d:Option Nat} {K:PF→PH→Prop} (h:aH C name [.sl s rows] .nil (aD r)) (hO:aX H s v rows) (ht:F t=some v)
  (hK:∀ (F1:PF) (H1:PH),(∀ i u,F i=some u→Pure u→F1 i=some u)→K (F1.put d r) H1):gW C name [.tmp t] [] d K F H:=by
 rcases hO with ⟨rfl,rfl⟩ | ⟨q,rs,rfl,h1,h2,h3⟩
 ·refine aA (h.a8C (.inl ⟨rfl,rfl⟩)) (by rw[xN,aaH,ht,QS]) ?_
  exact hK F H fun i u hi _=>hi
 ·rw[← h3] at h
  refine pF (k:=rows.length) h ht h1 h2 (hK _ _ fun i u hi hp=>?_)
  rw[rL,hi,bJS,hp q s rs]
theorem Seen.pure {s:Nat} {v:PV} {rows:List (List PV)} (h:Seen s v rows):Pure v:=by
 rcases h with ⟨_,rfl⟩ | rfl
 ·exact fun _ _ _=>rfl
 ·exact fun _ _ _=>rfl
def bI (b:Bool):Int:=if b then 0 else 1
abbrev RH (f:aE):List (List UInt8):=(f.bGK.drop 1).map cG.name++f.bGG.map dD.name
def tX (f:aE):Bool:=distinct (f.bGR.map bZ.name)&&distinct (f.bGH.map cH.name)&&distinct (RH f)&&distinct (f.bGL.map cF.name)&&distinct (f.bGJ.map eF.name)
structure Small (f:aE):Prop where
 bGR:f.bGR.length≤4
 bGH:f.bGH.length≤4
 bGK:f.bGK.length≤40
 bGG:f.bGG.length≤24
 bGL:f.bGL.length≤4
 bGJ:f.bGJ.length≤12
theorem zP {C:Ctx} (L:jP C) {v:PV} {l:List (List UInt8)} (h:Seen 1 v (eK l)) (hl:l.length≤1000):aH C 110 [v] .nil (aD (.bool (distinct l))) :=
 (L.uniq l (Om:l.length≤9223372036854775807)).a8C h
theorem bkB {C:Ctx} (L:jP C) (f:aE) (hs:Small f) (w3 w4 w5 w6 w7:PV) (ok:Bool) (F:PF) (H:PH) (hv:jT F f w3 w4 w5 w6 w7 ok)
  (h3:Seen 1 w3 (eK (f.bGR.map bZ.name))) (h4:Seen 1 w4 (eK (f.bGH.map cH.name))) (h5:Seen 1 w5 (eK (RH f))) (h6:Seen 1 w6 (eK (f.bGL.map cF.name))) (h7:aX H 1 w7 (eK (f.bGJ.map eF.name))) :
  aB.wp C (.seq (.seq (.region xU) (.cond (.tmp 243) (.seq (.region mR) .ret) .skip)) (.seq (.region FQ) .ret)) (aR [.tmp 2] (bP (.int .i64 (bI (ok&&tX f))))) F H:=by
 obtain⟨s1,s2,s3,s4,s5,s6⟩:=hs
 have l3:(f.bGR.map bZ.name).length≤1000:=by simp; omega
 have l4:(f.bGH.map cH.name).length≤1000:=by simp; omega
 have l5:(RH f).length≤1000:=by simp; omega
 have l6:(f.bGL.map cF.name).length≤1000:=by simp; omega
 have l7:(f.bGJ.map eF.name).length≤9223372036854775807:=by simp; omega
 cases ok with
 | false =>
  simp only[go_sem,γ,xU,hv.a8,mR]
  exact fQ rfl rfl
 | true =>
  simp only[go_sem,γ,xU,hv.a8,hv.a3]
  refine aA (zP L h3 l3) rfl ?_
  unfold tX
  cases c1:distinct (f.bGR.map bZ.name) with
  | false =>
   simp only[go_sem,γ,reduceCtorEq,mR,bIY]
   exact fQ rfl rfl
  | true =>
   simp only[go_sem,γ,reduceCtorEq,hv.a4,bIO]
   refine aA (zP L h4 l4) rfl ?_
   cases c2:distinct (f.bGH.map cH.name) with
   | false =>
    simp only[go_sem,γ,reduceCtorEq,mR,bIY]
    exact fQ rfl rfl
   | true =>
    simp only[go_sem,γ,reduceCtorEq,hv.a5,bIO]
    refine aA (zP L h5 l5) rfl ?_
    cases c3:distinct (RH f) with
    | false =>
     simp only[go_sem,γ,reduceCtorEq,mR,bIY]
     exact fQ rfl rfl
    | true =>
     simp only[go_sem,γ,reduceCtorEq,hv.a6,bIO]
     refine aA (zP L h6 l6) rfl ?_
     cases c4:distinct (f.bGL.map cF.name) with
     | false =>
      simp only[go_sem,γ,reduceCtorEq,mR,bIY]
      exact fQ rfl rfl
     | true =>
      simp only[go_sem,γ,reduceCtorEq,hv.a7,bIO]
      refine sF (L.uniq _ l7) h7 rfl fun F1 H1 hp=>?_
      have g:F1 239=some (.bool false):=hp 239 _ rfl fun _ _ _=>rfl
      cases c5:distinct (f.bGJ.map eF.name) with
      | false =>
       simp only[go_sem,γ,reduceCtorEq,mR,bIY,g]
       exact fQ rfl rfl
      | true =>
       simp only[go_sem,γ,reduceCtorEq,FQ,bIO,g]
       exact fQ rfl rfl
abbrev amD (b:Bool):bX:=aR [.tmp 2] (bP (.int .i64 (bI b)))
def ayP:aB:=.seq (.seq (.region WB) (.block 10 (.loop FP))) (.seq (.seq (.region xU) (.cond (.tmp 243) (.seq (.region mR) .ret) .skip)) (.seq (.region FQ) .ret))
def ayO:aB:=.seq (.seq (.region VY) (.block 8 (.loop FO))) ayP
def ayN:aB:=.seq (.seq (.region VW) (.block 6 (.loop FN))) ayO
def ayM:aB:=.seq (.seq (.region VV) (.block 4 (.loop FM))) ayN
def ayL:aB:=.seq (.seq (.region VT) (.block 2 (.loop FL))) ayM
def a9B:aB:=.seq (.seq (.region akE) (.block 0 (.loop FK))) ayL
theorem brL {C:Ctx} (L:jP C) (f:aE) (hs:Small f) (w3 w4 w5 w6:PV) (ok:Bool) (F:PF) (H:PH) (hv:jT F f w3 w4 w5 w6 .bGI ok)
  (h3:Seen 1 w3 (eK (f.bGR.map bZ.name))) (h4:Seen 1 w4 (eK (f.bGH.map cH.name))) (h5:Seen 1 w5 (eK (RH f))) (h6:aX H 1 w6 (eK (f.bGL.map cF.name))) :
  aB.wp C ayP (amD (ok&&f.bGJ.all (nK f)&&tX f)) F H:=by
 unfold ayP
 simp only[go_sem,γ,WB,hv.a1,bIM]
 refine pG h6 fun v1 hv1 F1 H1 ht hp=>?_
 refine a4J L f hs.bGJ hs.bGL ok w3 w4 w5 v1 _ F1 H1 ⟨hp 1 _ (by simp only[go_sem,γ,hv.a1]) fun _ _ _=>rfl,hp 3 _ (by simp only[go_sem,γ,hv.a3]) h3.pure,hp 4 _ (by simp only[go_sem,γ,hv.a4]) h4.pure,hp 5 _ (by simp only[go_sem,γ,hv.a5]) h5.pure,ht 6 (by simp only[go_sem,γ,hv.a6]),hp 7 _ (by simp only[go_sem,γ,hv.a7]) fun _ _ _=>rfl,hp 8 _ (by simp only[go_sem,γ,hv.a8]) fun _ _ _=>rfl⟩
  (hp 195 _ rfl fun _ _ _=>rfl) (hp 196 _ rfl fun _ _ _=>rfl) (hp 197 _ rfl fun _ _ _=>rfl) fun v F' H' hv' hO=>?_
 have e:=bkB L f hs w3 w4 w5 v1 v _ F' H' hv' h3 h4 h5 hv1 hO
 simp only[aB.wp,go_sem] at e
 simp only[go_sem]
 exact e
theorem brK {C:Ctx} (L:jP C) (f:aE) (hf:f.Ok) (hs:Small f) (w3 w4 w5:PV) (ok:Bool) (F:PF) (H:PH) (hv:jT F f w3 w4 w5 .bGI .bGI ok)
  (h3:Seen 1 w3 (eK (f.bGR.map bZ.name))) (h4:Seen 1 w4 (eK (f.bGH.map cH.name))) (h5:aX H 1 w5 (eK (RH f))) :
  aB.wp C ayO (amD (ok&&f.bGL.all (jY f.bGH.length)&&f.bGJ.all (nK f)&&tX f)) F H:=by
 unfold ayO
 simp only[go_sem,δ,γ,θ,VY,hv.a1,bIM]
 refine pG h5 fun v1 hv1 F1 H1 ht hp=>?_
 refine a4I L f hf hs.bGL hs.bGH ok w3 w4 v1 .bGI _ F1 H1 ⟨hp 1 _ (by simp only[go_sem,γ,hv.a1]) fun _ _ _=>rfl,hp 3 _ (by simp only[go_sem,γ,hv.a3]) h3.pure,hp 4 _ (by simp only[go_sem,γ,hv.a4]) h4.pure,ht 5 (by simp only[go_sem,γ,hv.a5]),hp 6 _ (by simp only[go_sem,γ,hv.a6]) fun _ _ _=>rfl,hp 7 _ (by simp only[go_sem,γ,hv.a7]) fun _ _ _=>rfl,hp 8 _ (by simp only[go_sem,γ,hv.a8]) fun _ _ _=>rfl⟩
  (hp 174 _ rfl fun _ _ _=>rfl) (hp 175 _ rfl fun _ _ _=>rfl) (hp 176 _ rfl fun _ _ _=>rfl) fun v F' H' hv' hO=>?_
 simp only[go_sem]
 exact brL L f hs w3 w4 v1 v _ F' H' hv' h3 h4 hv1 hO
theorem brJ {C:Ctx} (L:jP C) (f:aE) (hf:f.Ok) (hs:Small f) (w3 w4 w5:PV) (ok:Bool) (F:PF) (H:PH) (hv:jT F f w3 w4 w5 .bGI .bGI ok)
  (h3:Seen 1 w3 (eK (f.bGR.map bZ.name))) (h4:Seen 1 w4 (eK (f.bGH.map cH.name))) (h5:aX H 1 w5 (eK ((f.bGK.drop 1).map cG.name))) :
  aB.wp C ayN (amD (ok&&f.bGG.all (iH f)&&f.bGL.all (jY f.bGH.length)&&f.bGJ.all (nK f)&&tX f)) F H:=by
 unfold ayN
 simp only[go_sem,δ,γ,θ,VW,hv.a1,bIM]
 refine a4H L f ((f.bGK.drop 1).map cG.name) (by have:=hs.bGK; simp; omega) hs.bGG hs.bGH hs.bGK ok w3 w4 w5 .bGI .bGI _ _ H ⟨by simp only[go_sem,γ,hv.a1],by simp only[go_sem,γ,hv.a3],by simp only[go_sem,γ,hv.a4],by simp only[go_sem,γ,hv.a5],by simp only[go_sem,γ,hv.a6],by simp only[go_sem,γ,hv.a7],by simp only[go_sem,γ,hv.a8]⟩ h5
  rfl rfl rfl fun v F' H' hv' hO=>?_
 simp only[go_sem]
 exact brK L f hf hs w3 w4 v _ F' H' hv' h3 h4 hO
theorem brI {C:Ctx} (L:jP C) (f:aE) (hf:f.Ok) (hs:Small f) (hd:0<f.bGK.length) (w3 w4:PV) (ok:Bool) (F:PF) (H:PH) (hv:jT F f w3 w4 .bGI .bGI .bGI ok)
  (h3:Seen 1 w3 (eK (f.bGR.map bZ.name))) (h4:aX H 1 w4 (eK (f.bGH.map cH.name))) :
  aB.wp C ayM (amD (ok&&f.bGG.all (iH f)&&f.bGL.all (jY f.bGH.length)&&f.bGJ.all (nK f)&&tX f)) F H:=by
 unfold ayM
 have hsl:(1:Int)≤(f.bGK.length:Nat):=by omega
 have hsd:=hs.bGK
 have hdrop:((f.bGK.map cG.cells).take f.bGK.length).drop 1=(f.bGK.drop 1).map cG.cells:=by
  rw[bJD (by simp),List.map_drop]
 simp only[go_sem,κ,ν,δ,γ,θ,reduceCtorEq,VV,hv.a1,bIM,hsl,Int.toNat_natCast,hdrop]
 refine pG h4 fun v1 hv1 F1 H1 ht hp=>?_
 refine a4G L f (f.bGK.drop 1) (by simp; omega) ok w3 v1 .bGI .bGI _ F1 H1 ⟨hp 1 _ (by simp only[go_sem,γ,hv.a1]) fun _ _ _=>rfl,hp 3 _ (by simp only[go_sem,γ,hv.a3]) h3.pure,ht 4 (by simp only[go_sem,γ,hv.a4]),hp 5 _ (by simp only[go_sem,γ,hv.a5]) fun _ _ _=>rfl,hp 6 _ (by simp only[go_sem,γ,hv.a6]) fun _ _ _=>rfl,hp 7 _ (by simp only[go_sem,γ,hv.a7]) fun _ _ _=>rfl,hp 8 _ (by simp only[go_sem,γ,hv.a8]) fun _ _ _=>rfl⟩
  (hp 119 _ rfl fun _ _ _=>rfl) (hp 120 _ rfl fun _ _ _=>rfl) (hp 121 _ rfl fun _ _ _=>rfl) fun v F' H' hv' hO=>?_
 simp only[go_sem]
 exact brJ L f hf hs w3 v1 v _ F' H' hv' h3 hv1 hO
theorem brH {C:Ctx} (L:jP C) (f:aE) (hf:f.Ok) (hs:Small f) (hd:0<f.bGK.length) (w3:PV) (ok:Bool) (F:PF) (H:PH) (hv:jT F f w3 .bGI .bGI .bGI .bGI ok)
  (h3:aX H 1 w3 (eK (f.bGR.map bZ.name))) :
  aB.wp C ayL (amD (ok&&f.bGH.all (jQ f)&&f.bGG.all (iH f)&&f.bGL.all (jY f.bGH.length)&&f.bGJ.all (nK f)&&tX f)) F H:=by
 unfold ayL
 simp only[go_sem,δ,γ,θ,VT,hv.a1,bIM]
 refine pG h3 fun v1 hv1 F1 H1 ht hp=>?_
 refine a4F L f hs.bGH hs.bGR ok v1 .bGI .bGI .bGI _ F1 H1 ⟨hp 1 _ (by simp only[go_sem,γ,hv.a1]) fun _ _ _=>rfl,ht 3 (by simp only[go_sem,γ,hv.a3]),hp 4 _ (by simp only[go_sem,γ,hv.a4]) fun _ _ _=>rfl,hp 5 _ (by simp only[go_sem,γ,hv.a5]) fun _ _ _=>rfl,hp 6 _ (by simp only[go_sem,γ,hv.a6]) fun _ _ _=>rfl,hp 7 _ (by simp only[go_sem,γ,hv.a7]) fun _ _ _=>rfl,hp 8 _ (by simp only[go_sem,γ,hv.a8]) fun _ _ _=>rfl⟩
  (hp 85 _ rfl fun _ _ _=>rfl) (hp 86 _ rfl fun _ _ _=>rfl) (hp 87 _ rfl fun _ _ _=>rfl) fun v F' H' hv' hO=>?_
 simp only[go_sem]
 exact brI L f hf hs hd v1 v _ F' H' hv' hv1 hO
theorem brG {C:Ctx} (L:jP C) (f:aE) (hf:f.Ok) (hs:Small f) (hd:0<f.bGK.length) (F:PF) (H:PH) (hv:jT F f .bGI .bGI .bGI .bGI .bGI true) :
  aB.wp C a9B (amD (f.bGR.all kY&&f.bGH.all (jQ f)&&f.bGG.all (iH f)&&f.bGL.all (jY f.bGH.length)&&f.bGJ.all (nK f)&&tX f)) F H:=by
 unfold a9B
 simp only[go_sem,δ,γ,θ,akE,hv.a1,bIM]
 refine a4E L f hf hs.bGR .bGI .bGI .bGI .bGI _ _ H ⟨by simp only[go_sem,γ,hv.a1],by simp only[go_sem,γ,hv.a3],by simp only[go_sem,γ,hv.a4],by simp only[go_sem,γ,hv.a5],by simp only[go_sem,γ,hv.a6],by simp only[go_sem,γ,hv.a7],by simp only[go_sem,γ,hv.a8]⟩ rfl rfl rfl fun v F' H' hv' hO=>?_
 simp only[go_sem]
 exact brH L f hf hs hd v _ F' H' hv' hO
theorem brE {C:Ctx} (L:jP C) (f:aE) (hf:f.Ok):MG.wp C (aR a4D.res (bP (.int .i64 (JF f)))) (PF.args [.agg f.cells]) .nil:=by
 have he:cU f=(nA f&&pR f&&(f.bGR.all kY&&f.bGH.all (jQ f)&&f.bGG.all (iH f)&&f.bGL.all (jY f.bGH.length)&&f.bGJ.all (nK f))&&tX f):=rfl
 simp only[go_sem,δ,γ,θ,MG,aVB,aVC,a4D]
 refine aA (L.inn f.bHW 1 4) rfl ?_
 have bad:∀ (F:PF) (H:PH),cU f=false→F 2=some (.int .i64 1)→aR [.tmp 2] (bP (.int .i64 (JF f))) .ret F H:=fun F H h1 h2=>fQ h2 (a9C h1).symm
 cases e0:within f.bHW 1 4 with
 | false =>
  have:nA f=false:=by simp[nA,e0]
  simp only[go_sem,γ,bIY,oT]
  exact bad _ _ (by rw[he,this]; simp only[bIV]) rfl
 | true =>
  by_cases s1:f.bGR.length≤4
  ·have s1':¬ ((f.bGR.length:Nat):Int)>4:=by omega
   by_cases s2:f.bGH.length≤4
   ·have s2':¬ ((f.bGH.length:Nat):Int)>4:=by omega
    by_cases s3:f.bGK.length≤40
    ·have s3':¬ ((f.bGK.length:Nat):Int)>40:=by omega
     by_cases s4:f.bGG.length≤24
     ·have s4':¬ ((f.bGG.length:Nat):Int)>24:=by omega
      by_cases s5:f.bGL.length≤4
      ·have s5':¬ ((f.bGL.length:Nat):Int)>4:=by omega
       by_cases s6:f.bGJ.length≤12
       ·have s6':¬ ((f.bGJ.length:Nat):Int)>12:=by omega
        have hsz:=aSC ⟨s1,s2,s3,s4,s5,s6⟩
        rw[e0] at hsz
        simp only[go_sem,δ,γ,θ,reduceCtorEq,bIO,bIM,s1',s2',s3',s4',s5',s6']
        refine aA (L.bGT f hf) rfl ?_
        cases e1:pR f with
        | false =>
         simp only[go_sem,γ,reduceCtorEq,bIY,oT]
         exact bad _ _ (by rw[he,e1]; simp only[bJW,bIV]) rfl
        | true =>
         have hd:0<f.bGK.length:=by
          rcases bKN f.bGK.length with h | h
          ·have:f.bGK=[]:=List.eq_nil_of_length_eq_zero h
           rw[pR,this] at e1
           cases e1
          ·exact h
         have hz:JF f=bI (f.bGR.all kY&&f.bGH.all (jQ f)&&f.bGG.all (iH f)&&f.bGL.all (jY f.bGH.length)&&f.bGJ.all (nK f)&&tX f):=by
          rw[JF,he,hsz,e1]; rfl
         rw[hz]
         simp only[go_sem,γ,reduceCtorEq,bIO,aVD,aVE]
         have e:=fun F H hv=>brG L f hf ⟨s1,s2,s3,s4,s5,s6⟩ hd F H hv
         simp only[a9B,ayL,ayM,ayN,ayO,ayP,aB.wp,go_sem] at e
         exact e _ _ ⟨by simp only[go_sem,γ],by simp only[go_sem,γ],by simp only[go_sem,γ],by simp only[go_sem,γ],by simp only[go_sem,γ],by simp only[go_sem,γ],by simp only[go_sem,γ]⟩
       ·have s6':((f.bGJ.length:Nat):Int)>12:=by omega
        simp only[go_sem,δ,γ,θ,reduceCtorEq,bIO,bIM,s1',s2',s3',s4',s5',s6',oT]
        exact bad _ _ (by rw[he,mK Om]; simp only[bIV]) rfl
      ·have s5':((f.bGL.length:Nat):Int)>4:=by omega
       simp only[go_sem,δ,γ,θ,reduceCtorEq,bIO,bIM,s1',s2',s3',s4',s5',oT]
       exact bad _ _ (by rw[he,mK Om]; simp only[bIV]) rfl
     ·have s4':((f.bGG.length:Nat):Int)>24:=by omega
      simp only[go_sem,δ,γ,θ,reduceCtorEq,bIO,bIM,s1',s2',s3',s4',oT]
      exact bad _ _ (by rw[he,mK Om]; simp only[bIV]) rfl
    ·have s3':((f.bGK.length:Nat):Int)>40:=by omega
     simp only[go_sem,δ,γ,θ,reduceCtorEq,bIO,bIM,s1',s2',s3',oT]
     exact bad _ _ (by rw[he,mK Om]; simp only[bIV]) rfl
   ·have s2':((f.bGH.length:Nat):Int)>4:=by omega
    simp only[go_sem,δ,γ,θ,reduceCtorEq,bIO,bIM,s1',s2',oT]
    exact bad _ _ (by rw[he,mK Om]; simp only[bIV]) rfl
  ·have s1':((f.bGR.length:Nat):Int)>4:=by omega
   simp only[go_sem,δ,γ,θ,reduceCtorEq,bIO,bIM,s1',oT]
   exact bad _ _ (by rw[he,mK Om]; simp only[bIV]) rfl
def lvl (f:aE) (i:Nat):Int:=(f.bGK.map cG.level).getD i 0
def par (f:aE) (i:Nat):Int:=(f.bGK.map cG.parent).getD i 0
def XS (f:aE) (i:Nat):Nat:=(par f i).toNat
def eU (f:aE) (d:Nat):Nat:=((f.bGG.map dD.machine).getD d 0).toNat
def mdl (f:aE) (d:Nat):Nat:=((f.bGG.map dD.model).getD d 0).toNat
def ext (f:aE) (d:Nat):Int:=(f.bGH.map cH.bHC).getD (mdl f d) 0
def NU (f:aE) (v:Nat):Nat:=((f.bGJ.map eF.bGW).getD v 0).toNat
def bzG:cF:=⟨[],0,0,0,0,0,0,0,0,[],[],⟨false,[],[]⟩,⟨false,[],[]⟩⟩
def fK (f:aE) (v:Nat):cF:=f.bGL.getD (NU f v) bzG
def upN (f:aE):Nat→Nat→Nat
 | 0,i=>i
 | k+1,i=>XS f (upN f k i)
theorem getD_at {α β:Type} {l:List α} {g:α→β} {i:Nat} {b:β} (h:i<l.length):(l.map g).getD i b=g l[i]:=by
 simp[bJE,h]
structure VF (f:aE):Prop where
 small:Small f
 root:0<f.bGK.length∧lvl f 0=0∧par f 0=-1
 dom:∀ i,0<i→i<f.bGK.length→0≤par f i∧XS f i<i∧lvl f (XS f i)=lvl f i-1∧1≤lvl f i∧lvl f i≤4
 drive:∀ d (h:d<f.bGG.length),0≤(f.bGG[d]).model∧mdl f d<f.bGH.length∧0≤(f.bGG[d]).machine∧eU f d<f.bGK.length∧lvl f (eU f d)=4
 bGW:∀ p∈f.bGL,1≤p.k∧p.k≤6∧0≤p.m∧p.m≤4∧p.k+p.m≤8∧p.s0=0∧(∀ l,0≤p.spread l∧p.spread l≤8)∧∀ m∈p.bGH,0≤m∧m<f.bGH.length
 volume:∀ v (h:v<f.bGJ.length),0≤(f.bGJ[v]).bGW∧NU f v<f.bGL.length
 model:∀ m∈f.bGH,1≤m.bHC∧m.bHC≤16
theorem bsX {p:cF} {n:Nat} (h:jY n p=true):∀ m∈p.bGH,0≤m∧m<n:=by
 intro m hm
 simp only[jY,bJK] at h
 obtain⟨i,hi,rfl⟩:=bLL hm
 have:=bJL.1 h.2 i (bKR.2 hi)
 rw[bJK] at this
 have h1:=within_iff.1 this.1
 simp only[bJE,bIZ hi,bKK] at h1
 omega
theorem a9R {x:Int} (h1:1≤x) (h2:x≤4):IntKind.i64.wrap (x-1)=x-1:=wrap_i64 Om Om
theorem VF.of {f:aE} (h:cU f=true):VF f:=by
 simp only[cU,bJK] at h
 obtain⟨⟨⟨hs,hd⟩,⟨⟨⟨hlaw,hmod⟩,hdrv⟩,hpol⟩,hvol⟩,-⟩:=h
 simp only[nA,bJK,decide_eq_true_eq] at hs
 obtain⟨⟨⟨⟨⟨⟨s0,s1⟩,s2⟩,s3⟩,s4⟩,s5⟩,s6⟩:=hs
 cases hdm:f.bGK with
 | nil=>rw[pR,hdm] at hd; cases hd
 | cons r t =>
  rw[pR,hdm] at hd
  simp only[QQ,bJK,decide_eq_true_eq] at hd
  obtain⟨⟨⟨⟨⟨⟨r1,r2⟩,r3⟩,r4⟩,r5⟩,r6⟩,bHZ⟩:=hd
  have hlen:f.bGK.length=t.length+1:=by rw[hdm]; rfl
  refine⟨⟨s1,s2,s3,s4,s5,s6⟩,⟨by omega,by rw[lvl,hdm]; exact r2,by rw[par,hdm]; exact r3⟩,?_,?_,?_,?_,?_⟩
  ·intro i h0 hi
   obtain⟨k,rfl⟩:∃ k,i=k+1:=⟨i-1,by omega⟩
   have hk:k<t.length:=by omega
   have:=bJL.1 bHZ k (bKR.2 hk)
   rw[bIZ hk] at this
   simp only[VC,bJK,decide_eq_true_eq] at this
   obtain⟨⟨⟨⟨d1,d2⟩,d3⟩,d4⟩,d5⟩:=this
   obtain⟨p0,p1⟩:=within_iff.1 d1
   obtain⟨l1,l4⟩:=within_iff.1 d3
   have e1:par f (k+1)=(t[k]).parent:=by rw[par,hdm]; simp[bJE,hk]
   have e2:lvl f (k+1)=(t[k]).level:=by rw[lvl,hdm]; simp[bJE,hk]
   rw[a9R l1 l4] at d2
   have e3:lvl f (t[k]).parent.toNat=(t[k]).level-1:=d2
   refine⟨by rw[e1]; exact p0,?_,?_,by rw[e2]; exact l1,by rw[e2]; exact l4⟩
   ·rw[XS,e1]; omega
   ·rw[XS,e1,e2]; exact e3
  ·intro d hd
   have:=bJL.1 hdrv _ (bIS hd)
   simp only[iH,bJK,decide_eq_true_eq] at this
   obtain⟨⟨d1,d2⟩,d3⟩:=this
   have a1:=within_iff.1 d1
   have a2:=within_iff.1 d2
   have e1:mdl f d=(f.bGG[d]).model.toNat:=by rw[mdl,getD_at hd]
   have e2:eU f d=(f.bGG[d]).machine.toNat:=by rw[eU,getD_at hd]
   refine⟨a1.1,by rw[e1]; omega,a2.1,by rw[e2]; omega,by rw[e2]; exact d3⟩
  ·intro p hp
   have h1:=bJL.1 hpol p hp
   have h2:=bsX h1
   simp only[jY,NP,bJK,decide_eq_true_eq,List.all_cons,List.all_nil,bKZ] at h1
   obtain⟨⟨⟨⟨⟨⟨⟨⟨k1,m1⟩,km⟩,q1⟩,z0⟩,sp⟩,-⟩,-⟩,-⟩:=h1
   obtain⟨g0,g1,g2,g3,g4⟩:=sp
   have b1:=within_iff.1 k1
   have b2:=within_iff.1 m1
   have b3:=within_iff.1 g0
   have b4:=within_iff.1 g1
   have b5:=within_iff.1 g2
   have b6:=within_iff.1 g3
   have b7:=within_iff.1 g4
   refine⟨b1.1,b1.2,b2.1,b2.2,km,z0,fun l=>?_,h2⟩
   unfold cF.spread
   split<;>omega
  ·intro v hv
   have:=bJL.1 hvol _ (bIS hv)
   have a1:=within_iff.1 this
   have e1:NU f v=(f.bGJ[v]).bGW.toNat:=by rw[NU,getD_at hv]
   exact⟨a1.1,by rw[e1]; omega⟩
  ·intro m hm
   have:=bJL.1 hmod m hm
   simp only[jQ,bJK] at this
   exact within_iff.1 this.1.1
theorem PS {f:aE} (h:VF f) {d:Nat} (hd:d<f.bGG.length):∀ {k:Nat},k≤4→upN f k (eU f d)<f.bGK.length∧lvl f (upN f k (eU f d))=4-(k:Int)
 | 0,_=>⟨(h.drive d hd).2.2.2.1,by rw[upN,(h.drive d hd).2.2.2.2]; rfl⟩
 | k+1,hk=>by
  obtain⟨h1,h2⟩:=PS h hd (k:=k) Om
  have hne:0<upN f k (eU f d):=by
   rcases bKN (upN f k (eU f d)) with e | e
   ·rw[e,h.root.2.1] at h2; omega
   ·exact e
  obtain⟨g1,g2,g3,g4,g5⟩:=h.dom _ hne h1
  refine⟨by rw[upN]; omega,?_⟩
  rw[upN,g3,h2]; omega
def eG (f:aE) (d:Nat) (level:Int):Nat:=upN f (4-level.toNat) (eU f d)
def kS (f:aE) (v:Nat):Int:=(fK f v).k+(fK f v).m
def asY:Rg:=[iA 1 (.box true (Tm 0)),iT 2 false]
def asZ:Rg:=[iO 3 7 1,iK 4 96 3,iC 5 .eql 4 0,iM 2 5]
def CE:aB:=(sq asY (sq asZ .ret))
def bgP:List Nat:=[1]
def afX:aS:=⟨1,6,CE,[.tmp 2]⟩
def aKU:Rg:=[iA 2 (.box true (Tm 0)),iI 4 0]
def aKV:Rd:=[(iF 6 5 2,false),(iL 7 6,false),(iF 8 6 2,false),(iL 9 8,false),(iM 10 1,false),(iX 11 2 9 10,false),(iF 12 1 11,false),(iL 13 12,false),(iX 14 17 7 13,false),(iO 15 17 14,false),(iA 5 (.alloc [(.str []),(.int .i64 0),(.int .i64 0),(.int .i64 0),(.int .i64 0),(.int .i64 0),(.int .i64 0),(.int .i64 0),(.int .i64 0),.bGI,.bGI,(.bool false),.bGI,.bGI,(.bool false),.bGI,.bGI]),true),(iS 17 5 15,true)]
def aKW:Rg:=[iF 16 1 5,iL 17 16,iF 18 2 5,iL 19 18,iB 20 .add 17 19,iM 4 20]
def IJ:aB:=(sq aKU (dq aKV (sq aKW .ret)))
def bnJ:List Nat:=[2]
def ayD:aS:=⟨2,21,IJ,[.tmp 4]⟩
def arT:Rg:=[iA 3 (.box true (Tm 0)),iI 6 0]
def arU:Rg:=[iF 8 4 3,iL 9 8,iM 10 1,iX 11 3 9 10,iF 12 2 11,iL 13 12,iM 7 13]
def arV:Rg:=[iF 14 3 3,iL 15 14,iM 16 7,iX 17 7 15 16,iF 18 1 17,iL 19 18,iM 20 2,iB 21 .gtr 19 20]
def arW:Rg:=[iF 22 3 3,iL 23 22,iM 24 7,iX 25 7 23 24,iF 26 2 25,iL 27 26,iM 7 27]
def arS:aB:=(.seq (sq arV (.cond (Tm 21) .skip (.exit 0))) (.block 1 (.region arW)))
def arX:Rg:=[iM 28 7,iM 6 28]
def BZ:aB:=(sq arT (sq arU (.seq (.block 0 (.loop arS)) (sq arX .ret))))
def bfW:List Nat:=[3]
def afD:aS:=⟨3,29,BZ,[.tmp 6]⟩
def aKZ:Rg:=[iA 2 (.box true (Tm 0)),iZ 4]
def aLA:Rg:=[iO 7 7 2,iK 8 161 7,iA 9 (.un .not (Tm 8))]
def aLB:Rg:=[iZ 4]
def aLC:Rg:=[iF 10 4 2,iL 11 10,iN 12 11,iA 13 (.bGS 1 8 [(.int .i64 0)] (Tm 12) (Tm 12)),iM 5 13]
def aLD:Rg:=[iM 14 5,iN 15 14,iI 16 0]
def aLE:Rg:=[iB 17 .lss 16 15]
def aLF:Rg:=[iM 18 16,iM 6 18]
def aLG:Rd:=[(iM 19 5,false),(iM 20 6,false),(iF 21 2 2,false),(iL 22 21,false),(iF 23 4 2,false),(iL 24 23,false),(iM 25 6,false),(iX 26 3 24 25,false),(iF 27 1 26,false),(iL 28 27,false),(iX 29 4 22 28,false),(iF 30 1 29,false),(iL 31 30,false),(iX 32 1 19 20,false),(iS 1 32 31,true)]
def aLH:Rg:=[iM 33 1,iN 34 33,iM 35 5,iN 36 35,iB 37 .eql 34 36]
def aLI:Rd:=[(iM 38 5,false),(iM 39 6,false),(iM 40 1,false),(iM 41 6,false),(iX 42 1 40 41,false),(iL 43 42,false),(iA 44 (.bHJ true (Tm 43) (Ci 0)),false),(iM 45 5,false),(iM 46 6,false),(iX 47 1 45 46,false),(iL 48 47,false),(iA 49 (.bHJ false (Tm 44) (Tm 48)),false),(iX 50 1 38 39,false),(iS 1 50 49,true)]
def OT:Rg:=[iC 51 .add 16 1,iM 16 51]
def asP:aB:=(sq aLE (.seq (.cond (Tm 17) .skip (.exit 0)) (.seq (.block 1 (sq aLF (dq aLG (sq aLH (.cond (Tm 37) (.draw aLI) .skip))))) (.region OT))))
def asQ:Rg:=[iM 52 5,iM 4 52]
def IM:aB:=(sq aKZ (.seq (sq aLA (.cond (Tm 9) (sq aLB .ret) .skip)) (sq aLC (.seq (sq aLD (.block 0 (.loop asP))) (sq asQ .ret)))))
def bnM:List Nat:=[2]
def ayE:aS:=⟨2,53,IM,[.tmp 4]⟩
def bfX:Rg:=[iA 3 (.box true (Tm 0)),iI 6 0]
def bfY:Rg:=[iO 7 7 3,iK 8 161 7,iA 9 (.un .not (Tm 8)),iM 10 9,gM 11 1 10 false,gC 12 .lss 11 0 10 false,iQ 13 10 12,iM 14 13,gM 15 1 14 false,gF 16 4 3 14 false,gL 17 16 14 false,gN 18 17 14 false,gB 19 .geq 15 18 14 false,iQ 20 14 19,iM 21 20,gM 22 2 21 false,gC 23 .lss 22 0 21 false,iQ 24 21 23,iM 25 24,gM 26 2 25 false,gC 27 .geq 26 5 25 false,iQ 28 25 27]
def EE:Rg:=[iI 6 (-1)]
def bfZ:Rg:=[iO 29 7 3,iM 30 1,iM 31 2,iA 32 (.call 155 [(Tm 29),(Tm 30),(Tm 31)]),iM 6 32]
def YS:aB:=(sq bfX (.seq (sq bfY (.cond (Tm 28) (sq EE .ret) .skip)) (sq bfZ .ret)))
def bwT:List Nat:=[3]
def tat:aS:=⟨3,33,YS,[.tmp 6]⟩
def afI:Rg:=[iA 2 (.box true (Tm 0)),iZ 4]
def afJ:Rg:=[iZ 5]
def afK:Rg:=[iO 7 7 2,iK 8 161 7,iA 9 (.un .not (Tm 8)),iM 10 9,gM 11 1 10 false,gC 12 .lss 11 0 10 false,iQ 13 10 12,iM 14 13,gM 15 1 14 false,gF 16 3 2 14 false,gL 17 16 14 false,gN 18 17 14 false,gB 19 .geq 15 18 14 false,iQ 20 14 19]
def wF:Rg:=[iM 21 5,iM 4 21]
def afL:Rg:=[iF 22 4 2,iL 23 22,iN 24 23,iI 25 0]
def afM:Rg:=[iB 26 .lss 25 24]
def afN:Rg:=[iM 27 25,iM 6 27]
def afO:Rd:=[(iO 28 7 2,false),(iM 29 6,false),(iF 30 3 2,false),(iL 31 30,false),(iM 32 1,false),(iX 33 7 31 32,false),(iF 34 1 33,false),(iL 35 34,false),(iA 36 (.call 155 [(Tm 28),(Tm 29),(Tm 35)]),true),(iM 37 1,true),(iB 38 .eql 36 37,false)]
def afP:Rg:=[iM 39 5,iM 40 6,iA 41 (.bGN true 1 1 [(.int .i64 0)] [(0,(Tm 40))]),iA 42 (.append 1 8 (Tm 39) (Tm 41)),iM 5 42]
def II:Rg:=[iC 43 .add 25 1,iM 25 43]
def TY:aB:=(sq afM (.seq (.cond (Tm 26) .skip (.exit 0)) (.seq (.block 1 (sq afN (dq afO (.cond (Tm 38) (.region afP) .skip)))) (.region II))))
def TZ:Rg:=[iM 44 5,iM 4 44]
def yN:aB:=(sq afI (sq afJ (.seq (sq afK (.cond (Tm 20) (sq wF .ret) .skip)) (.seq (sq afL (.block 0 (.loop TY))) (sq TZ .ret)))))
def a8N:List Nat:=[2,41]
def RR:aS:=⟨2,45,yN,[.tmp 4]⟩
def arY:Rg:=[iA 2 (.box true (Tm 0)),iZ 4]
def arZ:Rg:=[iZ 5]
def asA:Rg:=[iO 8 7 2,iK 9 161 8,iA 10 (.un .not (Tm 9)),iM 11 10,gM 12 1 11 false,gC 13 .lss 12 0 11 false,iQ 14 11 13]
def OQ:Rg:=[iM 15 5,iM 4 15]
def asB:Rg:=[iF 16 3 2,iL 17 16,iN 18 17,iI 19 0]
def asC:Rg:=[iB 20 .lss 19 18]
def asD:Rg:=[iM 21 19,iX 22 7 17 19,iO 23 7 22,iA 7 (.alloc [(.str []),(.int .i64 0),(.int .i64 0),(.int .i64 0),(.bool false),.bGI,.bGI]),iM 6 21,iS 7 7 23]
def OR:Rg:=[iF 24 2 7,iL 25 24,iM 26 1,iB 27 .eql 25 26]
def asE:Rg:=[iM 28 5,iM 29 6,iA 30 (.bGN true 1 1 [(.int .i64 0)] [(0,(Tm 29))]),iA 31 (.append 1 8 (Tm 28) (Tm 30)),iM 5 31]
def OS:Rg:=[iC 32 .add 19 1,iM 19 32]
def afG:aB:=(sq asC (.seq (.cond (Tm 20) .skip (.exit 0)) (.seq (.block 1 (sq asD (sq OR (.cond (Tm 27) (.region asE) .skip)))) (.region OS))))
def afH:Rg:=[iM 33 5,iM 4 33]
def CA:aB:=(sq arY (sq arZ (.seq (sq asA (.cond (Tm 14) (sq OQ .ret) .skip)) (.seq (sq asB (.block 0 (.loop afG))) (sq afH .ret)))))
def bgB:List Nat:=[2,30]
def afF:aS:=⟨2,34,CA,[.tmp 4]⟩
def asH:Rg:=[iA 2 (.box true (Tm 0)),iZ 4]
def asI:Rg:=[iF 10 4 2,iL 11 10,iN 12 11,iA 13 (.bGS 1 8 [(.int .i64 0)] (Tm 12) (Tm 12)),iM 5 13]
def asJ:Rg:=[iM 14 1,iN 15 14,iI 16 0]
def asK:Rg:=[iB 17 .lss 16 15]
def asL:Rg:=[iX 18 1 14 16,iL 19 18,iM 7 19]
def asM:Rg:=[iM 20 7,iN 21 20,iI 22 0]
def asN:Rg:=[iB 23 .lss 22 21]
def zT:Rg:=[iX 24 1 20 22,iL 25 24,iM 9 25]
def zU:Rg:=[iM 26 9,iC 27 .geq 26 0,iM 28 27,gM 29 9 28 true,gM 30 5 28 true,gN 31 30 28 true,gB 32 .lss 29 31 28 true,iP 33 28 32]
def asO:Rg:=[iM 34 5,iM 35 9,iX 36 1 34 35,iL 37 36,iC 38 .add 37 1,iX 39 1 34 35,iS 1 39 38]
def wG:Rg:=[iC 40 .add 22 1,iM 22 40]
def afS:aB:=(sq asN (.seq (.cond (Tm 23) .skip (.exit 2)) (.seq (.block 3 (sq zT (sq zU (.cond (Tm 33) (.region asO) .skip)))) (.region wG))))
def IK:Rg:=[iC 41 .add 16 1,iM 16 41]
def afT:aB:=(sq asK (.seq (.cond (Tm 17) .skip (.exit 0)) (.seq (.block 1 (sq asL (sq asM (.block 2 (.loop afS))))) (.region IK))))
def IL:Rg:=[iM 42 5,iM 4 42]
def CC:aB:=(sq asH (sq asI (.seq (sq asJ (.block 0 (.loop afT))) (sq IL .ret))))
def bgG:List Nat:=[2]
def afR:aS:=⟨2,43,CC,[.tmp 4]⟩
def arO:Rg:=[iA 2 (.box true (Tm 0)),iZ 4]
def arP:Rg:=[iO 5 7 2,iK 6 161 5,iA 7 (.un .not (Tm 6))]
def arQ:Rg:=[iZ 4]
def arR:Rg:=[iO 8 7 2,iM 9 1,iK2 10 157 8 9,iM 4 10]
def BY:aB:=(sq arO (.seq (sq arP (.cond (Tm 7) (sq arQ .ret) .skip)) (sq arR .ret)))
def bfU:List Nat:=[2]
def aeU:aS:=⟨2,11,BY,[.tmp 4]⟩
def asS:Rg:=[iA 3 (.box true (Tm 0)),iA 6 (.alloc [(.int .i64 0),(.int .i64 0),(.int .i64 0)]),iT 7 false]
def asT:Rd:=[(iM 10 1,true),(iM 11 2,true),(iX 12 1 10 11,true),(iL 13 12,true),(iN 14 13,true),(iO 15 7 3,false),(iM 16 2,false),(iK2 17 156 15 16,true),(iB 18 .neq 14 17,false)]
def asU:Rg:=[iM 19 2,iM 20 1,iM 21 2,iX 22 1 20 21,iL 23 22,iN 24 23,iA 25 (.build [(.int .i64 0),(.int .i64 0),(.int .i64 0)] [(0,1,(Ci 1)),(1,1,(Tm 19)),(2,1,(Tm 24))]),iS 3 6 25,iT 7 true]
def asV:Rg:=[iM 26 1,iM 27 2,iX 28 1 26 27,iL 29 28,iN 30 29,iI 31 0]
def asW:Rg:=[iB 32 .lss 31 30]
def zV:Rg:=[iM 33 31,iX 34 1 29 31,iL 35 34,iM 8 33,iM 9 35]
def zW:Rg:=[iM 36 9,iC 37 .lss 36 (-1),iM 38 37,gM 39 9 38 false,gF 40 4 3 38 false,gL 41 40 38 false,gN 42 41 38 false,gB 43 .geq 39 42 38 false,iQ 44 38 43]
def OU:Rg:=[iM 45 2,iM 46 8,iA 47 (.build [(.int .i64 0),(.int .i64 0),(.int .i64 0)] [(0,1,(Ci 1)),(1,1,(Tm 45)),(2,1,(Tm 46))]),iS 3 6 47,iT 7 true]
def asX:Rg:=[iC 48 .add 31 1,iM 31 48]
def asR:aB:=(sq asW (.seq (.cond (Tm 32) .skip (.exit 0)) (.seq (.block 1 (sq zV (sq zW (.cond (Tm 44) (sq OU .ret) .skip)))) (.region asX))))
def afW:Rg:=[iA 49 (.build [(.int .i64 0),(.int .i64 0),(.int .i64 0)] []),iS 3 6 49,iT 7 false]
def CD:aB:=(sq asS (.seq (dq asT (.cond (Tm 18) (sq asU .ret) .skip)) (.seq (sq asV (.block 0 (.loop asR))) (sq afW .ret))))
def bgN:List Nat:=[3]
def EF:aS:=⟨3,50,CD,[.cell 6 (some 3),.tmp 7]⟩
def aeV:Rg:=[iA 2 (.box true (Tm 0)),iT 4 false]
def aeW:Rg:=[iO 8 7 2,iK 9 161 8,iA 10 (.un .not (Tm 9)),iM 11 10,gM 12 1 11 false,gN 13 12 11 false,gF 14 6 2 11 false,gL 15 14 11 false,gN 16 15 11 false,gB 17 .neq 13 16 11 false,iQ 18 11 17]
def IF:Rg:=[iT 4 false]
def aeX:Rg:=[iM 19 1,iN 20 19,iI 21 0]
def aeY:Rg:=[iB 22 .lss 21 20]
def aeZ:Rg:=[iM 23 21,iM 5 23]
def afA:Rg:=[iO 25 7 2,iM 26 1,iM 27 5,iA 28 (.call 160 [(Tm 25),(Tm 26),(Tm 27)]),iM 24 28,iE 29 24 0,iE 30 24 1,iA 6 (.alloc [(.int .i64 0),(.int .i64 0),(.int .i64 0)]),iS 3 6 29,iM 7 30]
def IG:Rg:=[iM 31 7]
def afB:Rg:=[iT 4 false]
def afC:Rg:=[iC 32 .add 21 1,iM 21 32]
def TW:aB:=(sq aeY (.seq (.cond (Tm 22) .skip (.exit 0)) (.seq (.block 1 (sq aeZ (sq afA (sq IG (.cond (Tm 31) (sq afB .ret) .skip))))) (.region afC))))
def TX:Rg:=[iT 4 true]
def yM:aB:=(sq aeV (.seq (sq aeW (.cond (Tm 18) (sq IF .ret) .skip)) (.seq (sq aeX (.block 0 (.loop TW))) (sq TX .ret))))
def a8L:List Nat:=[2]
def RQ:aS:=⟨2,33,yM,[.tmp 4]⟩
def atK:Rg:=[iA 5 (.alloc [(.int .i64 0),(.int .i64 0),(.int .i64 0)])]
def atL:Rg:=[iM 6 0,iL 7 2,iM 8 1,iA 9 (.build [(.int .i64 0),(.int .i64 0),(.int .i64 0)] [(0,1,(Tm 6)),(1,1,(Tm 7)),(2,1,(Tm 8))]),iS 3 5 9]
def CF:aB:=(sq atK (sq atL .ret))
def bgR:List Nat:=[]
def afY:aS:=⟨2,10,CF,[.cell 5 (some 3)]⟩
def aLT:Rg:=[iA 3 (.box true (Tm 0)),iA 5 (.box false (Tm 2)),iZ 6]
def aLU:Rd:=[(iF 25 5 3,false),(iL 26 25,false),(iF 27 6 3,false),(iL 28 27,false),(iL 29 5,false),(iX 30 2 28 29,false),(iF 31 1 30,false),(iL 32 31,false),(iX 33 17 26 32,false),(iO 34 17 33,false),(iA 7 (.alloc [(.str []),(.int .i64 0),(.int .i64 0),(.int .i64 0),(.int .i64 0),(.int .i64 0),(.int .i64 0),(.int .i64 0),(.int .i64 0),.bGI,.bGI,(.bool false),.bGI,.bGI,(.bool false),.bGI,.bGI]),true),(iS 17 7 34,true)]
def aLV:Rg:=[iF 35 2 3,iL 36 35,iN 37 36,iA 38 (.bGS 1 1 [(.bool false)] (Tm 37) (Tm 37)),iM 8 38]
def aLW:Rg:=[iF 39 9 7,iL 40 39,iN 41 40,iI 42 0]
def aLX:Rg:=[iB 43 .lss 42 41]
def aLY:Rg:=[iX 44 1 40 42,iL 45 44,iM 10 45]
def aLZ:Rg:=[iM 46 8,iM 47 10,iX 48 1 46 47,⟨none,.store 1 (Tm 48) (.const (.bool true)),none⟩]
def aMA:Rg:=[iC 49 .add 42 1,iM 42 49]
def aLS:aB:=(sq aLX (.seq (.cond (Tm 43) .skip (.exit 0)) (.seq (.block 1 (sq aLY (.region aLZ))) (.region aMA))))
def aMB:Rg:=[iA 50 (.mkfn 159 [(Tm 5)]),iM 11 50]
def atM:Rg:=[iZ 12,iZ 13]
def atN:Rd:=[(iF 51 4 3,false),(iL 52 51,false),(iN 53 52,false),(iA 54 (.bGS 1 8 [(.int .i64 0)] (Tm 53) (Tm 53)),true),(iF 55 3 3,false),(iL 56 55,false),(iN 57 56,false),(iA 58 (.bGS 1 8 [(.int .i64 0)] (Tm 57) (Tm 57)),true),(iM 14 54,false),(iM 15 58,false)]
def atO:Rg:=[iM 59 1,iL 60 5,iX 61 1 59 60,iL 62 61,iN 63 62,iI 64 0]
def uQ:Rg:=[iB 65 .lss 64 63]
def zY:Rg:=[iM 66 64,iX 67 1 62 64,iL 68 67,iM 16 66,iM 17 68]
def zZ:Rg:=[iM 69 17,iC 70 .lss 69 0]
def atQ:Rg:=[iM 71 12,iM 72 11,iM 73 16,iA 74 (.bHT (Tm 72) [(Ci 2),(Tm 73)]),iA 75 (.bGN true 3 1 [(.int .i64 0),(.int .i64 0),(.int .i64 0)] [(0,(Tm 74))]),iA 76 (.append 3 24 (Tm 71) (Tm 75)),iM 12 76]
def PB:Rg:=[iM 77 8,iF 78 4 3,iL 79 78,iM 80 17,iX 81 3 79 80,iF 82 1 81,iL 83 82,iX 84 1 77 83,iL 85 84,iA 86 (.un .not (Tm 85))]
def atR:Rg:=[iM 87 13,iM 88 11,iM 89 16,iA 90 (.bHT (Tm 88) [(Ci 4),(Tm 89)]),iA 91 (.bGN true 3 1 [(.int .i64 0),(.int .i64 0),(.int .i64 0)] [(0,(Tm 90))]),iA 92 (.append 3 24 (Tm 87) (Tm 91)),iM 13 92]
def PC:Rg:=[iM 93 14,iM 94 17,iX 95 1 93 94,iL 96 95,iC 97 .add 96 1,iX 98 1 93 94,iS 1 98 97]
def PD:Rg:=[iF 99 4 3,iL 100 99,iM 101 17,iX 102 3 100 101,iF 103 2 102,iL 104 103,iM 18 104]
def atS:Rg:=[iM 105 18,iC 106 .gtr 105 0]
def atT:Rg:=[iM 113 15,iM 114 18,iX 115 1 113 114,iL 116 115,iC 117 .add 116 1,iX 118 1 113 114,iS 1 118 117]
def atU:Rg:=[iF 107 3 3,iL 108 107,iM 109 18,iX 110 7 108 109,iF 111 2 110,iL 112 111,iM 18 112]
def zX:aB:=(.seq (sq atS (.cond (Tm 106) .skip (.exit 4))) (.seq (.block 5 (.region atT)) (.region atU)))
def AA:Rg:=[iC 119 .add 64 1,iM 64 119]
def qX:aB:=(sq uQ (.seq (.cond (Tm 65) .skip (.exit 2)) (.seq (.block 3 (sq zY (.seq (sq zZ (.cond (Tm 70) (sq atQ (.exit 3)) .skip)) (.seq (sq PB (.cond (Tm 86) (.region atR) .skip)) (sq PC (sq PD (.block 4 (.loop zX)))))))) (.region AA))))
def atV:Rg:=[iM 120 12,iM 19 120]
def atW:Rg:=[iM 121 14,iN 122 121,iI 123 0]
def atX:Rg:=[iB 124 .lss 123 122]
def atY:Rg:=[iM 125 123,iX 126 1 121 123,iL 127 126,iM 20 125,iM 21 127]
def atZ:Rg:=[iM 128 21,iC 129 .gtr 128 1]
def auA:Rg:=[iM 130 19,iM 131 11,iM 132 20,iA 133 (.bHT (Tm 131) [(Ci 3),(Tm 132)]),iA 134 (.bGN true 3 1 [(.int .i64 0),(.int .i64 0),(.int .i64 0)] [(0,(Tm 133))]),iA 135 (.append 3 24 (Tm 130) (Tm 134)),iM 19 135]
def PE:Rg:=[iC 136 .add 123 1,iM 123 136]
def OZ:aB:=(sq atX (.seq (.cond (Tm 124) .skip (.exit 6)) (.seq (.block 7 (sq atY (sq atZ (.cond (Tm 129) (.region auA) .skip)))) (.region PE))))
def auB:Rg:=[iM 137 19,iM 138 13,iA 139 (.append 3 24 (Tm 137) (Tm 138)),iM 19 139]
def auC:Rg:=[iM 140 15,iN 141 140,iI 142 0]
def auD:Rg:=[iB 143 .lss 142 141]
def auE:Rg:=[iM 144 142,iX 145 1 140 142,iL 146 145,iM 22 144,iM 23 146]
def PG:Rg:=[iF 147 3 3,iL 148 147,iM 149 22,iX 150 7 148 149,iF 151 1 150,iL 152 151,iF 153 4 7,iA 154 (.idxA 5 1 (Tm 153) (Tm 152)),iL 155 154,iM 24 155]
def AB:Rg:=[iM 156 24,iC 157 .gtr 156 0,iM 158 157,gM 159 23 158 true,gM 160 24 158 true,gB 161 .gtr 159 160 158 true,iP 162 158 161]
def auF:Rg:=[iM 163 19,iM 164 11,iM 165 22,iA 166 (.bHT (Tm 164) [(Ci 5),(Tm 165)]),iA 167 (.bGN true 3 1 [(.int .i64 0),(.int .i64 0),(.int .i64 0)] [(0,(Tm 166))]),iA 168 (.append 3 24 (Tm 163) (Tm 167)),iM 19 168]
def AC:Rg:=[iC 169 .add 142 1,iM 142 169]
def PA:aB:=(sq auD (.seq (.cond (Tm 143) .skip (.exit 8)) (.seq (.block 9 (sq auE (sq PG (sq AB (.cond (Tm 162) (.region auF) .skip))))) (.region AC))))
def auG:Rg:=[iM 170 19,iM 6 170]
def IP:aB:=(sq aLT (dq aLU (sq aLV (.seq (sq aLW (.block 0 (.loop aLS))) (sq aMB (sq atM (dq atN (.seq (sq atO (.block 2 (.loop qX))) (sq atV (.seq (sq atW (.block 6 (.loop OZ))) (sq auB (.seq (sq auC (.block 8 (.loop PA))) (sq auG .ret)))))))))))))
def bnR:List Nat:=[3,75,91,134,167]
def a8O:aS:=⟨3,171,IP,[.tmp 6]⟩
def aLJ:Rg:=[iA 3 (.box true (Tm 0)),iZ 6]
def aLK:Rg:=[iO 15 7 3,iK 16 161 15,iA 17 (.un .not (Tm 16)),iM 14 17]
def aLL:Rg:=[iZ 6]
def YU:Rg:=[iM 19 1,iN 20 19,iF 21 6 3,iL 22 21,iN 23 22,iB 24 .neq 20 23,iM 18 24]
def aLM:Rg:=[iM 25 1,iN 26 25,iA 27 (.build [(.int .i64 0),(.int .i64 0),(.int .i64 0)] [(0,1,(Ci 1)),(1,1,(Ci (-1))),(2,1,(Tm 26))]),iA 28 (.bGN true 3 1 [(.int .i64 0),(.int .i64 0),(.int .i64 0)] [(0,(Tm 27))]),iM 6 28]
def aLN:Rg:=[iZ 7]
def aLO:Rg:=[iM 29 1,iN 30 29,iI 31 0]
def aLP:Rg:=[iB 32 .lss 31 30]
def aLQ:Rg:=[iM 33 31,iM 8 33]
def aLR:Rg:=[iO 35 7 3,iM 36 1,iM 37 8,iA 38 (.call 160 [(Tm 35),(Tm 36),(Tm 37)]),iM 34 38,iE 39 34 0,iE 40 34 1,iA 9 (.alloc [(.int .i64 0),(.int .i64 0),(.int .i64 0)]),iS 3 9 39,iM 10 40]
def OW:Rg:=[iM 41 10]
def atB:Rg:=[iM 42 7,iO 43 3 9,iA 44 (.bGN true 3 1 [(.int .i64 0),(.int .i64 0),(.int .i64 0)] [(0,(Tm 43))]),iA 45 (.append 3 24 (Tm 42) (Tm 44)),iM 7 45]
def atC:Rg:=[iM 46 7,iO 47 7 3,iM 48 1,iM 49 8,iA 50 (.call 158 [(Tm 47),(Tm 48),(Tm 49)]),iA 51 (.append 3 24 (Tm 46) (Tm 50)),iM 7 51]
def OX:Rg:=[iC 52 .add 31 1,iM 31 52]
def atA:aB:=(sq aLP (.seq (.cond (Tm 32) .skip (.exit 1)) (.seq (.block 2 (sq aLQ (.seq (sq aLR (sq OW (.cond (Tm 41) (sq atB (.exit 2)) .skip))) (.region atC)))) (.region OX))))
def atD:Rg:=[iO 53 7 3,iM 54 2,iK2 55 152 53 54,iM 11 55]
def atE:Rg:=[iO 56 7 3,iM 57 1,iK2 58 157 56 57,iN 59 58,iI 60 0]
def atF:Rg:=[iB 61 .lss 60 59]
def atG:Rg:=[iM 62 60,iX 63 1 58 60,iL 64 63,iM 12 62,iM 13 64]
def atH:Rg:=[iM 65 13,iM 66 11,iM 67 12,iX 68 1 66 67,iL 69 68,iB 70 .gtr 65 69]
def atI:Rg:=[iM 71 7,iM 72 12,iA 73 (.build [(.int .i64 0),(.int .i64 0),(.int .i64 0)] [(0,1,(Ci 6)),(1,1,(Ci (-1))),(2,1,(Tm 72))]),iA 74 (.bGN true 3 1 [(.int .i64 0),(.int .i64 0),(.int .i64 0)] [(0,(Tm 73))]),iA 75 (.append 3 24 (Tm 71) (Tm 74)),iM 7 75]
def OY:Rg:=[iC 76 .add 60 1,iM 60 76]
def OV:aB:=(sq atF (.seq (.cond (Tm 61) .skip (.exit 3)) (.seq (.block 4 (sq atG (sq atH (.cond (Tm 70) (.region atI) .skip)))) (.region OY))))
def atJ:Rg:=[iM 77 7,iM 6 77]
def IN:aB:=(sq aLJ (.seq (.block 0 (sq aLK (.cond (Tm 14) (sq aLL .ret) (sq YU (.cond (Tm 18) (sq aLM .ret) .skip))))) (sq aLN (.seq (sq aLO (.block 1 (.loop atA))) (sq atD (.seq (sq atE (.block 3 (.loop OV))) (sq atJ .ret)))))))
def bnP:List Nat:=[3,28,44,74]
def ayF:aS:=⟨3,78,IN,[.tmp 6]⟩
def asF:Rg:=[iA 3 (.box true (Tm 0)),iT 6 false]
def asG:Rg:=[iO 7 7 3,iK 8 161 7,iM 9 8,gO 10 7 3 9 true,gM 11 1 9 true,gM 12 2 9 true,iG 13 (.call 154 [(Tm 10),(Tm 11),(Tm 12)]) 9 true,gN 14 13 9 true,gC 15 .eql 14 0 9 true,iP 16 9 15,iM 6 16]
def CB:aB:=(sq asF (sq asG .ret))
def bgE:List Nat:=[3]
def afQ:aS:=⟨3,17,CB,[.tmp 6]⟩
theorem bgO {C:Ctx} (h:∀ f:aE,f.Ok→aH C 96 [.agg f.cells] .nil (aD (.int .i64 (JF f)))) (f:aE) (hf:f.Ok) :
  CE.wp C (aR afX.res (bP (.bool (cU f)))) (PF.args [.agg f.cells]) .nil:=by
 simp only[go_sem,δ,γ,CE,asY,asZ,afX]
 refine aA (h f hf) rfl ?_
 simp only[go_sem,γ]
 refine aY rfl ?_
 unfold JF
 cases cU f<;>rfl
theorem kC {f:aE} {d:Nat} (h:d<f.bGG.length):(f.bGG.map dD.cells)[d]?=some (f.bGG[d]).cells:=by simp[h]
theorem eI {f:aE} {d:Nat} (h:d<f.bGK.length):(f.bGK.map cG.cells)[d]?=some (f.bGK[d]).cells:=by simp[h]
theorem wK {f:aE} {d:Nat} (h:d<f.bGJ.length):(f.bGJ.map eF.cells)[d]?=some (f.bGJ[d]).cells:=by simp[h]
theorem pO {f:aE} {d:Nat} (h:d<f.bGL.length):(f.bGL.map cF.cells)[d]?=some (f.bGL[d]).cells:=by simp[h]
theorem aoW {f:aE} {d:Nat} (h:d<f.bGH.length):(f.bGH.map cH.cells)[d]?=some (f.bGH[d]).cells:=by simp[h]
theorem xY {f:aE} {d:Nat} (h:d<f.bGK.length):(f.bGK[d]).level=lvl f d:=by rw[lvl,getD_at h]
theorem yC {f:aE} {d:Nat} (h:d<f.bGK.length):(f.bGK[d]).parent=par f d:=by rw[par,getD_at h]
theorem VF.akL {f:aE} (h:VF f) {d:Nat} (hd:d<f.bGG.length):(f.bGG[d]).machine=((eU f d:Nat):Int):=by
 have:=(h.drive d hd).2.2.1
 rw[eU,getD_at hd]; omega
theorem VF.DT {f:aE} (h:VF f) {d:Nat} (hd:d<f.bGG.length):(f.bGG[d]).model=((mdl f d:Nat):Int):=by
 have:=(h.drive d hd).1
 rw[mdl,getD_at hd]; omega
theorem VF.adN {f:aE} (h:VF f) {v:Nat} (hv:v<f.bGJ.length):(f.bGJ[v]).bGW=((NU f v:Nat):Int):=by
 have:=(h.volume v hv).1
 rw[NU,getD_at hv]; omega
theorem VF.alL {f:aE} (h:VF f) {i:Nat} (h0:0<i) (hi:i<f.bGK.length):par f i=((XS f i:Nat):Int):=by
 have:=(h.dom i h0 hi).1
 rw[XS]; omega
theorem yD {f:aE} (h:VF f) {v:Nat} (hv:v<f.bGJ.length):∃ hp:NU f v<f.bGL.length,f.bGL[NU f v]=fK f v:=by
 have hp:=(h.volume v hv).2
 exact⟨hp,by simp[fK,bJE,hp]⟩
theorem bnI {C:Ctx} (f:aE) (hv:VF f) (v:Nat) (h:v<f.bGJ.length) :
  IJ.wp C (aR ayD.res (bP (.int .i64 (kS f v)))) (PF.args [.agg f.cells,.int .i64 v]) .nil:=by
 obtain⟨hp,he⟩:=yD hv h
 have hpol:=hv.bGW _ (bIS hp)
 rw[he] at hpol
 have hw:IntKind.i64.wrap ((fK f v).k+(fK f v).m)=(fK f v).k+(fK f v).m:=wrap_i64 Om Om
 simp only[go_sem,IJ,aKU,ayD]
 refine bK .nil dC PH.nil_le ?_
 simp only[go_sem,δ,γ,θ,aKV,wK h,hv.adN h,pO hp,he]
 refine aO fun o ho=>?_
 simp only[go_sem,δ,γ,θ,aKW,hw]
 refine⟨PH.nil_le,?_⟩
 exact fQ (n:=(fK f v).k+(fK f v).m) rfl rfl
def abF (f:aE) (level:Int) (i:Nat):PF:=(((PF.nil.set 3 (.bGQ f.cells)).set 2 (.int .i64 level)).set 7 (.int .i64 i))
theorem bfV {C:Ctx} (f:aE) (hv:VF f) (d:Nat) (h:d<f.bGG.length) (level:Int) (h0:0≤level) (h4:level≤4) :
  BZ.wp C (aR afD.res (bP (.int .i64 (eG f d level:Nat)))) (PF.args [.agg f.cells,.int .i64 d,.int .i64 level]) .nil:=by
 simp only[go_sem,δ,γ,θ,BZ,arT,arU,afD,kC h,hv.akL h]
 refine wp_loop (α:=Nat) (fun k=>abF f level (upN f k (eU f d))) (fun _=>.nil) (fun k=>k≤4-level.toNat) (fun k=>4-level.toNat-k) 0 (bIT _) ?_ PH.nil_le ?_
 ·unfold abF
  (repeat' (first|exact PF.nil_le|refine PF.aF ?_ ?_))<;>first|(simp only[go_sem,γ,upN]<;>rfl)|rfl
 intro k hk
 obtain⟨u1,u2⟩:=PS hv h (k:=k) Om
 simp only[go_sem,δ,γ,θ,arS,arV,abF,eI u1,xY u1]
 by_cases hlt:k<4-level.toNat
 ·have hc:lvl f (upN f k (eU f d))>level:=by rw[u2]; omega
  have hne:0<upN f k (eU f d):=by
   rcases bKN (upN f k (eU f d)) with e | e
   ·rw[e,hv.root.2.1] at u2; omega
   ·exact e
  simp only[go_sem,δ,γ,θ,hc,arW,eI u1,yC u1,hv.alL hne u1]
  refine aC (k+1) hlt Om ?_ PH.nil_le
  (repeat' (first|exact PF.nil_le|refine PF.aF ?_ ?_))<;>first|(simp only[go_sem,γ,upN]<;>rfl)|rfl
 ·have hc:¬ lvl f (upN f k (eU f d))>level:=by rw[u2]; omega
  have:k=4-level.toNat:=by omega
  subst this
  simp only[go_sem,γ,hc,arX]
  exact fQ rfl rfl
structure QM (C:Ctx):Prop where
 valid:∀ f:aE,f.Ok→aH C 161 [.agg f.cells] .nil (aD (.bool (cU f)))
 kR:∀ (f:aE) (d:Nat) (level:Int),VF f→d<f.bGG.length→0≤level→level≤4→aH C 155 [.agg f.cells,.int .i64 d,.int .i64 level] .nil (aD (.int .i64 (eG f d level:Nat)))
 frag:∀ (f:aE) (v:Nat),VF f→v<f.bGJ.length→aH C 156 [.agg f.cells,.int .i64 v] .nil (aD (.int .i64 (kS f v)))
def atP (f:aE) (d level:Int):Int:=if cU f∧0≤d∧d<f.bGG.length∧0≤level∧level<5 then (eG f d.toNat level:Nat) else -1
theorem bwS {C:Ctx} (L:QM C) (f:aE) (hf:f.Ok) (d level:Int) :
  YS.wp C (aR tat.res (bP (.int .i64 (atP f d level)))) (PF.args [.agg f.cells,.int .i64 d,.int .i64 level]) .nil:=by
 simp only[go_sem,δ,γ,YS,bfX,bfY,tat]
 refine aA (L.valid f hf) rfl ?_
 unfold atP
 cases hv:cU f with
 | false =>
  simp only[go_sem,ο,γ,reduceCtorEq,bIY,EE]
  exact fQ rfl (by simp)
 | true =>
  have hV:=VF.of hv
  by_cases c1:d<0
  ·simp only[go_sem,ο,γ,reduceCtorEq,bIO,c1,EE]
   exact fQ rfl (by rw[if_neg Om])
  ·by_cases c2:d≥(f.bGG.length:Nat)
   ·simp only[go_sem,ο,δ,γ,θ,reduceCtorEq,bIO,c1,bIM,c2,EE]
    exact fQ rfl (by rw[if_neg Om])
   ·by_cases c3:level<0
    ·simp only[go_sem,ο,δ,γ,θ,reduceCtorEq,bIO,c1,bIM,c2,c3,EE]
     exact fQ rfl (by rw[if_neg Om])
    ·by_cases c4:level≥5
     ·simp only[go_sem,ο,δ,γ,θ,reduceCtorEq,bIO,c1,bIM,c2,c3,c4,EE]
      exact fQ rfl (by rw[if_neg Om])
     ·simp only[go_sem,ο,δ,γ,θ,reduceCtorEq,bIO,c1,bIM,c2,c3,c4,bfZ]
      have hc:=L.kR f d.toNat level hV Om Om Om
      rw[Int.toNat_of_nonneg Om] at hc
      refine aA hc rfl ?_
      simp only[go_sem,ο,γ]
      exact fQ rfl (by rw[if_pos Om])
def pick (n:Nat) (p:Nat→Bool):List Int:=((bIN n).filter p).map fun (i:Nat)=>(i:Int)
theorem uM (n:Nat) (p:Nat→Bool):pick (n+1) p=if p n then pick n p++[(n:Int)] else pick n p:=by
 unfold pick
 rw[List.range_succ,List.filter_append,bKV]
 by_cases h:p n
 ·rw[if_pos h]; simp[h]
 ·rw[if_neg h]; simp[h]
theorem tA (n:Nat) (p:Nat→Bool):(pick n p).length≤n:=by
 unfold pick
 rw[bIM]
 exact bKG (List.length_filter_le _ _) (by simp)
theorem rN (l:List Int) (x:Int):cV l++[[.int .i64 x]]=cV (l++[x]):=by unfold cV; rw[bKV]; rfl
theorem fN (l:List Int):(cV l).length=l.length:=by unfold cV; rw[bIM]
theorem mI {t:Nat} {H:PH} {v:PV} {l:List Int} {F:PF} (h:aX H 1 v (cV l)) (ht:F t=some v):aR [.tmp t] (bP (ints l)) .ret F H:=jZ (.inr rfl) h ht
theorem eR {t:Nat} {H:PH} {F:PF} (ht:F t=some .bGI):aR [.tmp t] (bP (ints [])) .ret F H:=jZ (rows:=[]) (.inr rfl) .nil ht
def mF (f:aE) (dom:Int):List Int :=
 if cU f∧0≤dom∧dom<f.bGK.length then pick f.bGG.length fun d=>decide ((eG f d (lvl f dom.toNat):Nat)=dom.toNat) else []
def tdF (f:aE) (dom:Nat) (v:PV) (k:Nat):PF:=(((((PF.nil.set 1 (.int .i64 dom)).set 2 (.bGQ f.cells)).set 5 (v)).set 24 (.int .i64 (f.bGG.length:Nat))).set 25 (.int .i64 k))
def toS (f:aE):Spec:=fun name vs=>match name,vs with
 | 155,[_,.int _ d,.int _ l]=>some ([],fun _=>aD (.int .i64 (eG f d.toNat l:Nat)))
 | 156,[_,.int _ v]=>some ([],fun _=>aD (.int .i64 (kS f v.toNat)))
 | _,_=>none
theorem bgL (f:aE) (d:Nat) (l:Int):toS f 155 [.agg f.cells,.int .i64 d,.int .i64 l]=some ([],fun _=>aD (.int .i64 (eG f d l:Nat))):=rfl
theorem bnK (f:aE) (v:Nat):toS f 156 [.agg f.cells,.int .i64 v]=some ([],fun _=>aD (.int .i64 (kS f v))):=rfl
theorem a8M {C:Ctx} (L:QM C) (f:aE) (hf:f.Ok) (dom:Int) :
  yN.wp C (aR RR.res (bP (ints (mF f dom)))) (PF.args [.agg f.cells,.int .i64 dom]) .nil:=by
 simp only[go_sem,δ,γ,yN,afI,afJ,afK,RR]
 refine aA (L.valid f hf) rfl ?_
 unfold mF
 cases hv:cU f with
 | false =>
  simp only[go_sem,γ,reduceCtorEq,bIY,wF,]
  rw[if_neg (by simp)]
  exact eR rfl
 | true =>
  have hV:=VF.of hv
  by_cases c1:dom<0
  ·simp only[go_sem,γ,reduceCtorEq,bIO,c1,wF]
   rw[if_neg Om]
   exact eR rfl
  ·by_cases c2:dom≥(f.bGK.length:Nat)
   ·simp only[go_sem,δ,γ,θ,reduceCtorEq,bIO,c1,bIM,c2,wF]
    rw[if_neg Om]
    exact eR rfl
   ·obtain⟨n,rfl⟩:∃ n:Nat,dom=n:=⟨dom.toNat,by omega⟩
    have hn:n<f.bGK.length:=by omega
    have hd24:=hV.small.bGG
    simp only[go_sem,δ,γ,θ,reduceCtorEq,bIO,c1,bIM,c2,afL]
    rw[if_pos Om]
    generalize hp:(fun d=>decide ((eG f d (lvl f n):Nat)=n))=p
    refine wp_loop (α:=Nat × PV × PH) (fun t=>tdF f n t.2.1 t.1) (fun t=>t.2.2) (fun t=>t.1≤f.bGG.length∧aX t.2.2 1 t.2.1 (cV (pick t.1 p))) (fun t=>f.bGG.length-t.1) (0,.bGI,.nil) ⟨bIT _,.nil⟩ ?_ PH.nil_le ?_
    ·unfold tdF
     (repeat' (first|exact PF.nil_le|refine PF.aF ?_ ?_))<;>first|(simp only[go_sem,γ,bIM]<;>rfl)|rfl
    rintro⟨k,v,H0⟩ ⟨hk,hO⟩
    simp only at hk hO ⊢
    simp only[go_sem,γ,TY,afM,tdF]
    by_cases hlt:k<f.bGG.length
    ·have bGO:(k:Int)<(f.bGG.length:Nat):=by omega
     have hl04:0≤lvl f n∧lvl f n≤4:=by
      rcases bKN n with e | e
      ·rw[e,hV.root.2.1]; decide
      ·have:=hV.dom n e hn; omega
     simp only[go_sem,γ,bGO,afN]
     refine bK .nil (toS f) PH.nil_le ?_
     simp only[go_sem,δ,γ,θ,afO,eI hn,xY hn]
     refine bC (bgL f k (lvl f n)) (L.kR f k (lvl f n) hV hlt hl04.1 hl04.2) rfl PH.nil_le ?_
     have hpk:p k=decide ((eG f k (lvl f n):Nat)=n):=by rw[← hp]
     have bHE:=uM k p
     by_cases c:eG f k (lvl f n)=n
     ·rw[if_pos (by rw[hpk]; simp[c])] at bHE
      have c':(((eG f k (lvl f n):Nat):Int)==(n:Int))=true:=bO Om
      simp only[go_sem,υ,γ,η,θ,ζ,c',afP]
      refine cX (src:=[[.int .i64 k]]) hO rfl (by unfold roomFor; have:=tA k p; rw[fN]; simp only[bIX,maxLen]; omega) fun v' H' hO' _=>?_
      rw[rN,← bHE] at hO'
      simp only[go_sem,γ,II,ws k]
      refine aC (k+1,v',H') ⟨hlt,hO'⟩ (by simp only; omega) ?_ PH.le_refl
      exact Lq
     ·rw[if_neg (by rw[hpk]; simp[c])] at bHE
      have c':(((eG f k (lvl f n):Nat):Int)==(n:Int))=false:=bF Om
      simp only[go_sem,γ,c',II,ws k]
      rw[← bHE] at hO
      refine aC (k+1,v,H0) ⟨hlt,hO⟩ (by simp only; omega) ?_ PH.le_refl
      exact Lq
    ·have bGO:¬ (k:Int)<(f.bGG.length:Nat):=by omega
     have:k=f.bGG.length:=by omega
     subst this
     simp only[go_sem,γ,bGO,TZ]
     exact mI hO rfl
def rH (f:aE) (dom:Int):List Int :=
 if cU f∧0≤dom then pick f.bGK.length fun i=>decide (par f i=dom) else []
def tcF (f:aE) (dom:Int) (v:PV) (k:Nat):PF:=((((((PF.nil.set 1 (.int .i64 dom)).set 2 (.bGQ f.cells)).set 5 (v)).set 17 (.sl 7 (f.bGK.map cG.cells))).set 18 (.int .i64 (f.bGK.length:Nat))).set 19 (.int .i64 k))
theorem bgA {C:Ctx} (L:QM C) (f:aE) (hf:f.Ok) (dom:Int) :
  CA.wp C (aR afF.res (bP (ints (rH f dom)))) (PF.args [.agg f.cells,.int .i64 dom]) .nil:=by
 simp only[go_sem,δ,γ,CA,arY,arZ,asA,afF]
 refine aA (L.valid f hf) rfl ?_
 unfold rH
 cases hv:cU f with
 | false =>
  simp only[go_sem,γ,reduceCtorEq,bIY,OQ]
  rw[if_neg (by simp)]
  exact eR rfl
 | true =>
  have hV:=VF.of hv
  by_cases c1:dom<0
  ·simp only[go_sem,γ,reduceCtorEq,bIO,c1,OQ]
   rw[if_neg Om]
   exact eR rfl
  ·have hd40:=hV.small.bGK
   simp only[go_sem,δ,γ,θ,reduceCtorEq,bIO,c1,bIM,asB]
   rw[if_pos Om]
   generalize hp:(fun i=>decide (par f i=dom))=p
   refine wp_loop (α:=Nat × PV × PH) (fun t=>tcF f dom t.2.1 t.1) (fun t=>t.2.2) (fun t=>t.1≤f.bGK.length∧aX t.2.2 1 t.2.1 (cV (pick t.1 p))) (fun t=>f.bGK.length-t.1) (0,.bGI,.nil) ⟨bIT _,.nil⟩ ?_ PH.nil_le ?_
   ·unfold tcF
    (repeat' (first|exact PF.nil_le|refine PF.aF ?_ ?_))<;>first|(simp only[go_sem,γ,bIM]<;>rfl)|rfl
   rintro⟨k,v,H0⟩ ⟨hk,hO⟩
   simp only at hk hO ⊢
   simp only[go_sem,γ,afG,asC,tcF]
   by_cases hlt:k<f.bGK.length
   ·have bGO:(k:Int)<(f.bGK.length:Nat):=by omega
    simp only[go_sem,δ,γ,bGO,asD,eI hlt]
    refine aO fun o ho=>?_
    have hpk:p k=decide (par f k=dom):=by rw[← hp]
    have bHE:=uM k p
    by_cases c:par f k=dom
    ·rw[if_pos (by rw[hpk]; simp[c])] at bHE
     simp only[go_sem,υ,δ,γ,η,θ,ζ,OR,yC hlt,bO c,asE]
     refine cX (src:=[[.int .i64 k]]) (hO.fresh ho _).1 rfl (by unfold roomFor; have:=tA k p; rw[fN]; simp only[bIX,maxLen]; omega) fun v' H' hO' _=>?_
     rw[rN,← bHE] at hO'
     simp only[go_sem,γ,OS,ws k]
     refine aC (k+1,v',H') ⟨hlt,hO'⟩ (by simp only; omega) ?_ PH.le_refl
     exact Lq
    ·rw[if_neg (by rw[hpk]; simp[c])] at bHE
     simp only[go_sem,δ,γ,θ,OR,yC hlt,bF c,OS,ws k]
     rw[← bHE] at hO
     refine aC (k+1,v,H0) ⟨hlt,hO⟩ (by simp only; omega) ?_ (PH.MK _ ho)
     exact Lq
   ·have bGO:¬ (k:Int)<(f.bGK.length:Nat):=by omega
    have:k=f.bGK.length:=by omega
    subst this
    simp only[go_sem,γ,bGO,afH]
    exact mI hO rfl
section
variable (o s:Nat) (rs:List (List PV))
@[go_sem] theorem bBM (k:IntKind) (n:Int):PV.frz o s rs (.int k n)=.int k n:=(rfl)
@[go_sem] theorem bzZ (b:Bool):PV.frz o s rs (.bool b)=.bool b:=(rfl)
@[go_sem] theorem bBQ (l:List UInt8):PV.frz o s rs (.str l)=.str l:=(rfl)
@[go_sem] theorem bAA:PV.frz o s rs .bGI=.bGI:=(rfl)
@[go_sem] theorem bES (n:Nat) (r:List (List PV)):PV.frz o s rs (.sl n r)=.sl n r:=(rfl)
@[go_sem] theorem bAB (c:List PV):PV.frz o s rs (.bGQ c)=.bGQ c:=(rfl)
@[go_sem] theorem bBP (q z i c:Nat):PV.frz o s rs (.ptr q z i c)=.ptr q z i c:=(rfl)
@[go_sem] theorem bER (n:Nat) (c:List PV):PV.frz o s rs (.fn n c)=.fn n c:=(rfl)
@[go_sem] theorem bBN (q:Nat):PV.frz o s rs (.map q)=.map q:=(rfl)
@[go_sem] theorem bBO (q z off len:Nat):PV.frz o s rs (.osl q z off len)=if q=o then (if z=s∧off+len≤rs.length then .sl s ((rs.drop off).take len) else .junk) else .osl q z off len:=(rfl)
end
def mN (s:Nat) (rows:List (List PV)) (r:PV) (H:PH):Prop :=
 (rows=[]∧r=.bGI∧H=PH.nil)∨∃ q rs,r=.osl q s 0 rows.length∧H=PH.nil.set q (.rows s rs)∧rows.length≤rs.length∧rs.take rows.length=rows
theorem aTN (q s:Nat) (rs:List (List PV)):(PH.nil.set q (.rows s rs)).frz q s rs=PH.nil:=PH.ext fun o=>by
 rw[RB]
 by_cases e:o=q
 ·rw[if_pos e]; rfl
 ·rw[if_neg e,bA,if_neg e]; rfl
section
variable {C:Ctx} {K:bX} {F:PF} {H:PH} {s:Nat} {v:PV} {rows:List (List PV)}
theorem mN.over {r:PV} {H':PH} (h:mN s rows r H') (ha:mM H .nil H'):aX (H.over .nil H') s r rows∧∀ o x,H o=some x→(H.over .nil H') o=some x:=by
 rcases h with ⟨h1,h2,rfl⟩ | ⟨q,rs,h1,rfl,h3,h4⟩
 ·rw[PH.yB]; exact⟨.inl ⟨h1,h2⟩,fun o x h=>h⟩
 ·rw[PH.oJ]
  have hq:H q=none:=ha q (.rows s rs) (by simp only[bA,if_true]) rfl
  refine⟨.inr ⟨q,rs,h1,by simp only[bA,if_true],h3,h4⟩,fun o x ho=>?_⟩
  have:o≠q:=by rintro rfl; rw[hq] at ho; cases ho
  simp only[bA,if_neg this,ho]
theorem HN {t:Nat} {e:lP} (he:e=.normal∨e=.ret) (h:aX H s v rows) (ht:F t=some v):aR [.tmp t] (mN s rows) e F H:=by
 rcases h with ⟨rfl,rfl⟩ | ⟨q,rs,rfl,h1,h2,h3⟩
 ·exact aV (vs:=[.bGI]) he .nil (by rw[kP,nH,ht,pC]) PH.nil_le (.inl ⟨rfl,rfl,rfl⟩)
 ·exact aV (vs:=[.osl q s 0 rows.length]) he (PH.nil.set q (.rows s rs)) (by rw[kP,nH,ht,pC]) (PH.aF PH.nil_le h1) (.inr ⟨q,rs,rfl,rfl,h2,h3⟩)
theorem DZ {t:Nat} {e:lP} (he:e=.normal∨e=.ret) (ht:F t=some .bGI):aR [.tmp t] (mN s []) e F H:=HN he .nil ht
theorem beT {t:Nat} {e:lP} {r:PV} {H':PH} (he:e=.normal∨e=.ret) (h:mN s rows r H') (ht:F t=some r):aR [.tmp t] (mN s rows) e F (H.over .nil H'):=by
 refine aV (vs:=[r]) he H' (by rw[kP,nH,ht,pC]) (fun o x ho=>?_) h
 rw[nG,ho]
theorem aH.freeze {name:Nat} {args:List PV} (h:aH C name args H (mN s rows)):aH C name args H (aD (.sl s rows)) :=
 ⟨h.1,fun E w vs hN hW hvs=>(h.2 E w vs hN hW hvs).mono fun e w' he=>by
  obtain⟨u,pv,E',H',rfl,hW',hr,hE,hp⟩:=he
  rcases hp with ⟨rfl,rfl,rfl⟩ | ⟨q,rs,rfl,rfl,h3,h4⟩
  ·exact⟨u,_,E',_,rfl,hW',(Co.nil s).sound hr,hE,rfl,rfl⟩
  ·have hz:jI (PF.nil.set 0 (.osl q s 0 rows.length)) (PH.nil.set q (.rows s rs)) _ _:=.step q (s:=s) (rs:=rs) (by simp only[bA,if_true]) (.refl _ _)
   obtain⟨E2,k1,k2,k3⟩:=hz.sound hW'
   have bIH:=k3 (fun _=>u) (fun i p hi=>by
    rw[mJ] at hi
    split at hi
    ·cases hi; exact hr
    ·cases hi) 0 (.sl s rows) (by rw[rL,mJ,if_pos rfl,bJS,wV h3,h4])
   rw[aTN] at k1 k2
   exact⟨u,_,E2,_,rfl,k1,bIH,hE.trans k2,rfl,rfl⟩⟩
theorem eP.of:∀ {E:Env} (ps:List PV) (vs:List Value),vs.length=ps.length→(∀ (i:Nat) p v,ps[i]?=some p→vs[i]?=some v→aW E p v)→eP E ps vs
 | _,[],[],_,_=>.nil
 | _,[],_::_,h,_=>by simp at h
 | _,_::_,[],h,_=>by simp at h
 | _,p::ps,v::vs,h,k=>.cons (k 0 p v rfl rfl) (eP.of ps vs (by simpa using h) fun i q u a b=>k (i+1) q u (by simpa using a) (by simpa using b))
theorem bR.same {E:Env} {w w':World} (hW:bR E H w) (hs:w.heap.size≤w'.heap.size) (hb:∀ b,b<w.heap.size→H b=none→w'.heap[b]?=w.heap[b]?) (hH:∀ o x,H o=some x→w'.heap[o]?=w.heap[o]?):bR E H w':=by
 have key:∀ b,b<w.heap.size→w'.heap[b]?=w.heap[b]?:=fun b hlt=>by
  cases e:H b with
  | none=>exact hb b hlt e
  | some x=>exact hH b x e
 refine⟨fun b cs h=>?_,fun o x h=>?_,fun o n h=>?_⟩
 ·obtain⟨h1,ty,fr,h2⟩:=hW.g b cs h
  exact⟨h1,ty,fr,(key b (bLU.1 h2).1).trans h2⟩
 ·obtain⟨h1,h2⟩:=hW.h o x h
  exact⟨Nat.lt_of_lt_of_le h1 hs,h2.mono (.refl E) (key o h1)⟩
 ·obtain⟨cur,ty,fr,h1,h2⟩:=hW.s o n h
  exact⟨cur,ty,fr,(key o (bLU.1 h1).1).trans h1,h2⟩
inductive Plain:PV→Prop
 | int (k:IntKind) (n:Int):Plain (.int k n)
 | bool (b:Bool):Plain (.bool b)
 | str (l:List UInt8):Plain (.str l)
theorem Plain.rep {v:PV} (h:Plain v) {E E':Env} {u:Value} (r:aW E v u):aW E' v u:=by
 cases h<;>cases r
 ·exact .int _ _
 ·exact .bool _
 ·exact .str _
theorem aH.bvT {name o:Nat} {rs:List (List PV)} {args:List PV} (hv:Plain v) (h:aH C name (args.map (PV.frz o s rs)) .nil (aD v)) :
  aH C name args (PH.nil.set o (.rows s rs)) (fun r H'=>r=v∧H'=PH.nil.set o (.rows s rs)):=by
 refine⟨h.1,fun E w vs hN hW hvs=>?_⟩
 have hz:jI (PF.args args) (PH.nil.set o (.rows s rs)) _ _:=.step o (s:=s) (rs:=rs) (by simp only[bA,if_true]) (.refl _ _)
 obtain⟨E1,k1,k2,k3⟩:=hz.sound hW
 rw[aTN] at k1 k2
 have hlen:=hvs.len
 have hvs1:eP E1 (args.map (PV.frz o s rs)) vs.toList:=by
  refine eP.of _ _ (by rw[bIM]; exact hlen) fun i p u hp hu=>?_
  have:=k3 (fun i=>(vs.toList[i]?).getD undef) (fun j q hj=>by
   have hjl:=(bKA.1 hj).1
   have hjv:j<vs.toList.length:=by omega
   simp only[bIZ hjv,bKK]
   exact hvs.at_ j q _ hj (bIZ hjv)) i p (by rw[rL,args_at,← bJU]; exact hp)
  simp only[hu,bKK] at this
  exact this
 refine (h.2 E1 w vs (k2.env.num.trans hN) k1 hvs1).mono fun e w' he=>?_
 obtain⟨u,pv,E2,H2,rfl,hW2,hr,hE,rfl,rfl⟩:=he
 have hblk:∀ b,b<w.heap.size→w'.heap[b]?=w.heap[b]?:=fun b hb=>hE.block b hb rfl
 refine⟨u,pv,E,_,rfl,hW.same hE.size (fun b hb _=>hblk b hb) (fun q x hq=>hblk q (hW.h q x hq).1),hv.rep hr,⟨.refl E,hE.os,hE.tape,hE.output,hE.size,fun b hb _=>hblk b hb,fun q x hq=>.inl ⟨x,hq⟩,fun b cs hb=>.inl hb⟩,rfl,rfl⟩
theorem aSF {name o:Nat} {rs:List (List PV)} {args:List aP} {vs:List PV} {d:Option Nat} {K:PF→PH→Prop} (hv:Plain v) (h:aH C name (vs.map (PV.frz o s rs)) .nil (aD v)) (ho:H o=some (.rows s rs)) (ha:aP.evs F args=some vs)
  (hk:K (F.put d v) H):gW C name args [] d K F H:=by
 refine mX (h.bvT hv) ha (PH.aF PH.nil_le ho) ?_
 rintro r H' ⟨rfl,rfl⟩ -
 rw[PH.over_self _ (PH.aF PH.nil_le ho)]
 exact hk
theorem biW {Hs:PH} {S:Spec} {name o:Nat} {rs:List (List PV)} {vs:List PV} {R:PH→PV→PH→Prop} {args:List aP} {st:Bool} {d:Option Nat} {K:PF→PH→Prop} (hS:S name vs=some ([o],R)) (hv:Plain v) (ho:H o=some (.rows s rs))
  (h:aH C name (vs.map (PV.frz o s rs)) .nil (aD v)) (hR1:R (PH.nil.set o (.rows s rs)) v (PH.nil.set o (.rows s rs))) (hR2:∀ r H',R (PH.nil.set o (.rows s rs)) r H'→r=v∧H'=PH.nil.set o (.rows s rs)) (ha:aP.evs F args=some vs) (hle:Hs.le H) (hk:K (F.put d v) H) :
  dOp C Hs S st (.call name args) d K F H:=VA hS ho (h.bvT hv) hR1 hR2 ha hle hk
theorem axG {name t:Nat} {R:PV→PH→Prop} {d:Option Nat} {K:PF→PH→Prop} (h:aH C name [.sl s rows] .nil R) (hO:aX H s v rows) (ht:F t=some v)
  (hK:∀ (F1:PF) (H1:PH),(∀ i u,F i=some u→Pure u→F1 i=some u)→∀ r H',R r H'→mM H1 .nil H'→K (F1.put d r) (H1.over .nil H')):gW C name [.tmp t] [] d K F H:=by
 rcases hO with ⟨rfl,rfl⟩ | ⟨q,rs,rfl,h1,h2,h3⟩
 ·exact .inl ⟨[.bGI],.nil,R,by rw[xN,aaH,ht,QS]; rfl,PH.nil_le,h.a8C (.inl ⟨rfl,rfl⟩),hK F H fun i u hi _=>hi⟩
 ·refine .inr ⟨_,_,.step q h1 (.refl _ _),[.sl s rows],.nil,R,?_,PH.nil_le,h,hK _ _ fun i u hi hp=>?_⟩
  ·simp only[xN,QS,aaH,rL,ht,bJS,wV h2,h3,bJZ]
  ·rw[rL,hi,bJS,hp q s rs]
end
def mG (A:List Int) (k:Nat):List Int:=A.take k++bIP (A.length-k) 0
theorem aPH (A:List Int):mG A 0=bIP A.length 0:=by simp[mG]
theorem a3K (A:List Int):mG A A.length=A:=by simp[mG]
theorem awW (A:List Int) {k:Nat} (h:k≤A.length):(mG A k).length=A.length:=by simp[mG]; omega
theorem a3L (A:List Int) {k:Nat} (h:k<A.length):(mG A k).set k A[k]=mG A (k+1):=by
 unfold mG
 rw[bLM _ _ (by simp; omega),bJF,bKJ Om,Nat.sub_self,show A.length-k=(A.length-(k+1))+1 by omega,List.replicate_succ,List.set_cons_zero,
  bKM h,bJO]
 rfl
theorem oF (l:List Int) (i:Nat) (x:Int):(cV l).set i [.int .i64 x]=cV (l.set i x):=by unfold cV; rw[List.map_set]
theorem pM (n:Nat):bIP n [PV.int .i64 0]=cV (bIP n 0):=by simp[cV]
theorem sW {l:List Int} {i:Nat} (h:i<l.length):(cV l)[i]?=some [.int .i64 l[i]]:=by simp[cV,h]
theorem abK (l:List Int):ints l=.sl 1 (cV l):=rfl
def uO (f:aE) (room:List Int) (d:Nat):Int:=if room.length=f.bGG.length then min (max (room.getD d 0) 0) (ext f d) else ext f d
def fM (f:aE) (room:List Int):List Int:=(bIN f.bGG.length).map (uO f room)
def lY (f:aE) (room:List Int):List Int:=if cU f then fM f room else []
theorem oK (f:aE) (room:List Int):(fM f room).length=f.bGG.length:=by simp[fM]
theorem aIT (f:aE) (room:List Int) {d:Nat} (h:d<(fM f room).length):(fM f room)[d]=uO f room d:=by simp[fM]
theorem VF.baS {f:aE} (h:VF f) {d:Nat} (hd:d<f.bGG.length):∃ hm:mdl f d<f.bGH.length,(f.bGH[mdl f d]).bHC=ext f d:=by
 have hm:=(h.drive d hd).2.1
 exact⟨hm,by rw[ext,getD_at hm]⟩
def trF (f:aE) (room:List Int) (o k:Nat):PF:=(((((PF.nil.set 1 (ints room)).set 2 (.bGQ f.cells)).set 5 (.osl o 1 0 f.bGG.length)).set 15 (.int .i64 (f.bGG.length:Nat))).set 16 (.int .i64 k))
theorem aVP (a b:Int):(if b<a then b else a)=min a b:=by
 rw[Int.min_def]
 by_cases h:b<a
 ·rw[if_pos h,if_neg Om]
 ·rw[if_neg h,if_pos Om]
theorem bnL {C:Ctx} (L:QM C) (f:aE) (hf:f.Ok) (room:List Int) :
  IM.wp C (aR ayE.res (mN 1 (cV (lY f room)))) (PF.args [.agg f.cells,ints room]) .nil:=by
 simp only[go_sem,δ,γ,IM,aKZ,aLA,ayE]
 refine aA (L.valid f hf) rfl ?_
 unfold lY
 cases hv:cU f with
 | false =>
  simp only[go_sem,γ,reduceCtorEq,bIY,aLB]
  exact DZ (.inr rfl) rfl
 | true =>
  have hV:=VF.of hv
  have hd24:=hV.small.bGG
  have hb1:((f.bGG.length:Nat):Int)*((8:Nat):Int)≤140737488355328:=by omega
  have hb2:((f.bGG.length:Nat):Int)≤9223372036854775807:=by omega
  simp only[go_sem,δ,γ,θ,bIO,aLC,bIM,hb1,hb2]
  refine aO fun o ho=>?_
  simp only[go_sem,γ,aLD]
  have hAl:=oK f room
  have hAt:=fun d h=>aIT f room (d:=d) h
  generalize hA:fM f room=A at *
  refine wp_loop (α:=Nat) (fun k=>trF f room o k) (fun k=>PH.nil.set o (.rows 1 (cV (mG A k)))) (fun k=>k≤f.bGG.length) (fun k=>f.bGG.length-k) 0 (bIT _) ?_ ?_ ?_
  ·unfold trF
   exact Lq
  ·refine PH.aF PH.nil_le ?_
   simp only[go_sem]
   rw[aPH,hAl,pM]
  intro k hk
  simp only[go_sem,γ,asP,aLE,trF]
  by_cases hlt:k<f.bGG.length
  ·have bGO:(k:Int)<(f.bGG.length:Nat):=by omega
   obtain⟨hm,he⟩:=hV.baS hlt
   have hfl:=awW A (k:=k) Om
   have hkA:k<A.length:=by omega
   have hx:=sW (l:=mG A k) (i:=k) Om
   have bGP:=a3L A hkA
   rw[hAt k hkA] at bGP
   simp only[go_sem,γ,bGO,aLF]
   refine bK .nil dC PH.nil_le ?_
   simp only[go_sem,δ,γ,θ,aLG,kC hlt,hV.DT hlt,aoW hm,he,bGO,bJJ,hx]
   refine⟨PH.nil_le,?_⟩
   simp only[go_sem,γ,aLH,bIM]
   by_cases c:room.length=f.bGG.length
   ·have c':(((room.length:Nat):Int)==((f.bGG.length:Nat):Int))=true:=bO Om
    have hrk:k<room.length:=by omega
    have hrr:(room.map fun n=>[PV.int .i64 n])[k]?=some [.int .i64 room[k]]:=by simp[hrk]
    simp only[go_sem,c']
    refine bK .nil dC PH.nil_le ?_
    have hx2:(cV ((mG A k).set k (ext f k)))[k]?=some [.int .i64 (ext f k)]:=by
     rw[← oF,List.getElem?_set_self (by rw[fN]; omega)]
    simp only[go_sem,γ,reduceCtorEq,aLI,hrr,bGO,bJJ,hx2,max_eq,aVP,List.set_set,oF]
    refine⟨PH.nil_le,?_⟩
    simp only[go_sem,γ,OT,ws k]
    refine aC (k+1) hlt Om ?_ ?_
    ·exact Lq
    ·refine PH.aF PH.nil_le ?_
     rw[← bGP,uO,if_pos c,bJE,bIZ hrk,bKK]
     simp only[go_sem]
   ·have c':(((room.length:Nat):Int)==((f.bGG.length:Nat):Int))=false:=bF Om
    simp only[go_sem,γ,c',OT,ws k,oF]
    refine aC (k+1) hlt Om ?_ ?_
    ·exact Lq
    ·refine PH.aF PH.nil_le ?_
     rw[← bGP,uO,if_neg c]
     simp only[go_sem]
  ·have bGO:¬ (k:Int)<(f.bGG.length:Nat):=by omega
   have:k=f.bGG.length:=by omega
   subst this
   simp only[go_sem,γ,bGO,asQ]
   have hAA:mG A f.bGG.length=A:=by rw[← hAl,a3K]
   rw[hAA]
   exact HN (.inr rfl) (v:=.osl o 1 0 f.bGG.length) (.inr ⟨o,cV A,by rw[fN,hAl],by simp only[go_sem],bIU _,bJD (bIU _)⟩) rfl
abbrev lay (l:List (List Int)):PV:=.sl 1 (l.map fun r=>[ints r])
def dO (n:Nat) (xs:List Int):List Int:=(bIN n).map fun (d:Nat)=>((xs.count (d:Int):Nat):Int)
theorem fH (n:Nat) (xs:List Int):(dO n xs).length=n:=by simp[dO]
theorem UZ (n:Nat):dO n []=bIP n 0:=by
 refine bLI (by simp[dO]) fun i h1 h2=>by simp[dO]
theorem QO {n:Nat} (xs:List Int) {d:Nat} (h:d<n):(dO n xs)[d]'(by rw[fH]; exact h)=((xs.count (d:Int):Nat):Int):=by simp[dO]
theorem ajS {n:Nat} (xs:List Int) {d:Nat} (h:d<n):(dO n xs).set d (((xs.count (d:Int):Nat):Int)+1)=dO n (xs++[(d:Int)]):=by
 refine bLI (by simp[dO]) fun i h1 h2=>?_
 simp only[dO,List.getElem_set,bKI,List.getElem_range,List.count_append]
 by_cases e:d=i
 ·subst e; simp
 ·have:((d:Nat):Int)≠(i:Int):=by omega
  rw[if_neg e]
  simp[List.count_cons,this]
theorem xM {n:Nat} (xs:List Int) {x:Int} (h:¬ (0≤x∧x<n)):dO n (xs++[x])=dO n xs:=by
 refine bLI (by simp[dO]) fun i h1 h2=>?_
 simp only[dO,bKI,List.getElem_range,List.count_append]
 have hi:i<n:=by simpa [dO] using h2
 have:x≠(i:Int):=by omega
 simp[List.count_cons,this]
def eV (f:aE) (l:List (List Int)):List Int:=dO f.bGG.length l.flatten
structure eQ (l:List (List Int)):Prop where
 rows:l.length≤16777216
 all:l.flatten.length≤16777216
theorem mL (l:List (List Int)) {i:Nat} (h:i<l.length):(l.take (i+1)).flatten=(l.take i).flatten++l[i]:=by
 rw[bKM h,List.flatten_append]
 simp only[List.flatten_cons,List.flatten_nil,bJZ]
theorem sO (l:List (List Int)) (i:Nat):(l.take i).flatten.length≤l.flatten.length:=by
 have:l.flatten=(l.take i).flatten++(l.drop i).flatten:=by rw[← List.flatten_append,bLB]
 rw[this,bIQ]; omega
def aEV (l:List (List Int)) (n o i:Nat):PF:=((((PF.nil.set 5 (.osl o 1 0 n)).set 14 (lay l)).set 15 (.int .i64 (l.length:Nat))).set 16 (.int .i64 i))
def akJ (l:List (List Int)) (n o i:Nat) (row:List Int) (k:Nat):PF:=(((((((PF.nil.set 5 (.osl o 1 0 n)).set 14 (lay l)).set 15 (.int .i64 (l.length:Nat))).set 16 (.int .i64 i)).set 20 (ints row)).set 21 (.int .i64 (row.length:Nat))).set 22 (.int .i64 k))
theorem bgF {C:Ctx} (f:aE) (hd:f.bGG.length≤24) (l:List (List Int)) (hl:eQ l) :
  CC.wp C (aR afR.res (bP (ints (eV f l)))) (PF.args [.agg f.cells,lay l]) .nil:=by
 have hb1:((f.bGG.length:Nat):Int)*((8:Nat):Int)≤140737488355328:=by omega
 have hb2:((f.bGG.length:Nat):Int)≤9223372036854775807:=by omega
 obtain⟨hl1,hl2⟩:=hl
 simp only[go_sem,δ,γ,θ,CC,asH,asI,afR,bIM,hb1,hb2]
 refine aO fun o ho=>?_
 simp only[go_sem,γ,asJ]
 generalize hn:f.bGG.length=n at *
 refine wp_loop (α:=Nat) (fun i=>aEV l n o i) (fun i=>PH.nil.set o (.rows 1 (cV (dO n (l.take i).flatten)))) (fun i=>i≤l.length) (fun i=>l.length-i) 0 (bIT _) ?_ ?_ ?_
 ·unfold aEV
  (repeat' (first|exact PF.nil_le|refine PF.aF ?_ ?_))<;>first|(simp only[go_sem,γ,bIM]<;>rfl)|rfl
 ·refine PH.aF PH.nil_le ?_
  simp only[go_sem,List.take_zero,List.flatten_nil]
  rw[UZ,pM]
 intro i hi
 simp only[go_sem,γ,afT,asK,aEV]
 by_cases hlt:i<l.length
 ·have bGO:(i:Int)<(l.length:Nat):=by omega
  have hr:(l.map fun r=>[ints r])[i]?=some [ints l[i]]:=by simp[hlt]
  have hft:=mL l hlt
  have hfl:=sO l (i+1)
  rw[hft,bIQ] at hfl
  generalize bGV:l[i]=row at *
  simp only[go_sem,γ,bGO,asL,hr,asM,bIM]
  refine wp_loop (α:=Nat) (fun k=>akJ l n o i row k) (fun k=>PH.nil.set o (.rows 1 (cV (dO n ((l.take i).flatten++row.take k))))) (fun k=>k≤row.length) (fun k=>row.length-k) 0 (bIT _) ?_ ?_ ?_
  ·unfold akJ
   (repeat' (first|exact PF.nil_le|refine PF.aF ?_ ?_))<;>first|(simp only[go_sem,γ,bIM]<;>rfl)|rfl
  ·rw[List.take_zero,bJZ]
   exact PH.le_refl
  intro k hk
  simp only[go_sem,γ,afS,asN,akJ]
  by_cases hkt:k<row.length
  ·have hkt':(k:Int)<(row.length:Nat):=by omega
   have hrk:(row.map fun n=>[PV.int .i64 n])[k]?=some [.int .i64 row[k]]:=by simp[hkt]
   have htk:(l.take i).flatten++row.take (k+1)=((l.take i).flatten++row.take k)++[row[k]]:=by
    rw[bKM hkt,bJO]
   have fin:∀ (F:PF),(akJ l n o i row (k+1)).le F→∀ H:PH,H o=some (.rows 1 (cV (dO n ((l.take i).flatten++row.take (k+1))))) →
     dQ (fun k=>akJ l n o i row k) (fun k=>PH.nil.set o (.rows 1 (cV (dO n ((l.take i).flatten++row.take k))))) (fun k=>k≤row.length) (fun k=>row.length-k) (row.length-k)
      (dJ 2 (dJ 1 (hC C (aB.wp C (.region IK)) (dQ (fun i=>aEV l n o i) (fun i=>PH.nil.set o (.rows 1 (cV (dO n (l.take i).flatten)))) (fun i=>i≤l.length) (fun i=>l.length-i) (l.length-i) (dJ 0 (hC C (aB.wp C (.seq (.region IL) .ret)) (aR [.tmp 4] (bP (ints (eV f l)))))))))) .normal F H:=by
    intro F hF H hH
    exact aC (k+1) hkt Om hF (PH.aF PH.nil_le hH)
   unfold akJ aEV at fin
   generalize hx:row[k]=x at *
   by_cases c1:x≥0
   ·by_cases c2:x<(n:Nat)
    ·obtain⟨d,rfl⟩:∃ d:Nat,x=d:=⟨x.toNat,by omega⟩
     have hdn:d<n:=by omega
     have hat:=sW (l:=dO n ((l.take i).flatten++row.take k)) (i:=d) (by rw[fH]; exact hdn)
     rw[QO _ hdn] at hat
     have hcl:((l.take i).flatten++row.take k).count (d:Int)≤16777216:=by
      refine bKG (List.count_le_length ..) ?_
      rw[bIQ,bJF]; omega
     have hin:=ajS ((l.take i).flatten++row.take k) hdn
     rw[← htk] at hin
     have hw:IntKind.i64.wrap (((((l.take i).flatten++row.take k).count (d:Int):Nat):Int)+1)=((((l.take i).flatten++row.take k).count (d:Int):Nat):Int)+1:=wrap_i64 Om Om
     simp only[go_sem,γ,hkt',zT,hrk,zU,c1,c2,asO,bJJ,hat,hw,wG,oF,hin,ws k]
     exact fin _ Lq _ Sq
    ·have hout:=xM (n:=n) ((l.take i).flatten++row.take k) (x:=x) Om
     simp only[go_sem,γ,hkt',zT,hrk,zU,c1,c2,wG,ws k]
     exact fin _ Lq _ (by rw[htk,hout]; simp only[go_sem])
   ·have hout:=xM (n:=n) ((l.take i).flatten++row.take k) (x:=x) Om
    simp only[go_sem,γ,reduceCtorEq,hkt',zT,hrk,zU,c1,wG,ws k]
    exact fin _ Lq _ (by rw[htk,hout]; simp only[go_sem])
  ·have hkt':¬ (k:Int)<(row.length:Nat):=by omega
   have:k=row.length:=by omega
   subst this
   simp only[go_sem,γ,reduceCtorEq,hkt',IK,ws i,bJN]
   refine aC (i+1) hlt Om ?_ ?_
   ·exact Lq
   ·refine PH.aF PH.nil_le ?_
    rw[hft]
    simp only[go_sem]
 ·have bGO:¬ (i:Int)<(l.length:Nat):=by omega
  have:i=l.length:=by omega
  subst this
  simp only[go_sem,γ,bGO,IL,bJN]
  refine XW (.inr rfl) (o:=o) (s:=1) (k:=n) (rs:=cV (dO n l.flatten)) rfl Sq (by rw[fN,fH]; omega) ⟨?_,rfl⟩
  rw[abK,bJD (by rw[fN,fH]; omega),eV,hn]
  exact .refl _
structure ZX (C:Ctx):Prop extends QM C where
 room:∀ (f:aE) (room:List Int),f.Ok→aH C 152 [.agg f.cells,ints room] .nil (aD (ints (lY f room)))
 loads:∀ (f:aE) (l:List (List Int)),f.bGG.length≤24→eQ l→aH C 157 [.agg f.cells,lay l] .nil (aD (ints (eV f l)))
def lH (f:aE) (l:List (List Int)):List Int:=if cU f then eV f l else []
theorem bfT {C:Ctx} (L:ZX C) (f:aE) (hf:f.Ok) (l:List (List Int)) (hl:eQ l) :
  BY.wp C (aR aeU.res (bP (ints (lH f l)))) (PF.args [.agg f.cells,lay l]) .nil:=by
 simp only[go_sem,δ,γ,BY,arO,arP,aeU]
 refine aA (L.valid f hf) rfl ?_
 unfold lH
 cases hv:cU f with
 | false =>
  simp only[go_sem,γ,reduceCtorEq,bIY,arQ]
  exact eR rfl
 | true =>
  have hV:=VF.of hv
  simp only[go_sem,δ,γ,bIO,arR]
  refine aA (L.loads f l hV.small.bGG hl) rfl ?_
  simp only[go_sem,γ]
  exact aV (.inr rfl) .nil rfl PH.nil_le ⟨.refl _,rfl⟩
structure eT where
 kind:Int
 vol:Int
 wher:Int
abbrev eT.cells (x:eT):List PV:=[.int .i64 x.kind,.int .i64 x.vol,.int .i64 x.wher]
abbrev lN (l:List eT):PV:=.sl 3 (l.map eT.cells)
def eA (p:Int→Bool):List Int→Nat→Option Nat
 | [],_=>none
 | x::t,i=>if p x then some i else eA p t (i+1)
def gZ (f:aE) (d:Int):Bool:=decide (d < -1)||decide (d≥(f.bGG.length:Nat))
def jM (f:aE) (l:List (List Int)) (v:Nat):Option eT :=
 if ((l.getD v []).length:Int)=kS f v then (eA (gZ f) (l.getD v []) 0).map fun (i:Nat)=>⟨1,v,i⟩ else some ⟨1,v,((l.getD v []).length:Nat)⟩
def shV:Option eT→PV
 | some x=>.tup [.agg x.cells,.bool true]
 | none=>.tup [.agg [.int .i64 0,.int .i64 0,.int .i64 0],.bool false]
def bnN (f:aE) (o:Nat) (v:Nat) (row:List Int) (k:Nat):PF:=((((((PF.nil.set 2 (.int .i64 v)).set 3 (.bGQ f.cells)).set 6 (.ptr o 3 0 0)).set 29 (ints row)).set 30 (.int .i64 (row.length:Nat))).set 31 (.int .i64 k))
theorem bgM {C:Ctx} (L:ZX C) (f:aE) (hV:VF f) (l:List (List Int)) (hl:eQ l) (v:Nat) (hv:v<l.length) (hvf:v<f.bGJ.length) :
  CD.wp C (aR EF.res (bP (shV (jM f l v)))) (PF.args [.agg f.cells,lay l,.int .i64 v]) .nil:=by
 have hr:(l.map fun r=>[ints r])[v]?=some [ints l[v]]:=by simp[hv]
 have hg:l.getD v []=l[v]:=by simp[bJE,hv]
 have hrl:(l[v]).length≤16777216:=by
  have h1:=sO l (v+1)
  have:=hl.all
  rw[mL l hv,bIQ] at h1
  omega
 unfold jM
 rw[hg]
 simp only[go_sem,δ,CD,asS]
 refine aO fun o ho=>?_
 simp only[go_sem]
 refine bK .nil (toS f) PH.nil_le ?_
 generalize l[v]=row at *
 have fin:∀ (x:eT) (F:PF) (H:PH),F 6=some (.ptr o 3 0 0)→F 7=some (.bool true)→H o=some (.rows 3 [x.cells])→aR EF.res (bP (shV (some x))) .ret F H:=by
  intro x F H h6 h7 hH
  refine aV (.inr rfl) .nil (vs:=[.agg x.cells,.bool true]) ?_ PH.nil_le ⟨.refl _,rfl⟩
  simp only[go_sem,δ,EF,h6,h7,hH]
 simp only[go_sem,δ,γ,asT,hr,bIM]
 refine bC (bnK f v) (L.frag f v hV hvf) rfl PH.nil_le ?_
 by_cases c:((row.length:Nat):Int)=kS f v
 ·rw[if_pos c]
  simp only[go_sem,γ,bV c,asV,hr,bIM]
  refine wp_loop (α:=Nat) (fun k=>bnN f o v row k) (fun k=>PH.nil.set o (.rows 3 [[.int .i64 0,.int .i64 0,.int .i64 0]])) (fun k=>k≤row.length∧eA (gZ f) row 0=eA (gZ f) (row.drop k) k) (fun k=>row.length-k) 0 ⟨bIT _,rfl⟩ ?_ PH.le_refl ?_
  ·unfold bnN
   (repeat' (first|exact PF.nil_le|refine PF.aF ?_ ?_))<;>first|(simp only[go_sem,γ,bIM]<;>rfl)|rfl
  rintro k ⟨hk,hb⟩
  simp only[go_sem,γ,asR,asW,bnN]
  by_cases hlt:k<row.length
  ·have bGO:(k:Int)<(row.length:Nat):=by omega
   have hrk:(row.map fun n=>[PV.int .i64 n])[k]?=some [.int .i64 row[k]]:=by simp[hlt]
   have hdr:eA (gZ f) (row.drop k) k=if gZ f row[k] then some k else eA (gZ f) (row.drop (k+1)) (k+1):=by
    rw[bKE hlt,eA]
   rw[hdr] at hb
   by_cases c1:row[k] < -1
   ·have hbd:gZ f row[k]=true:=by simp[gZ,c1]
    rw[hbd] at hb
    simp only[go_sem,ο,δ,γ,θ,bGO,zV,hrk,zW,c1,OU]
    rw[hb]
    exact fin ⟨1,v,k⟩ _ _ rfl rfl Sq
   ·by_cases c2:row[k]≥(f.bGG.length:Nat)
    ·have hbd:gZ f row[k]=true:=by simp[gZ,c2]
     rw[hbd] at hb
     simp only[go_sem,ο,δ,γ,θ,reduceCtorEq,bGO,zV,hrk,zW,c1,bIM,c2,OU]
     rw[hb]
     exact fin ⟨1,v,k⟩ _ _ rfl rfl Sq
    ·have hbd:gZ f row[k]=false:=by simp[gZ]; omega
     rw[hbd] at hb
     simp only[go_sem,ο,δ,γ,θ,reduceCtorEq,bGO,zV,hrk,zW,c1,bIM,c2,asX,ws k]
     refine aC (k+1) ⟨hlt,hb⟩ Om ?_ PH.le_refl
     exact Lq
  ·have bGO:¬ (k:Int)<(row.length:Nat):=by omega
   have:k=row.length:=by omega
   subst this
   rw[List.drop_length,eA] at hb
   simp only[go_sem,δ,γ,bGO,afW]
   rw[hb]
   refine aV (.inr rfl) .nil (vs:=[.agg [.int .i64 0,.int .i64 0,.int .i64 0],.bool false]) ?_ PH.nil_le ⟨.refl _,rfl⟩
   simp only[go_sem,δ,γ,EF]
 ·rw[if_neg c]
  simp only[go_sem,δ,γ,θ,cQ c,asU,hr,bIM]
  exact fin ⟨1,v,(row.length:Nat)⟩ _ _ rfl rfl Sq
structure azH (C:Ctx):Prop extends ZX C where
 shape:∀ (f:aE) (l:List (List Int)) (v:Nat),VF f→eQ l→v<l.length→v<f.bGJ.length→aH C 160 [.agg f.cells,lay l,.int .i64 v] .nil (aD (shV (jM f l v)))
def qU (f:aE) (l:List (List Int)):Bool:=cU f&&decide (l.length=f.bGJ.length)&&(bIN l.length).all fun v=>(jM f l v).isNone
def tSF (f:aE) (l:List (List Int)) (k:Nat):PF:=((((PF.nil.set 1 (lay l)).set 2 (.bGQ f.cells)).set 20 (.int .i64 (l.length:Nat))).set 21 (.int .i64 k))
theorem a8K {C:Ctx} (L:azH C) (f:aE) (hf:f.Ok) (l:List (List Int)) (hl:eQ l) :
  yM.wp C (aR RQ.res (bP (.bool (qU f l)))) (PF.args [.agg f.cells,lay l]) .nil:=by
 simp only[go_sem,δ,γ,yM,aeV,aeW,RQ]
 refine aA (L.valid f hf) rfl ?_
 unfold qU
 have hlr:=hl.rows
 cases hv:cU f with
 | false =>
  simp only[go_sem,γ,bIY,IF]
  exact aY rfl (by simp only[bIV])
 | true =>
  have hV:=VF.of hv
  by_cases c:l.length=f.bGJ.length
  ·have c':(((l.length:Nat):Int) != ((f.bGJ.length:Nat):Int))=false:=bV Om
   rw[decide_eq_true c]
   simp only[go_sem,γ,reduceCtorEq,bIO,bIM,c',aeX]
   generalize hq:(fun v=>(jM f l v).isNone)=q
   refine wp_loop (α:=Nat) (fun k=>tSF f l k) (fun _=>.nil) (fun k=>k≤l.length∧nL q k) (fun k=>l.length-k) 0 ⟨bIT _,.zero⟩ ?_ PH.nil_le ?_
   ·unfold tSF
    (repeat' (first|exact PF.nil_le|refine PF.aF ?_ ?_))<;>first|(simp only[go_sem,γ,bIM]<;>rfl)|rfl
   rintro k ⟨hk,ha⟩
   simp only[go_sem,γ,TW,aeY,tSF]
   by_cases hlt:k<l.length
   ·have bGO:(k:Int)<(l.length:Nat):=by omega
    have hqk:q k=(jM f l k).isNone:=by rw[← hq]
    simp only[go_sem,δ,γ,bGO,aeZ,afA]
    refine aA (L.shape f l k hV hl hlt Om) rfl ?_
    cases hs:jM f l k with
    | some x =>
     rw[hs] at hqk
     simp only[go_sem,δ,γ,shV]
     refine aO fun o ho=>?_
     simp only[go_sem,δ,γ,IG,afB]
     exact aY (b:=false) rfl (by rw[show (bIN l.length).all q=false from dH hlt hqk])
    | none =>
     rw[hs] at hqk
     simp only[go_sem,δ,γ,shV]
     refine aO fun o ho=>?_
     simp only[go_sem,δ,γ,IG,afC,ws k]
     refine aC (k+1) ⟨hlt,ha.step hqk⟩ Om ?_ PH.nil_le
     exact Lq
   ·have bGO:¬ (k:Int)<(l.length:Nat):=by omega
    have:k=l.length:=by omega
    subst this
    simp only[go_sem,bGO,TX]
    exact aY (b:=true) rfl (by rw[show (bIN l.length).all q=true from ha])
  ·have c':(((l.length:Nat):Int) != ((f.bGJ.length:Nat):Int))=true:=cQ Om
   simp only[go_sem,γ,reduceCtorEq,bIO,bIM,c',IF]
   exact aY rfl (by rw[decide_eq_false c]; simp only[bIV])
section
variable {C:Ctx} {F:PF} {H:PH}
theorem wM {name:Nat} {vs cs:List PV} {r:PV} {H0:PH} {args:List aP} {d:Option Nat} {K:PF→PH→Prop} (h:aH C name (vs++cs) H0 (fun r' H'=>r'=r∧H'=H0)) (ha:aP.evs F args=some vs) (hle:H0.le H)
  (hk:K (F.put d r) H):gW C name args cs d K F H:=by
 refine .inl ⟨vs++cs,H0,_,by rw[ha]; rfl,hle,h,?_⟩
 rintro r' H' ⟨rfl,rfl⟩ -
 rw[PH.over_self _ hle]
 exact hk
theorem aX.ne {s s':Nat} {v:PV} {rows:List (List PV)} {o:Nat} {y:List (List PV)} (h:aX H s v rows) (ho:H o=some (.rows s' y)) (hs:s≠s'):∀ l,v≠.osl o s 0 l:=by
 intro l e
 rcases h with ⟨_,h2⟩ | ⟨q,rs,h1,h2,_⟩
 ·rw[h2] at e; cases e
 ·rw[h1] at e
  injection e with e1
  subst e1
  rw[ho] at h2
  injection h2 with h2
  injection h2 with h2
  exact hs h2.symm
theorem aX.set {s s':Nat} {v:PV} {rows:List (List PV)} {o:Nat} {y:List (List PV)} {x:cE} (h:aX H s v rows) (ho:H o=some (.rows s' y)) (hs:s≠s'):aX (H.set o x) s v rows:=by
 have hne:=h.ne ho hs
 rcases h with ⟨h1,h2⟩ | ⟨q,rs,h1,h2,h3,h4⟩
 ·exact .inl ⟨h1,h2⟩
 ·refine .inr ⟨q,rs,h1,?_,h3,h4⟩
  have:q≠o:=by rintro rfl; exact hne _ h1
  simp only[bA,if_neg this,h2]
def Dis (s:Nat) (v u:PV):Prop:=∀ q l q' l',v=.osl q s 0 l→u=.osl q' s 0 l'→q≠q'
theorem Dis.nil {s:Nat}:Dis s .bGI .bGI:=fun _ _ _ _ h=>by cases h
theorem Dis.symm {s:Nat} {v u:PV} (h:Dis s v u):Dis s u v:=fun q l q' l' h1 h2=>(h q' l' q l h2 h1).symm
theorem lD {s b:Nat} {v u y:PV} {rows rows' src:List (List PV)} {K:PV→PH→Prop} (h:aX H s v rows) (h':aX H s u rows') (hd:Dis s v u) (hy:dT H s y=some src) (hr:roomFor rows.length src.length b)
  (hk:∀ v' H',aX H' s v' (rows++src)→aX H' s u rows'→Dis s v' u→(∀ o s' z,s≠s'→H o=some (.rows s' z)→H' o=some (.rows s' z))→K v' H'):mW H s b v y K:=by
 have other:∀ {H':PH} {t:PV} {r:List (List PV)},aX H s t r→(∀ o x,H o=some x→(∀ l,t=.osl o s 0 l→False)∨H' o=some x)→aX H' s t r:=by
  intro H' t r ht hp
  rcases ht with ⟨a,b⟩ | ⟨q,rs,a,b,c,d⟩
  ·exact .inl ⟨a,b⟩
  ·refine .inr ⟨q,rs,a,?_,c,d⟩
   rcases hp q _ b with e | e
   ·exact (e _ a).elim
   ·exact e
 have gone:∀ {o:Nat} {x:cE},H o=none→H o=some x→False:=fun a b=>by rw[a] at b; cases b
 have hud:∀ {o:Nat} {l:Nat},u=.osl o s 0 l→∃ x,H o=some x:=by
  intro o l e
  rcases h' with ⟨a,b⟩ | ⟨q,rs,a,b,c,d⟩
  ·rw[b] at e; cases e
  ·rw[a] at e; injection e with e; subst e; exact⟨_,b⟩
 rcases h with ⟨rfl,rfl⟩ | ⟨q,rs,rfl,h1,h2,h3⟩
 ·refine⟨src,hy,hr,fun e=>?_,fun e o ho=>?_⟩
  ·subst e
   exact hk _ _ (.inl ⟨rfl,rfl⟩) h' hd fun o s' z _ hz=>hz
  ·refine hk _ _ (.inr ⟨o,src,rfl,by simp only[bA,if_true],bIU _,by simp⟩) (other h' fun o' x hx=>.inr ?_) ?_ fun o' s' z _ hz=>?_
   ·have:o'≠o:=by rintro rfl; exact gone ho hx
    simp only[bA,if_neg this,hx]
   ·intro q l q' l' e1 e2
    injection e1 with e1
    subst e1
    rintro rfl
    obtain⟨x,hx⟩:=hud e2
    exact gone ho hx
   ·have:o'≠o:=by rintro rfl; exact gone ho hz
    simp only[bA,if_neg this,hz]
 ·have hlen:(rows++src).length=rows.length+src.length:=bIQ
  refine⟨src,hy,rfl,rfl,hr,rs,h1,h2,?_,fun o ho=>?_⟩
  ·rw[h3]
   refine hk _ _ (.inr ⟨q,rows++src,by rw[hlen],by simp only[bA,if_true],bIU _,bJN⟩) (other h' fun o' x hx=>?_) ?_ fun o' s' z hs hz=>?_
   ·by_cases e:o'=q
    ·exact .inl fun l el=>hd q _ o' l rfl el e.symm
    ·exact .inr (by simp only[bA,if_neg e,hx])
   ·intro q1 l q' l' e1 e2
    injection e1 with e1
    subst e1
    exact hd _ _ _ _ rfl e2
   ·have:o'≠q:=by
     rintro rfl
     rw[h1] at hz
     injection hz with hz
     injection hz with hz
     exact hs hz
    simp only[bA,if_neg this,hz]
  ·rw[h3]
   refine hk _ _ (.inr ⟨o,rows++src,by rw[hlen],by simp only[bA,if_true],bIU _,bJN⟩) (other h' fun o' x hx=>?_) ?_ fun o' s' z hs hz=>?_
   ·by_cases e:o'=q
    ·exact .inl fun l el=>hd q _ o' l rfl el e.symm
    ·have e2:o'≠o:=by rintro rfl; exact gone ho hx
     exact .inr (by simp only[bA,if_neg e,if_neg e2,hx])
   ·intro q1 l q' l' e1 e2
    injection e1 with e1
    subst e1
    rintro rfl
    obtain⟨x,hx⟩:=hud e2
    exact gone ho hx
   ·have e1:o'≠q:=by
     rintro rfl
     rw[h1] at hz
     injection hz with hz
     injection hz with hz
     exact hs hz
    have e2:o'≠o:=by rintro rfl; exact gone ho hz
    simp only[bA,if_neg e1,if_neg e2,hz]
end
abbrev cL (l:List eT):List (List PV):=l.map eT.cells
def bL (kind v:Int) (n:Nat) (p:Nat→Bool):List eT:=((bIN n).filter p).map fun (i:Nat)=>⟨kind,v,i⟩
theorem fR (kind v:Int) (n:Nat) (p:Nat→Bool):bL kind v (n+1) p=if p n then bL kind v n p++[⟨kind,v,n⟩] else bL kind v n p:=by
 unfold bL
 rw[List.range_succ,List.filter_append,bKV]
 by_cases h:p n
 ·rw[if_pos h]; simp[h]
 ·rw[if_neg h]; simp[h]
theorem dB (kind v:Int) (n:Nat) (p:Nat→Bool):(bL kind v n p).length≤n:=by
 unfold bL
 rw[bIM]
 exact bKG (List.length_filter_le _ _) (by simp)
theorem eY (l:List eT):(cL l).length=l.length:=by simp[cL]
theorem jA (l:List eT) (x:eT):cL l++[x.cells]=cL (l++[x]):=by simp[cL]
def aIA (o5:Nat) (v:Nat):PH:=PH.nil.set o5 (.rows 1 [[.int .i64 v]])
theorem bgQ {C:Ctx} (o5 v:Nat) (k w:Int):CF.wp C (aR afY.res (fun r H'=>r=.agg [.int .i64 k,.int .i64 v,.int .i64 w]∧H'=aIA o5 v)) (PF.args [.int .i64 k,.int .i64 w,.ptr o5 1 0 0]) (aIA o5 v):=by
 simp only[go_sem,δ,CF,atK,aIA]
 refine aO fun o ho=>?_
 have hne:o5≠o:=by rintro rfl; simp only[bA,if_true] at ho; cases ho
 simp only[go_sem,δ,γ,θ,reduceCtorEq,atL,hne]
 refine aV (.inr rfl) (PH.nil.set o5 (.rows 1 [[.int .i64 v]])) (vs:=[.agg [.int .i64 k,.int .i64 v,.int .i64 w]]) ?_ (PH.aF PH.nil_le ?_) ⟨rfl,rfl⟩
 ·simp only[go_sem,δ,γ,afY]
 ·simp only[go_sem,hne]
def jJ (f:aE) (i:Nat) (d:Int):Bool:=decide (0≤d)&&decide (eG f d.toNat (lvl f i)=i)
def mQ (f:aE) (xs:List Int) (i:Nat):Int:=if i=0 then 0 else ((xs.countP (jJ f i):Nat):Int)
def dV (f:aE) (xs:List Int):List Int:=(bIN f.bGK.length).map (mQ f xs)
def qA (f:aE) (xs:List Int) (d:Nat) (k:Nat):List Int:=(bIN f.bGK.length).map fun i=>if 4-(k:Int)<lvl f i then mQ f (xs++[(d:Int)]) i else mQ f xs i
theorem uE (f:aE) (xs:List Int):(dV f xs).length=f.bGK.length:=by simp[dV]
theorem VF.oG {f:aE} (h:VF f) {i:Nat} (hi:i<f.bGK.length):0≤lvl f i∧lvl f i≤4∧(lvl f i=0↔i=0):=by
 rcases bKN i with e | e
 ·subst e; rw[h.root.2.1]; simp
 ·have:=h.dom i e hi
  omega
theorem baK {f:aE} (h:VF f) (xs:List Int) (d:Nat):qA f xs d 0=dV f xs:=by
 refine bLI (by simp[qA,dV]) fun i h1 h2=>?_
 simp only[qA,dV,bKI,List.getElem_range]
 have hi:i<f.bGK.length:=by simpa [dV] using h2
 have:=h.oG hi
 rw[if_neg Om]
theorem baJ {f:aE} (h:VF f) (xs:List Int) (d:Nat):qA f xs d 4=dV f (xs++[(d:Int)]):=by
 refine bLI (by simp[qA,dV]) fun i h1 h2=>?_
 simp only[qA,dV,bKI,List.getElem_range]
 have hi:i<f.bGK.length:=by simpa [dV] using h2
 have:=h.oG hi
 by_cases e:i=0
 ·subst e
  rw[if_neg Om]
  simp[mQ]
 ·rw[if_pos Om]
theorem amL (f:aE) (xs:List Int) (d:Nat) {i:Nat} (hi:i≠0):mQ f (xs++[(d:Int)]) i=mQ f xs i+if eG f d (lvl f i)=i then 1 else 0:=by
 unfold mQ
 rw[if_neg hi,if_neg hi,List.countP_append]
 by_cases h:eG f d (lvl f i)=i
 ·rw[if_pos h]; simp[jJ,h]
 ·rw[if_neg h]; simp[jJ,h]
theorem bqA {f:aE} (h:VF f) (xs:List Int) {d:Nat} (hd:d<f.bGG.length) {k:Nat} (hk:k<4) :
  (qA f xs d k)[upN f k (eU f d)]?=some (mQ f xs (upN f k (eU f d))) ∧
  (qA f xs d k).set (upN f k (eU f d)) (mQ f xs (upN f k (eU f d))+1)=qA f xs d (k+1):=by
 obtain⟨u1,u2⟩:=PS h hd (k:=k) Om
 constructor
 ·simp only[qA,bJU,List.getElem?_range u1,bJS]
  rw[if_neg Om]
 ·refine bLI (by simp[qA]) fun i h1 h2=>?_
  have hi:i<f.bGK.length:=by simpa [qA] using h2
  simp only[qA,List.getElem_set,bKI,List.getElem_range]
  have hr:=h.oG hi
  by_cases e:upN f k (eU f d)=i
  ·rw[if_pos e]
   subst e
   rw[if_pos Om]
   have hne:upN f k (eU f d)≠0:=by intro e; rw[e,h.root.2.1] at u2; omega
   rw[amL f xs d hne,eG,u2]
   have:4-(4-(k:Int)).toNat=k:=by omega
   rw[this,if_pos rfl]
  ·rw[if_neg e]
   by_cases c:4-(k:Int)<lvl f i
   ·rw[if_pos c,if_pos Om]
   ·rw[if_neg c]
    by_cases c2:4-((k+1:Nat):Int)<lvl f i
    ·rw[if_pos c2]
     have hl:lvl f i=4-(k:Int):=by omega
     have hne:i≠0:=by intro e; subst e; rw[h.root.2.1] at hl; omega
     rw[amL f xs d hne,eG,hl]
     have:4-(4-(k:Int)).toNat=k:=by omega
     rw[this,if_neg e]; simp
    ·rw[if_neg c2]
theorem bpZ (f:aE) (xs:List Int) (i:Nat):0≤mQ f xs i∧mQ f xs i≤xs.length:=by
 unfold mQ
 have:=List.countP_le_length (p:=jJ f i) (l:=xs)
 split<;>omega
structure DK (C:Ctx):Prop extends azH C where
 bad:∀ (o5 v:Nat) (k w:Int),aH C 159 [.int .i64 k,.int .i64 w,.ptr o5 1 0 0] (aIA o5 v) (fun r H'=>r=.agg [.int .i64 k,.int .i64 v,.int .i64 w]∧H'=aIA o5 v)
structure Obs where
 o5:Nat
 o7:Nat
 o8:Nat
 oD:Nat
 oB:Nat
structure Obs.Ne (o:Obs):Prop where
 a1:o.o5≠o.oD
 a2:o.o5≠o.oB
 a3:o.o7≠o.oD
 a4:o.o7≠o.oB
 a5:o.o8≠o.oD
 a6:o.o8≠o.oB
 a7:o.oD≠o.oB
structure jN (H:PH) (o:Obs) (v:Nat) (p:cF) (A:List Bool) (D B:List Int):Prop where
 h5:H o.o5=some (.rows 1 [[.int .i64 v]])
 h7:H o.o7=some (.rows 17 [p.cells])
 h8:H o.o8=some (.rows 1 (eH A))
 hD:H o.oD=some (.rows 1 (cV D))
 hB:H o.oB=some (.rows 1 (cV B))
theorem jN.keep {H H':PH} {o:Obs} {v:Nat} {p:cF} {A:List Bool} {D B:List Int} (h:jN H o v p A D B) (hk:∀ q s' z,3≠s'→H q=some (.rows s' z)→H' q=some (.rows s' z)):jN H' o v p A D B :=
 ⟨hk _ _ _ (by decide) h.h5,hk _ _ _ (by decide) h.h7,hk _ _ _ (by decide) h.h8,hk _ _ _ (by decide) h.hD,hk _ _ _ (by decide) h.hB⟩
theorem jN.bEB {H:PH} {o:Obs} {v:Nat} {p:cF} {A:List Bool} {D B:List Int} (h:jN H o v p A D B) (hn:o.Ne) (B':List Int):jN (H.set o.oB (.rows 1 (cV B'))) o v p A D B' :=
 ⟨by simp only[bA,if_neg hn.a2,h.h5],by simp only[bA,if_neg hn.a4,h.h7],by simp only[bA,if_neg hn.a6,h.h8],by simp only[bA,if_neg hn.a7,h.hD],by simp only[bA,if_true]⟩
theorem jN.bEC {H:PH} {o:Obs} {v:Nat} {p:cF} {A:List Bool} {D B:List Int} (h:jN H o v p A D B) (hn:o.Ne) (D':List Int):jN (H.set o.oD (.rows 1 (cV D'))) o v p A D' B :=
 ⟨by simp only[bA,if_neg hn.a1,h.h5],by simp only[bA,if_neg hn.a3,h.h7],by simp only[bA,if_neg hn.a5,h.h8],by simp only[bA,if_true],by simp only[bA,if_neg (Ne.symm hn.a7),h.hB]⟩
def kA (f:aE) (o:Obs) (v12 v13:PV) (row:List Int) (k:Nat):PF :=
 ((((((((((((PF.nil.set 3 (.bGQ f.cells)).set 5 (.ptr o.o5 1 0 0)).set 7 (.ptr o.o7 17 0 0)).set 8 (.osl o.o8 1 0 f.bGH.length)).set 11 (.fn 159 [.ptr o.o5 1 0 0])).set 12 (v12)).set 13 (v13)).set 14 (.osl o.oD 1 0 f.bGG.length)).set 15 (.osl o.oB 1 0 f.bGK.length)).set 62 (ints row)).set 63 (.int .i64 (row.length:Nat))).set 64 (.int .i64 k))
def a7W (f:aE) (o:Obs) (v12 v13:PV) (row:List Int) (k:Nat) (at_:Nat):PF :=
 (((((((((((((PF.nil.set 3 (.bGQ f.cells)).set 5 (.ptr o.o5 1 0 0)).set 7 (.ptr o.o7 17 0 0)).set 8 (.osl o.o8 1 0 f.bGH.length)).set 11 (.fn 159 [.ptr o.o5 1 0 0])).set 12 (v12)).set 13 (v13)).set 14 (.osl o.oD 1 0 f.bGG.length)).set 15 (.osl o.oB 1 0 f.bGK.length)).set 62 (ints row)).set 63 (.int .i64 (row.length:Nat))).set 64 (.int .i64 k)).set 18 (.int .i64 at_))
theorem bwL {C:Ctx} (f:aE) (hV:VF f) (o:Obs) (hn:o.Ne) (v:Nat) (p:cF) (A:List Bool) (D:List Int) (v12 v13:PV) (R12 R13:List (List PV)) (row:List Int) (k:Nat) (xs:List Int) (hxs:xs.length≤16777216) (d:Nat) (hd:d<f.bGG.length) (K:bX) (F:PF) (H:PH)
  (hF:(a7W f o v12 v13 row k (eU f d)).le F) (hH:jN H o v p A D (dV f xs)) (h12:aX H 3 v12 R12) (h13:aX H 3 v13 R13)
  (hK:∀ F' H',(kA f o v12 v13 row k).le F'→jN H' o v p A D (dV f (xs++[(d:Int)]))→aX H' 3 v12 R12→aX H' 3 v13 R13→K .normal F' H') :
  aB.wp C (.block 4 (.loop zX)) K F H:=by
 simp only[go_sem]
 refine wp_loop (α:=Nat × PH) (fun t=>a7W f o v12 v13 row k (upN f t.1 (eU f d))) (fun t=>t.2) (fun t=>t.1≤4∧jN t.2 o v p A D (qA f xs d t.1)∧aX t.2 3 v12 R12∧aX t.2 3 v13 R13) (fun t=>4-t.1) (0,H) ⟨bIT _,by rw[baK hV]; exact hH,h12,h13⟩ (by rw[upN]; exact hF) PH.le_refl ?_
 rintro⟨j,H0⟩ ⟨hj,hR,g12,g13⟩
 simp only at hj hR g12 g13 ⊢
 obtain⟨u1,u2⟩:=PS hV hd (k:=j) hj
 simp only[go_sem,γ,zX,atS,a7W]
 by_cases hlt:j<4
 ·have hne:0<upN f j (eU f d):=by
   rcases bKN (upN f j (eU f d)) with e | e
   ·rw[e,hV.root.2.1] at u2; omega
   ·exact e
  have hc:((upN f j (eU f d):Nat):Int)>0:=by omega
  obtain⟨b1,b2⟩:=bqA hV xs hd hlt
  have hat:(cV (qA f xs d j))[upN f j (eU f d)]?=some [.int .i64 (mQ f xs (upN f j (eU f d)))]:=by
   unfold cV; rw[bJU,b1]; rfl
  have hdl:=bpZ f xs (upN f j (eU f d))
  have hw:IntKind.i64.wrap (mQ f xs (upN f j (eU f d))+1)=mQ f xs (upN f j (eU f d))+1:=wrap_i64 Om Om
  have hlN:((upN f j (eU f d):Nat):Int)<(f.bGK.length:Nat):=by omega
  simp only[go_sem,δ,γ,θ,hc,atT,hlN,bJJ,hR.hB,hat,hw,oF,b2,atU,eI u1,yC u1,hV.alL hne u1]
  refine aC (j+1,_) ⟨hlt,hR.bEB hn _,g12.set hR.hB (by decide),g13.set hR.hB (by decide)⟩ (by simp only; omega) ?_ PH.le_refl
  (repeat' (first|exact PF.nil_le|refine PF.aF ?_ ?_))<;>first|(simp only[go_sem,γ,upN]<;>rfl)|rfl
 ·have:j=4:=by omega
  subst this
  have h0:upN f 4 (eU f d)=0:=by
   have:=hV.oG u1
   omega
  have hc:¬ ((upN f 4 (eU f d):Nat):Int)>0:=by omega
  simp only[go_sem,ε,hc]
  rw[baJ hV] at hR
  refine hK _ _ ?_ hR g12 g13
  unfold kA
  exact Lq
structure tK (f:aE) (row:List Int):Prop where
 len:row.length≤16777216
 at_:∀ x∈row,-1≤x∧x<(f.bGG.length:Nat)
def home (row:List Int) (i:Nat):Bool:=decide (row.getD i 0<0)
def cP (f:aE) (p:cF) (row:List Int) (i:Nat):Bool:=decide (0≤row.getD i 0)&&!p.bGH.contains ((mdl f (row.getD i 0).toNat:Nat):Int)
theorem baI (f:aE) (xs:List Int) {x:Int} (h:x<0):dV f (xs++[x])=dV f xs:=by
 refine bLI (by simp[dV]) fun i h1 h2=>?_
 simp only[dV,bKI,List.getElem_range,mQ,List.countP_append]
 have:jJ f i x=false:=by simp[jJ]; omega
 simp[this]
theorem bmQ {C:Ctx} (L:DK C) (f:aE) (hV:VF f) (o:Obs) (hn:o.Ne) (v:Nat) (p:cF) (hp:∀ m∈p.bGH,0≤m∧m<f.bGH.length) (row:List Int) (hr:tK f row) (K:bX) (F:PF) (H:PH)
  (hF:(kA f o .bGI .bGI row 0).le F) (hH:jN H o v p (marks f.bGH.length p.bGH) (dO f.bGG.length []) (dV f []))
  (hK:∀ v12 v13 F' H',(kA f o v12 v13 row row.length).le F'→jN H' o v p (marks f.bGH.length p.bGH) (dO f.bGG.length row) (dV f row)→aX H' 3 v12 (cL (bL 2 v row.length (home row)))→aX H' 3 v13 (cL (bL 4 v row.length (cP f p row)))→Dis 3 v12 v13→K (.exit 2) F' H') :
  aB.wp C (.loop qX) K F H:=by
 obtain⟨hr1,hr2⟩:=hr
 refine wp_loop (α:=Nat × PV × PV × PH) (fun t=>kA f o t.2.1 t.2.2.1 row t.1) (fun t=>t.2.2.2)
  (fun t=>t.1≤row.length∧jN t.2.2.2 o v p (marks f.bGH.length p.bGH) (dO f.bGG.length (row.take t.1)) (dV f (row.take t.1))∧aX t.2.2.2 3 t.2.1 (cL (bL 2 v t.1 (home row)))∧aX t.2.2.2 3 t.2.2.1 (cL (bL 4 v t.1 (cP f p row)))∧Dis 3 t.2.1 t.2.2.1)
  (fun t=>row.length-t.1) (0,.bGI,.bGI,H) ⟨bIT _,by rw[List.take_zero]; exact hH,.nil,.nil,.nil⟩ hF PH.le_refl ?_
 rintro⟨k,v12,v13,H0⟩ ⟨hk,hR,h12,h13,hd⟩
 simp only at hk hR h12 h13 hd ⊢
 by_cases hlt:k<row.length
 ·have bGO:(k:Int)<(row.length:Nat):=by omega
  have hrk:(row.map fun n=>[PV.int .i64 n])[k]?=some [.int .i64 row[k]]:=by simp[hlt]
  have hg:row.getD k 0=row[k]:=by simp[bJE,hlt]
  have htk:row.take (k+1)=row.take k++[row[k]]:=bKM hlt
  have hx:=hr2 row[k] (bIS hlt)
  have e2:=fR 2 v k (home row)
  have e4:=fR 4 v k (cP f p row)
  have hh:home row k=decide (row[k]<0):=by rw[home,hg]
  have ha:cP f p row k=(decide (0≤row[k])&&!p.bGH.contains ((mdl f (row[k]).toNat:Nat):Int)):=by rw[cP,hg]
  have l2:=dB 2 v k (home row)
  have l4:=dB 4 v k (cP f p row)
  have fin:∀ v12' v13' (F:PF) (H1:PH),(kA f o v12' v13' row (k+1)).le F→jN H1 o v p (marks f.bGH.length p.bGH) (dO f.bGG.length (row.take (k+1))) (dV f (row.take (k+1)))→aX H1 3 v12' (cL (bL 2 v (k+1) (home row)))→aX H1 3 v13' (cL (bL 4 v (k+1) (cP f p row)))→Dis 3 v12' v13' →
    dQ (fun (t:Nat × PV × PV × PH)=>kA f o t.2.1 t.2.2.1 row t.1) (fun t=>t.2.2.2)
     (fun t=>t.1≤row.length∧jN t.2.2.2 o v p (marks f.bGH.length p.bGH) (dO f.bGG.length (row.take t.1)) (dV f (row.take t.1))∧aX t.2.2.2 3 t.2.1 (cL (bL 2 v t.1 (home row)))∧aX t.2.2.2 3 t.2.2.1 (cL (bL 4 v t.1 (cP f p row)))∧Dis 3 t.2.1 t.2.2.1)
     (fun t=>row.length-t.1) (row.length-k) K .normal F H1 :=
   fun v12' v13' F H1 hF hR h1 h2 h3=>aC (α:=Nat × PV × PV × PH) (k+1,v12',v13',H1) ⟨hlt,hR,h1,h2,h3⟩ (by simp only; omega) hF PH.le_refl
  generalize hxe:row[k]=x at *
  by_cases c:x<0
  ·have o1:=xM (n:=f.bGG.length) (row.take k) (x:=x) Om
   have o2:=baI f (row.take k) c
   rw[htk,o1,o2] at fin
   rw[if_pos (by rw[hh]; simp[c])] at e2
   rw[if_neg (by rw[ha]; simp; omega)] at e4
   rw[e2,e4] at fin
   simp only[go_sem,γ,qX,uQ,kA,bGO,zY,hrk,zZ,c,atQ]
   refine⟨159,[.ptr o.o5 1 0 0],rfl,?_⟩
   refine wM (vs:=[.int .i64 2,.int .i64 k]) (L.bad o.o5 v 2 k) rfl (PH.aF PH.nil_le hR.h5) ?_
   have bIA:(1:Nat)*3≤16777216:=by decide
   simp only[go_sem,υ,δ,γ,η,ζ,bIA]
   refine lD (src:=[(⟨2,v,k⟩:eT).cells]) h12 h13 hd rfl (by unfold roomFor; rw[eY]; simp only[bIX,maxLen]; omega) fun v' H' g1 g2 g3 g4=>?_
   rw[jA] at g1
   unfold kA at fin
   simp only[go_sem,γ,AA,ws k]
   exact fin v' v13 _ H' Lq (hR.keep g4) g1 g2 g3
  ·obtain⟨d,rfl⟩:∃ d:Nat,x=d:=⟨x.toNat,by omega⟩
   have hdl:d<f.bGG.length:=by omega
   have hdl':(d:Int)<(f.bGG.length:Nat):=by omega
   obtain⟨w1,w2,w3,w4,w5⟩:=hV.drive d hdl
   have c0:(0:Int)≤(d:Int):=by omega
   rw[if_neg (by rw[hh]; simp)] at e2
   rw[decide_eq_true c0,bJC,Int.toNat_natCast] at ha
   have hcnt:(row.take k).count (d:Int)≤16777216:=bKG (List.count_le_length ..) (by rw[bJF]; omega)
   have hw:IntKind.i64.wrap ((((row.take k).count (d:Int):Nat):Int)+1)=(((row.take k).count (d:Int):Nat):Int)+1:=wrap_i64 Om Om
   have hcat:=sW (l:=dO f.bGG.length (row.take k)) (i:=d) (by rw[fH]; exact hdl)
   rw[QO _ hdl] at hcat
   have hcin:=ajS (row.take k) hdl
   have hxl:(row.take k).length≤16777216:=by rw[bJF]; omega
   rw[e2,htk] at fin
   have tail:∀ v13' (F:PF) (H1:PH),(kA f o v12 v13' row k).le F→F 17=some (.int .i64 d)→jN H1 o v p (marks f.bGH.length p.bGH) (dO f.bGG.length (row.take k)) (dV f (row.take k))→aX H1 3 v12 (cL (bL 2 v k (home row)))→aX H1 3 v13' (cL (bL 4 v (k+1) (cP f p row)))→Dis 3 v12 v13' →
     aB.wp C (.seq (.region PC) (.seq (.region PD) (.block 4 (.loop zX)))) (dJ 3 (hC C (aB.wp C (.region AA)) (dQ (fun (t:Nat × PV × PV × PH)=>kA f o t.2.1 t.2.2.1 row t.1) (fun t=>t.2.2.2)
     (fun t=>t.1≤row.length∧jN t.2.2.2 o v p (marks f.bGH.length p.bGH) (dO f.bGG.length (row.take t.1)) (dV f (row.take t.1))∧aX t.2.2.2 3 t.2.1 (cL (bL 2 v t.1 (home row)))∧aX t.2.2.2 3 t.2.2.1 (cL (bL 4 v t.1 (cP f p row)))∧Dis 3 t.2.1 t.2.2.1)
     (fun t=>row.length-t.1) (row.length-k) K))) F H1:=by
    intro v13' F H1 hF f17 hR1 g12 g13 gd
    have f3:F 3=some (.bGQ f.cells):=hF 3 _ (by unfold kA; simp only[go_sem,γ])
    have f14:F 14=some (.osl o.oD 1 0 f.bGG.length):=hF 14 _ (by unfold kA; simp only[go_sem,γ])
    simp only[go_sem,δ,γ,θ,PC,f14,f17,hdl',bJJ,hR1.hD,hcat,hw,oF,hcin,PD,f3,kC hdl,hV.akL hdl]
    have up:=bwL (C:=C) f hV o hn v p (marks f.bGH.length p.bGH) (dO f.bGG.length (row.take k++[(d:Int)])) v12 v13' (cL (bL 2 v k (home row))) (cL (bL 4 v (k+1) (cP f p row))) row k (row.take k) hxl d hdl
    simp only[aB.wp,go_sem] at up
    refine up _ _ _ ?_ (hR1.bEC hn _) (g12.set hR1.hD (by decide)) (g13.set hR1.hD (by decide)) ?_
    ·have g:=fun (q:Nat) u h=>hF q u h
     unfold kA at g
     unfold a7W
     refine PF.aF (PF.aF (PF.aF (PF.aF (PF.aF (PF.aF (PF.aF (PF.aF (PF.aF (PF.aF (PF.aF (PF.aF (PF.aF PF.nil_le ?_) ?_) ?_) ?_) ?_) ?_) ?_) ?_) ?_) ?_) ?_) ?_) ?_
     ·simp only[go_sem,γ]; exact g 3 _ rfl
     ·simp only[go_sem,γ]; exact g 5 _ rfl
     ·simp only[go_sem,γ]; exact g 7 _ rfl
     ·simp only[go_sem,γ]; exact g 8 _ rfl
     ·simp only[go_sem,γ]; exact g 11 _ rfl
     ·simp only[go_sem,γ]; exact g 12 _ rfl
     ·simp only[go_sem,γ]; exact g 13 _ rfl
     ·simp only[go_sem,γ]; exact g 14 _ rfl
     ·simp only[go_sem,γ]; exact g 15 _ rfl
     ·simp only[go_sem,γ]; exact g 62 _ rfl
     ·simp only[go_sem,γ]; exact g 63 _ rfl
     ·simp only[go_sem,γ]; exact g 64 _ rfl
     ·simp only[go_sem,γ]
    ·intro F' H' hF' hR' g12' g13'
     have g:=fun (q:Nat) u h=>hF' q u h
     unfold kA at g
     have f64:F' 64=some (.int .i64 k):=g 64 _ rfl
     simp only[go_sem,AA,f64,ws k]
     refine fin v12 v13' _ H' ?_ hR' g12' g13' gd
     unfold kA
     refine PF.aF (PF.aF (PF.aF (PF.aF (PF.aF (PF.aF (PF.aF (PF.aF (PF.aF (PF.aF (PF.aF (PF.aF PF.nil_le ?_) ?_) ?_) ?_) ?_) ?_) ?_) ?_) ?_) ?_) ?_) ?_
     ·simp only[go_sem,γ]; exact g 3 _ rfl
     ·simp only[go_sem,γ]; exact g 5 _ rfl
     ·simp only[go_sem,γ]; exact g 7 _ rfl
     ·simp only[go_sem,γ]; exact g 8 _ rfl
     ·simp only[go_sem,γ]; exact g 11 _ rfl
     ·simp only[go_sem,γ]; exact g 12 _ rfl
     ·simp only[go_sem,γ]; exact g 13 _ rfl
     ·simp only[go_sem,γ]; exact g 14 _ rfl
     ·simp only[go_sem,γ]; exact g 15 _ rfl
     ·simp only[go_sem,γ]; exact g 62 _ rfl
     ·simp only[go_sem,γ]; exact g 63 _ rfl
     ·simp only[go_sem,γ]
   simp only[aB.wp,go_sem] at tail
   have hml:((mdl f d:Nat):Int)<(f.bGH.length:Nat):=by omega
   have hmk:(eH (marks f.bGH.length p.bGH))[mdl f d]?=some [.bool (p.bGH.contains ((mdl f d:Nat):Int))]:=by
    have:=WJ (n:=f.bGH.length) (l:=p.bGH) (m:=((mdl f d:Nat):Int)) Om hml
    rw[Int.toNat_natCast] at this
    unfold eH
    rw[bJU,this]; rfl
   cases hb:p.bGH.contains ((mdl f d:Nat):Int) with
   | true =>
    rw[hb] at hmk ha
    rw[if_neg (by rw[ha]; simp)] at e4
    rw[e4] at tail
    simp only[go_sem,δ,γ,θ,qX,uQ,kA,bGO,zY,hrk,zZ,c,PB,kC hdl,hV.DT hdl,hml,bJJ,hR.h8,hmk,bIO]
    exact tail v13 _ H0 (by unfold kA; exact Lq) rfl hR h12 h13 hd
   | false =>
    rw[hb] at hmk ha
    rw[if_pos (by rw[ha]; simp)] at e4
    rw[e4] at tail
    simp only[go_sem,δ,γ,θ,qX,uQ,kA,bGO,zY,hrk,zZ,c,PB,kC hdl,hV.DT hdl,hml,bJJ,hR.h8,hmk,bIY,atR]
    refine⟨159,[.ptr o.o5 1 0 0],rfl,?_⟩
    refine wM (vs:=[.int .i64 4,.int .i64 k]) (L.bad o.o5 v 4 k) rfl (PH.aF PH.nil_le hR.h5) ?_
    have bIA:(1:Nat)*3≤16777216:=by decide
    simp only[go_sem,υ,δ,γ,η,ζ,bIA]
    refine lD (src:=[(⟨4,v,k⟩:eT).cells]) h13 h12 hd.symm rfl (by unfold roomFor; rw[eY]; simp only[bIX,maxLen]; omega) fun v' H' g1 g2 g3 g4=>?_
    rw[jA] at g1
    exact tail v' _ H' (by unfold kA; exact Lq) rfl (hR.keep g4) g2 g1 g3.symm
 ·have bGO:¬ (k:Int)<(row.length:Nat):=by omega
  have:k=row.length:=by omega
  subst this
  rw[bJN] at hR
  simp only[go_sem,γ,qX,uQ,kA,bGO]
  exact hK v12 v13 _ _ (by unfold kA; exact Lq) hR h12 h13 hd
def jF (f:aE) (row:List Int) (d:Nat):Bool:=decide ((dO f.bGG.length row).getD d 0>1)
def dS (f:aE) (p:cF) (i:Nat):Int:=p.spread (lvl f i).toNat
def jV (f:aE) (p:cF) (row:List Int) (i:Nat):Bool:=decide (dS f p i>0)&&decide ((dV f row).getD i 0>dS f p i)
def sE (f:aE) (p:cF) (v:Nat) (row:List Int):List eT :=
 bL 2 v row.length (home row)++bL 3 v f.bGG.length (jF f row)++bL 4 v row.length (cP f p row)++bL 5 v f.bGK.length (jV f p row)
def HP (f:aE) (o:Obs) (v13 v19:PV) (k:Nat):PF :=
 ((((((((((PF.nil.set 3 (.bGQ f.cells)).set 5 (.ptr o.o5 1 0 0)).set 7 (.ptr o.o7 17 0 0)).set 11 (.fn 159 [.ptr o.o5 1 0 0])).set 13 (v13)).set 15 (.osl o.oB 1 0 f.bGK.length)).set 19 (v19)).set 121 (.osl o.oD 1 0 f.bGG.length)).set 122 (.int .i64 (f.bGG.length:Nat))).set 123 (.int .i64 k))
def axZ (f:aE) (o:Obs) (v19:PV) (k:Nat):PF :=
 ((((((((PF.nil.set 3 (.bGQ f.cells)).set 5 (.ptr o.o5 1 0 0)).set 7 (.ptr o.o7 17 0 0)).set 11 (.fn 159 [.ptr o.o5 1 0 0])).set 19 (v19)).set 140 (.osl o.oB 1 0 f.bGK.length)).set 141 (.int .i64 (f.bGK.length:Nat))).set 142 (.int .i64 k))
theorem beV {C:Ctx} (L:DK C) (f:aE) (hV:VF f) (o:Obs) (v:Nat) (p:cF) (A:List Bool) (B:List Int) (row:List Int) (l0:List eT) (hl0:l0.length≤16777216) (v13 v19:PV) (R13:List (List PV)) (K:bX) (F:PF) (H:PH)
  (hF:(HP f o v13 v19 0).le F) (hH:jN H o v p A (dO f.bGG.length row) B) (h19:aX H 3 v19 (cL l0)) (h13:aX H 3 v13 R13) (hd:Dis 3 v19 v13)
  (hK:∀ v' F' H',(HP f o v13 v' f.bGG.length).le F'→jN H' o v p A (dO f.bGG.length row) B→aX H' 3 v' (cL (l0++bL 3 v f.bGG.length (jF f row)))→aX H' 3 v13 R13→Dis 3 v' v13→K (.exit 6) F' H') :
  aB.wp C (.loop OZ) K F H:=by
 have hs:=hV.small.bGG
 refine wp_loop (α:=Nat × PV × PH) (fun t=>HP f o v13 t.2.1 t.1) (fun t=>t.2.2) (fun t=>t.1≤f.bGG.length∧jN t.2.2 o v p A (dO f.bGG.length row) B∧aX t.2.2 3 t.2.1 (cL (l0++bL 3 v t.1 (jF f row)))∧aX t.2.2 3 v13 R13∧Dis 3 t.2.1 v13) (fun t=>f.bGG.length-t.1) (0,v19,H)
  ⟨bIT _,hH,by rw[show bL 3 v 0 (jF f row)=[] from rfl,bJZ]; exact h19,h13,hd⟩ hF PH.le_refl ?_
 rintro⟨k,v',H0⟩ ⟨hk,hR,g19,g13,gd⟩
 simp only at hk hR g19 g13 gd ⊢
 simp only[go_sem,γ,OZ,atX,HP]
 by_cases hlt:k<f.bGG.length
 ·have bGO:(k:Int)<(f.bGG.length:Nat):=by omega
  have hat:=sW (l:=dO f.bGG.length row) (i:=k) (by rw[fH]; exact hlt)
  have hgk:(dO f.bGG.length row).getD k 0=(dO f.bGG.length row)[k]'(by rw[fH]; exact hlt):=by
   rw[bJE,bIZ (by rw[fH]; exact hlt)]; rfl
  have e3:=fR 3 v k (jF f row)
  have ht:jF f row k=decide ((dO f.bGG.length row)[k]'(by rw[fH]; exact hlt)>1):=by rw[jF,hgk]
  have hl3:=dB 3 v k (jF f row)
  simp only[go_sem,γ,bGO,atY,bJJ,hR.hD,hat,atZ]
  by_cases c:(dO f.bGG.length row)[k]'(by rw[fH]; exact hlt)>1
  ·rw[if_pos (by rw[ht]; simp[c])] at e3
   simp only[go_sem,γ,c,auA]
   refine⟨159,[.ptr o.o5 1 0 0],rfl,?_⟩
   refine wM (vs:=[.int .i64 3,.int .i64 k]) (L.bad o.o5 v 3 k) rfl (PH.aF PH.nil_le hR.h5) ?_
   have bIA:(1:Nat)*3≤16777216:=by decide
   simp only[go_sem,υ,δ,γ,η,ζ,bIA]
   refine lD (src:=[(⟨3,v,k⟩:eT).cells]) g19 g13 gd rfl (by unfold roomFor; rw[eY,bIQ]; simp only[bIX,maxLen]; omega) fun v' H' k1 k2 k3 k4=>?_
   rw[jA,bJO,← e3] at k1
   simp only[go_sem,γ,PE,ws k]
   refine aC (k+1,v',H') ⟨hlt,hR.keep k4,k1,k2,k3⟩ (by simp only; omega) ?_ PH.le_refl
   exact Lq
  ·rw[if_neg (by rw[ht]; simp; omega)] at e3
   rw[← e3] at g19
   simp only[go_sem,γ,c,PE,ws k]
   refine aC (k+1,v',H0) ⟨hlt,hR,g19,g13,gd⟩ (by simp only; omega) ?_ PH.le_refl
   exact Lq
 ·have bGO:¬ (k:Int)<(f.bGG.length:Nat):=by omega
  have:k=f.bGG.length:=by omega
  subst this
  simp only[go_sem,bGO]
  exact hK v' _ _ (by unfold HP; exact Lq) hR g19 g13 gd
theorem a7X {C:Ctx} (f:aE) (hV:VF f) (o:Obs) (v:Nat) (p:cF) (A:List Bool) (D B:List Int) (i:Nat) (hi:i<f.bGK.length) (K:PF→PH→Prop) (F:PF) (H:PH)
  (hH:jN H o v p A D B) (f3:F 3=some (.bGQ f.cells)) (f7:F 7=some (.ptr o.o7 17 0 0)) (f22:F 22=some (.int .i64 i))
  (hK:∀ F':PF,F' 24=some (.int .i64 (dS f p i))→(∀ j,j<147→j≠24→F' j=F j)→K F' H):wpOps C PG K F H:=by
 obtain⟨l0,l4,-⟩:=hV.oG hi
 have h5:((lvl f i)<((5:Nat):Int)):=by omega
 unfold dS at hK
 simp only[go_sem,δ,γ,θ,PG,f3,f7,f22,eI hi,xY hi,l0,h5,Nat.mul_one]
 have hc:lvl f i=0∨lvl f i=1∨lvl f i=2∨lvl f i=3∨lvl f i=4:=by omega
 have fin:∀ (F':PF),F' 24=some (.int .i64 (p.spread (lvl f i).toNat))→(∀ j,j<147→j≠24→F' j=F j)→K F' H:=hK
 have low:∀ (j:Nat),j<147→j≠147∧j≠148∧j≠149∧j≠150∧j≠151∧j≠152∧j≠153∧j≠154∧j≠155:=by omega
 rcases hc with h | h | h | h | h
 all_goals
  rw[h] at fin ⊢
  simp only[go_sem,ν,δ,γ,θ,hH.h7]
  refine fin _ rfl fun j hj hj2=>?_
  obtain⟨n1,n2,n3,n4,n5,n6,n7,n8,n9⟩:=low j hj
  simp only[go_sem,hj2,n1,n2,n3,n4,n5,n6,n7,n8,n9]
theorem beU {C:Ctx} (L:DK C) (f:aE) (hV:VF f) (o:Obs) (v:Nat) (p:cF) (A:List Bool) (D:List Int) (row:List Int) (l0:List eT) (hl0:l0.length≤100000000) (v19:PV) (K:bX) (F:PF) (H:PH)
  (hF:(axZ f o v19 0).le F) (hH:jN H o v p A D (dV f row)) (h19:aX H 3 v19 (cL l0))
  (hK:∀ v' F' H',F' 19=some v'→aX H' 3 v' (cL (l0++bL 5 v f.bGK.length (jV f p row)))→K (.exit 8) F' H') :
  aB.wp C (.loop PA) K F H:=by
 have hs:=hV.small.bGK
 refine wp_loop (α:=Nat × PV × PH) (fun t=>axZ f o t.2.1 t.1) (fun t=>t.2.2) (fun t=>t.1≤f.bGK.length∧jN t.2.2 o v p A D (dV f row)∧aX t.2.2 3 t.2.1 (cL (l0++bL 5 v t.1 (jV f p row)))) (fun t=>f.bGK.length-t.1) (0,v19,H)
  ⟨bIT _,hH,by rw[show bL 5 v 0 (jV f p row)=[] from rfl,bJZ]; exact h19⟩ hF PH.le_refl ?_
 rintro⟨k,v',H0⟩ ⟨hk,hR,g19⟩
 simp only at hk hR g19 ⊢
 simp only[go_sem,γ,PA,auD,axZ]
 by_cases hlt:k<f.bGK.length
 ·have bGO:(k:Int)<(f.bGK.length:Nat):=by omega
  have hat:=sW (l:=dV f row) (i:=k) (by rw[uE]; exact hlt)
  have hgk:(dV f row).getD k 0=(dV f row)[k]'(by rw[uE]; exact hlt):=by
   rw[bJE,bIZ (by rw[uE]; exact hlt)]; rfl
  have e5:=fR 5 v k (jV f p row)
  have hl5:=dB 5 v k (jV f p row)
  have ht:jV f p row k=(decide (dS f p k>0)&&decide ((dV f row)[k]'(by rw[uE]; exact hlt)>dS f p k)):=by rw[jV,hgk]
  generalize (dV f row)[k]'(by rw[uE]; exact hlt)=cnt at *
  simp only[go_sem,γ,bGO,auE,bJJ,hR.hB,hat]
  refine a7X f hV o v p A D (dV f row) k hlt _ _ _ hR rfl rfl rfl fun F' h24 hlow=>?_
  have g:=fun (q:Nat) (h1:q<147) (h2:q≠24)=>hlow q h1 h2
  have q3:=g 3 (by decide) (by decide)
  have q5:=g 5 (by decide) (by decide)
  have q7:=g 7 (by decide) (by decide)
  have q11:=g 11 (by decide) (by decide)
  have q19:=g 19 (by decide) (by decide)
  have bmL:=g 140 (by decide) (by decide)
  have bmM:=g 141 (by decide) (by decide)
  have alM:=g 142 (by decide) (by decide)
  have q22:=g 22 (by decide) (by decide)
  have q23:=g 23 (by decide) (by decide)
  simp only[go_sem,Nat.reduceEqDiff,reduceIte] at q3 q5 q7 q11 q19 bmL bmM alM q22 q23
  by_cases c1:dS f p k>0
  ·by_cases c2:cnt>dS f p k
   ·rw[if_pos (by rw[ht]; simp[c1,c2])] at e5
    simp only[go_sem,γ,AB,h24,q23,c1,c2,auF,q19,q11,q22]
    refine⟨159,[.ptr o.o5 1 0 0],rfl,?_⟩
    refine wM (vs:=[.int .i64 5,.int .i64 k]) (L.bad o.o5 v 5 k) rfl (PH.aF PH.nil_le hR.h5) ?_
    have bIA:(1:Nat)*3≤16777216:=by decide
    simp only[go_sem,υ,δ,γ,η,ζ,bIA]
    refine lD (rows':=[]) (u:=.bGI) (src:=[(⟨5,v,k⟩:eT).cells]) g19 .nil (fun _ _ _ _ _ h=>by cases h) rfl (by unfold roomFor; rw[eY,bIQ]; simp only[bIX,maxLen]; omega) fun v' H' k1 k2 k3 k4=>?_
    rw[jA,bJO,← e5] at k1
    simp only[go_sem,γ,AC,alM,ws k]
    refine aC (k+1,v',H') ⟨hlt,hR.keep k4,k1⟩ (by simp only; omega) ?_ PH.le_refl
    exact Lq
   ·rw[if_neg (by rw[ht]; simp; omega)] at e5
    rw[← e5] at g19
    simp only[go_sem,γ,AB,h24,q23,c1,c2,AC,alM,ws k]
    refine aC (k+1,v',H0) ⟨hlt,hR,g19⟩ (by simp only; omega) ?_ PH.le_refl
    exact Lq
  ·rw[if_neg (by rw[ht]; simp; omega)] at e5
   rw[← e5] at g19
   simp only[go_sem,γ,reduceCtorEq,AB,h24,q23,c1,AC,alM,ws k]
   refine aC (k+1,v',H0) ⟨hlt,hR,g19⟩ (by simp only; omega) ?_ PH.le_refl
   exact Lq
 ·have bGO:¬ (k:Int)<(f.bGK.length:Nat):=by omega
  have:k=f.bGK.length:=by omega
  subst this
  simp only[go_sem,bGO]
  exact hK v' _ _ rfl g19
theorem azT (n:Nat):bIP n [PV.bool false]=eH (marks n []):=by rw[aoG]; simp[eH]
theorem a9U (n:Nat):bIP n [PV.int .i64 0]=cV (dO n []):=by rw[UZ,pM]
theorem bhY (f:aE):bIP f.bGK.length [PV.int .i64 0]=cV (dV f []):=by
 have:dV f []=bIP f.bGK.length 0:=by
  refine bLI (by simp[dV]) fun i h1 h2=>?_
  simp[dV,mQ]
 rw[this,pM]
def a7V (f:aE) (l:List (List Int)) (o5 o7 o8:Nat) (ms:List Int) (k:Nat):PF :=
 ((((((((PF.nil.set 1 (lay l)).set 3 (.bGQ f.cells)).set 5 (.ptr o5 1 0 0)).set 7 (.ptr o7 17 0 0)).set 8 (.osl o8 1 0 f.bGH.length)).set 40 (ints ms)).set 41 (.int .i64 (ms.length:Nat))).set 42 (.int .i64 k))
theorem bnQ {C:Ctx} (L:DK C) (f:aE) (hV:VF f) (bHX:∀ p∈f.bGL,Fits p.bGH) (l:List (List Int)) (v:Nat) (hv:v<l.length) (hvf:v<f.bGJ.length) (hr:tK f l[v]) :
  IP.wp C (aR a8O.res (bP (lN (sE f (fK f v) v l[v])))) (PF.args [.agg f.cells,lay l,.int .i64 v]) .nil:=by
 obtain⟨hp,he⟩:=yD hV hvf
 have hpol:=hV.bGW _ (bIS hp)
 have hms:=bHX _ (bIS hp)
 rw[he] at hpol hms
 generalize hpe:fK f v=p at *
 have hpm:=hpol.2.2.2.2.2.2.2
 have bGV:(l.map fun r=>[ints r])[v]?=some [ints l[v]]:=by simp[hv]
 generalize l[v]=row at *
 have hs:=hV.small
 have hb1:((f.bGH.length:Nat):Int)*((1:Nat):Int)≤140737488355328:=by have:=hs.bGH; omega
 have hb2:((f.bGH.length:Nat):Int)≤9223372036854775807:=by have:=hs.bGH; omega
 have hb3:((f.bGG.length:Nat):Int)*((8:Nat):Int)≤140737488355328:=by have:=hs.bGG; omega
 have hb4:((f.bGG.length:Nat):Int)≤9223372036854775807:=by have:=hs.bGG; omega
 have hb5:((f.bGK.length:Nat):Int)*((8:Nat):Int)≤140737488355328:=by have:=hs.bGK; omega
 have hb6:((f.bGK.length:Nat):Int)≤9223372036854775807:=by have:=hs.bGK; omega
 simp only[go_sem,γ,IP,aLT]
 refine aO fun o5 h5=>?_
 simp only[go_sem]
 refine bK (PH.nil.set o5 (.rows 1 [[.int .i64 v]])) dC (PH.aF PH.nil_le Sq) ?_
 simp only[go_sem,δ,γ,θ,reduceCtorEq,aLU,wK hvf,hV.adN hvf,pO hp,he]
 refine aO fun o7 h7=>?_
 have n57:o5≠o7:=by rintro rfl; simp only[bA,if_true] at h7; cases h7
 simp only[go_sem,δ,γ,n57]
 refine⟨PH.aF PH.nil_le (by simp only[go_sem,n57]),?_⟩
 simp only[go_sem,δ,γ,θ,aLV,bIM,hb1,hb2]
 refine aO fun o8 h8=>?_
 have n58:o5≠o8:=by rintro rfl; simp only[bA,n57,if_true,if_false] at h8; cases h8
 have n78:o7≠o8:=by rintro rfl; simp only[bA,if_true] at h8; cases h8
 simp only[go_sem,δ,γ,θ,aLW,n78,bIM]
 rw[azT]
 refine wp_loop (α:=Nat) (fun k=>a7V f l o5 o7 o8 p.bGH k) (fun k=>((PH.nil.set o5 (.rows 1 [[.int .i64 v]])).set o7 (.rows 17 [p.cells])).set o8 (.rows 1 (eH (marks f.bGH.length (p.bGH.take k))))) (fun k=>k≤p.bGH.length) (fun k=>p.bGH.length-k) 0 (bIT _) ?_ ?_ ?_
 ·unfold a7V
  (repeat' (first|exact PF.nil_le|refine PF.aF ?_ ?_))<;>first|(simp only[go_sem,γ,bIM]<;>rfl)|rfl
 ·refine PH.aF (PH.aF (PH.aF PH.nil_le ?_) ?_) ?_
  ·simp only[go_sem,n57,n58]
  ·simp only[go_sem,n78]
  ·simp only[go_sem,List.take_zero]
 intro k hk
 simp only[go_sem,γ,aLS,aLX,a7V]
 by_cases hlt:k<p.bGH.length
 ·have bGO:(k:Int)<(p.bGH.length:Nat):=by omega
  have hmk:(p.bGH.map fun n=>[PV.int .i64 n])[k]?=some [.int .i64 p.bGH[k]]:=by simp[hlt]
  obtain⟨m1,m2⟩:=hpm _ (bIS hlt)
  have hbl:(p.bGH[k]).toNat<(eH (marks f.bGH.length (p.bGH.take k))).length:=by rw[amJ,bcZ]; omega
  have hbs:(eH (marks f.bGH.length (p.bGH.take k)))[(p.bGH[k]).toNat]?=some [.bool ((p.bGH.take k).contains p.bGH[k])]:=by
   unfold eH
   rw[bJU,WJ m1 m2]; rfl
  simp only[go_sem,γ,bGO,aLY,hmk,aLZ,m1,m2,bJJ,hbs,kB,aoI m1 m2,aMA,ws k]
  refine aC (k+1) hlt Om ?_ ?_
  ·exact Lq
  ·rw[bKM hlt]
   refine PH.aF (PH.aF (PH.aF PH.nil_le ?_) ?_) ?_
   ·simp only[go_sem,n57,n58]
   ·simp only[go_sem,n78]
   ·simp only[go_sem]
 ·have bGO:¬ (k:Int)<(p.bGH.length:Nat):=by omega
  have:k=p.bGH.length:=by omega
  subst this
  simp only[go_sem,γ,bGO,aMB,atM,bJN]
  refine bK .nil dC PH.nil_le ?_
  simp only[go_sem,δ,γ,θ,atN,bIM,hb3,hb4,hb5,hb6]
  refine aO fun oD hD=>?_
  have n5D:o5≠oD:=by rintro rfl; simp only[bA,n57,n58,if_true,if_false] at hD; cases hD
  have n7D:o7≠oD:=by rintro rfl; simp only[bA,n78,if_true,if_false] at hD; cases hD
  have n8D:o8≠oD:=by rintro rfl; simp only[bA,if_true] at hD; cases hD
  simp only[go_sem,δ,γ,θ,bIM,hb3,hb4,hb5,hb6]
  refine aO fun oB hB=>?_
  have n5B:o5≠oB:=by rintro rfl; simp only[bA,n57,n58,n5D,if_true,if_false] at hB; cases hB
  have n7B:o7≠oB:=by rintro rfl; simp only[bA,n78,n7D,if_true,if_false] at hB; cases hB
  have n8B:o8≠oB:=by rintro rfl; simp only[bA,n8D,if_true,if_false] at hB; cases hB
  have nDB:oD≠oB:=by rintro rfl; simp only[bA,if_true] at hB; cases hB
  rw[a9U,bhY]
  simp only[go_sem,γ,atO,n57,n58,n5D,n5B,bGV,bIM]
  have hne:(⟨o5,o7,o8,oD,oB⟩:Obs).Ne:=⟨n5D,n5B,n7D,n7B,n8D,n8B,nDB⟩
  refine bmQ L f hV ⟨o5,o7,o8,oD,oB⟩ hne v p hpm row hr _ _ _ ?_ ⟨?_,?_,?_,?_,?_⟩ ?_
  ·unfold kA
   exact Lq
  ·simp only[go_sem,n57,n58,n5D,n5B]
  ·simp only[go_sem,n78,n7D,n7B]
  ·simp only[go_sem,n8D,n8B]
  ·simp only[go_sem,nDB]
  ·simp only[go_sem]
  intro v12 v13 F1 H1 hF1 hR1 g12 g13 gd
  have g:=fun (q:Nat) u h=>hF1 q u h
  unfold kA at g
  have q3:=g 3 _ rfl
  have q5:=g 5 _ rfl
  have q7:=g 7 _ rfl
  have q11:=g 11 _ rfl
  have q12:=g 12 _ rfl
  have q13:=g 13 _ rfl
  have q14:=g 14 _ rfl
  have q15:=g 15 _ rfl
  simp only[go_sem,γ,atV,q12,atW,q14]
  have l2:=dB 2 v row.length (home row)
  have l3:=dB 3 v f.bGG.length (jF f row)
  have l4:=dB 4 v row.length (cP f p row)
  have hr1:=hr.len
  have hd24:=hs.bGG
  refine beV L f hV ⟨o5,o7,o8,oD,oB⟩ v p _ _ row (bL 2 v row.length (home row)) Om v13 v12 _ _ _ H1 ?_ hR1 g12 g13 gd ?_
  ·unfold HP
   exact Lq
  intro v19 F2 H2 hF2 hR2 g19 g13' gd2
  have g:=fun (q:Nat) u h=>hF2 q u h
  unfold HP at g
  have q3:=g 3 _ rfl
  have q5:=g 5 _ rfl
  have q7:=g 7 _ rfl
  have q11:=g 11 _ rfl
  have q13:=g 13 _ rfl
  have q15:=g 15 _ rfl
  have q19:=g 19 _ rfl
  simp only[go_sem,γ,auB,q19,q13]
  refine lD g19 g13' gd2 g13'.view (by unfold roomFor; rw[eY,eY,bIQ]; simp only[maxLen]; omega) fun v19' H3 k1 k2 k3 k4=>?_
  simp only[go_sem,γ,auC,q15]
  have hvr:cL (bL 2 v row.length (home row)++bL 3 v f.bGG.length (jF f row))++cL (bL 4 v row.length (cP f p row))=cL (bL 2 v row.length (home row)++bL 3 v f.bGG.length (jF f row)++bL 4 v row.length (cP f p row)):=by
   simp only[cL,bKV]
  rw[hvr] at k1
  refine beU L f hV ⟨o5,o7,o8,oD,oB⟩ v p _ _ row _ (by simp only[bIQ]; omega) v19' _ _ H3 ?_ (hR2.keep k4) k1 ?_
  ·unfold axZ
   exact Lq
  intro v20 F4 H4 hF4 hO4
  simp only[go_sem,auG,hF4]
  exact jZ (.inr rfl) hO4 rfl
structure azI (C:Ctx):Prop extends DK C where
 row:∀ (f:aE) (l:List (List Int)) (v:Nat),VF f→(∀ p∈f.bGL,Fits p.bGH)→(h:v<l.length)→v<f.bGJ.length→tK f l[v]→aH C 158 [.agg f.cells,lay l,.int .i64 v] .nil (aD (lN (sE f (fK f v) v l[v])))
def rW (f:aE) (l:List (List Int)) (v:Nat):List eT:=match jM f l v with
 | some x=>[x]
 | none=>sE f (fK f v) v (l.getD v [])
def nM (f:aE) (l:List (List Int)) (n:Nat):List eT:=(bIN n).flatMap (rW f l)
def over (f:aE) (l:List (List Int)) (room:List Int) (d:Nat):Bool:=decide ((eV f l).getD d 0>(fM f room).getD d 0)
def bpO (f:aE) (l:List (List Int)) (room:List Int):List eT:=nM f l l.length++bL 6 (-1) f.bGG.length (over f l room)
def jG (f:aE) (l:List (List Int)) (room:List Int):List eT :=
 if cU f then (if l.length=f.bGJ.length then bpO f l room else [⟨1,-1,(l.length:Nat)⟩]) else []
theorem uX {p:Int→Bool}:∀ {l:List Int} {i:Nat},eA p l i=none→∀ x∈l,p x=false
 | [],_,_,x,hx=>absurd hx (bJI)
 | y::t,i,h,x,hx=>by
  rw[eA] at h
  split at h
  ·cases h
  ·rename_i hy
   rcases bJB.1 hx with rfl | hx
   ·simpa using hy
   ·exact uX h x hx
theorem aqT {f:aE} {l:List (List Int)} (hl:eQ l) {v:Nat} (hv:v<l.length) (h:jM f l v=none):tK f l[v]:=by
 have hg:l.getD v []=l[v]:=by simp[bJE,hv]
 unfold jM at h
 rw[hg] at h
 split at h
 ·rw[Option.map_eq_none_iff] at h
  refine⟨?_,fun x hx=>?_⟩
  ·have h1:=sO l (v+1)
   have:=hl.all
   rw[mL l hv,bIQ] at h1
   omega
  ·have:=uX h x hx
   simp[gZ] at this
   omega
 ·cases h
theorem a9F (f:aE) (p:cF) (v:Nat) (row:List Int):(sE f p v row).length≤2*row.length+f.bGG.length+f.bGK.length:=by
 unfold sE
 have l2:=dB 2 v row.length (home row)
 have l3:=dB 3 v f.bGG.length (jF f row)
 have l4:=dB 4 v row.length (cP f p row)
 have l5:=dB 5 v f.bGK.length (jV f p row)
 simp only[bIQ]
 omega
theorem XQ {f:aE} (hs:Small f) {l:List (List Int)} (hl:eQ l) {v:Nat} (hv:v<l.length):(rW f l v).length≤100000000:=by
 unfold rW
 split
 ·simp
 ·rename_i h
  have hg:l.getD v []=l[v]:=by simp[bJE,hv]
  have:=a9F f (fK f v) v (l.getD v [])
  have h1:=(aqT hl hv h).len
  have:=hs.bGG
  have:=hs.bGK
  rw[hg] at *
  omega
theorem EU (f:aE) (l:List (List Int)) (n:Nat):nM f l (n+1)=nM f l n++rW f l n:=by
 unfold nM
 rw[List.range_succ,List.flatMap_append]
 simp
theorem qM {f:aE} (hs:Small f) {l:List (List Int)} (hl:eQ l):∀ {n:Nat},n≤l.length→(nM f l n).length≤n*100000000
 | 0,_=>by simp[nM]
 | n+1,h=>by
  rw[EU,bIQ]
  have:=qM hs hl (n:=n) Om
  have:=XQ hs hl (v:=n) Om
  omega
def viF (f:aE) (l:List (List Int)) (room:List Int) (v7:PV) (k:Nat):PF:=((((((PF.nil.set 1 (lay l)).set 2 (ints room)).set 3 (.bGQ f.cells)).set 7 (v7)).set 30 (.int .i64 (l.length:Nat))).set 31 (.int .i64 k))
def viG (f:aE) (l:List (List Int)) (room:List Int) (v7:PV) (k:Nat):PF:=(((((PF.nil.set 7 (v7)).set 11 (ints (fM f room))).set 58 (ints (eV f l))).set 59 (.int .i64 (f.bGG.length:Nat))).set 60 (.int .i64 k))
theorem bhM {C:Ctx} (f:aE) (hV:VF f) (l:List (List Int)) (room:List Int) (l0:List eT) (hl0:l0.length≤2000000000) (v7:PV) (K:bX) (F:PF) (H:PH)
  (hF:(viG f l room v7 0).le F) (hO:aX H 3 v7 (cL l0))
  (hK:∀ v' F' H',F' 7=some v'→aX H' 3 v' (cL (l0++bL 6 (-1) f.bGG.length (over f l room)))→K (.exit 3) F' H'):aB.wp C (.loop OV) K F H:=by
 have hs:=hV.small.bGG
 refine wp_loop (α:=Nat × PV × PH) (fun t=>viG f l room t.2.1 t.1) (fun t=>t.2.2) (fun t=>t.1≤f.bGG.length∧aX t.2.2 3 t.2.1 (cL (l0++bL 6 (-1) t.1 (over f l room)))) (fun t=>f.bGG.length-t.1) (0,v7,H)
  ⟨bIT _,by rw[show bL 6 (-1) 0 (over f l room)=[] from rfl,bJZ]; exact hO⟩ hF PH.le_refl ?_
 rintro⟨k,v',H0⟩ ⟨hk,g7⟩
 simp only at hk g7 ⊢
 simp only[go_sem,ο,γ,OV,atF,viG]
 by_cases hlt:k<f.bGG.length
 ·have bGO:(k:Int)<(f.bGG.length:Nat):=by omega
  have hk1:k<(eV f l).length:=by rw[eV,fH]; exact hlt
  have hk2:k<(fM f room).length:=by rw[oK]; exact hlt
  have a1:((eV f l).map fun n=>[PV.int .i64 n])[k]?=some [.int .i64 (eV f l)[k]]:=by simp[hk1]
  have a2:((fM f room).map fun n=>[PV.int .i64 n])[k]?=some [.int .i64 (fM f room)[k]]:=by simp[hk2]
  have ho:over f l room k=decide ((eV f l)[k]>(fM f room)[k]):=by simp only[over,bJE,bIZ hk1,bIZ hk2,bKK]
  have e6:=fR 6 (-1) k (over f l room)
  have l6:=dB 6 (-1) k (over f l room)
  simp only[go_sem,ο,γ,bGO,atG,a1,atH,a2]
  by_cases c:(eV f l)[k]>(fM f room)[k]
  ·rw[if_pos (by rw[ho]; simp[c])] at e6
   have bIA:(1:Nat)*3≤16777216:=by decide
   simp only[go_sem,ο,υ,δ,γ,η,θ,ζ,c,atI,bIA]
   refine lD (rows':=[]) (u:=.bGI) (src:=[(⟨6,-1,k⟩:eT).cells]) g7 .nil (fun _ _ _ _ _ h=>by cases h) rfl (by unfold roomFor; rw[eY,bIQ]; simp only[bIX,maxLen]; omega) fun v' H' k1 k2 k3 k4=>?_
   rw[jA,bJO,← e6] at k1
   simp only[go_sem,ο,γ,OY,ws k]
   refine aC (k+1,v',H') ⟨hlt,k1⟩ (by simp only; omega) ?_ PH.le_refl
   exact Lq
  ·rw[if_neg (by rw[ho]; simp; omega)] at e6
   rw[← e6] at g7
   simp only[go_sem,ο,γ,c,OY,ws k]
   refine aC (k+1,v',H0) ⟨hlt,g7⟩ (by simp only; omega) ?_ PH.le_refl
   exact Lq
 ·have bGO:¬ (k:Int)<(f.bGG.length:Nat):=by omega
  have:k=f.bGG.length:=by omega
  subst this
  simp only[go_sem,ο,bGO]
  exact hK v' _ _ rfl g7
theorem bnO {C:Ctx} (L:azI C) (f:aE) (hf:f.Ok) (l:List (List Int)) (hl:eQ l) (room:List Int) :
  IN.wp C (aR ayF.res (bP (lN (jG f l room)))) (PF.args [.agg f.cells,lay l,ints room]) .nil:=by
 simp only[go_sem,δ,γ,IN,aLJ,aLK,ayF]
 refine aA (L.valid f hf) rfl ?_
 unfold jG
 have hlr:=hl.rows
 have bHX:∀ p∈f.bGL,Fits p.bGH:=fun p hp=>(hf.bGW p hp).bGH
 cases hv:cU f with
 | false =>
  simp only[go_sem,ο,γ,reduceCtorEq,bIY,aLL]
  exact jZ (rows:=[]) (.inr rfl) .nil rfl
 | true =>
  have hV:=VF.of hv
  by_cases c:l.length=f.bGJ.length
  ·have c':(((l.length:Nat):Int) != ((f.bGJ.length:Nat):Int))=false:=bV Om
   rw[if_pos c]
   have hv12:=hV.small.bGJ
   simp only[go_sem,γ,bIO,YU,bIM,c',aLN,aLO]
   refine wp_loop (α:=Nat × PV × PH) (fun t=>viF f l room t.2.1 t.1) (fun t=>t.2.2) (fun t=>t.1≤l.length∧aX t.2.2 3 t.2.1 (cL (nM f l t.1))) (fun t=>l.length-t.1) (0,.bGI,.nil) ⟨bIT _,.nil⟩ ?_ PH.nil_le ?_
   ·unfold viF
    (repeat' (first|exact PF.nil_le|refine PF.aF ?_ ?_))<;>first|(simp only[go_sem,γ,bIM]<;>rfl)|rfl
   rintro⟨k,v7,H0⟩ ⟨hk,hO⟩
   simp only at hk hO ⊢
   simp only[go_sem,γ,atA,aLP,viF]
   by_cases hlt:k<l.length
   ·have bGO:(k:Int)<(l.length:Nat):=by omega
    have hfl:=qM hV.small hl (n:=k) Om
    have bHE:=EU f l k
    simp only[go_sem,δ,γ,bGO,aLQ,aLR]
    refine aA (L.shape f l k hV hl hlt Om) rfl ?_
    cases hsh:jM f l k with
    | some x =>
     have bIA:rW f l k=[x]:=by rw[rW,hsh]
     rw[bIA] at bHE
     simp only[go_sem,δ,γ,shV]
     refine aO fun o ho=>?_
     have h13:(1:Nat)*3≤16777216:=by decide
     simp only[go_sem,υ,δ,γ,η,ζ,OW,atB,h13]
     refine lD (rows':=[]) (u:=.bGI) (src:=[x.cells]) (hO.fresh ho _).1 .nil (fun _ _ _ _ _ h=>by cases h) rfl (by unfold roomFor; rw[eY]; simp only[bIX,maxLen]; omega) fun v' H' k1 k2 k3 k4=>?_
     rw[jA,← bHE] at k1
     simp only[go_sem,γ,OX,ws k]
     refine aC (k+1,v',H') ⟨hlt,k1⟩ (by simp only; omega) ?_ PH.le_refl
     exact Lq
    | none =>
     have hg:l.getD k []=l[k]:=by simp[bJE,hlt]
     have bIA:rW f l k=sE f (fK f k) k l[k]:=by rw[rW,hsh,hg]
     have bGV:=aqT hl hlt hsh
     have hlen:=XQ hV.small hl hlt
     rw[bIA] at bHE hlen
     simp only[go_sem,δ,γ,shV]
     refine aO fun o ho=>?_
     simp only[go_sem,δ,γ,OW,atC]
     refine aA (L.row f l k hV bHX hlt Om bGV) rfl ?_
     simp only[go_sem,γ]
     refine lD (rows':=[]) (u:=.bGI) (src:=cL (sE f (fK f k) k l[k])) (hO.fresh ho _).1 .nil (fun _ _ _ _ _ h=>by cases h) rfl (by unfold roomFor; rw[eY,eY]; simp only[maxLen]; omega) fun v' H' k1 k2 k3 k4=>?_
     have hvr:cL (nM f l k)++cL (sE f (fK f k) k l[k])=cL (nM f l (k+1)):=by rw[bHE]; simp only[cL,bKV]
     rw[hvr] at k1
     simp only[go_sem,γ,OX,ws k]
     refine aC (k+1,v',H') ⟨hlt,k1⟩ (by simp only; omega) ?_ PH.le_refl
     exact Lq
   ·have bGO:¬ (k:Int)<(l.length:Nat):=by omega
    have:k=l.length:=by omega
    subst this
    have hfl:=qM hV.small hl (n:=l.length) (bIU _)
    have bHO:=L.room f room hf
    rw[lY,hv] at bHO
    have hloads:=L.loads f l hV.small.bGG hl
    simp only[go_sem,δ,γ,bGO,atD]
    refine aA bHO rfl ?_
    simp only[go_sem,δ,γ,atE]
    refine aA hloads rfl ?_
    have hll:(eV f l).length=f.bGG.length:=by rw[eV,fH]
    simp only[go_sem,γ,bIM,hll]
    refine bhM f hV l room (nM f l l.length) Om v7 _ _ H0 ?_ hO ?_
    ·unfold viG
     exact Lq
    intro v' F' H' h7 hO'
    simp only[go_sem,atJ,h7]
    exact jZ (.inr rfl) hO' rfl
  ·have c':(((l.length:Nat):Int) != ((f.bGJ.length:Nat):Int))=true:=cQ Om
   have h13:(1:Nat)*3≤16777216:=by decide
   rw[if_neg c]
   simp only[go_sem,ο,υ,δ,γ,η,θ,ζ,bIO,YU,bIM,c',aLM,h13]
   exact aV (.inr rfl) .nil rfl PH.nil_le ⟨.refl _,rfl⟩
structure bpF (C:Ctx):Prop extends azI C where
 viol:∀ (f:aE) (l:List (List Int)) (room:List Int),f.Ok→eQ l→aH C 154 [.agg f.cells,lay l,ints room] .nil (aD (lN (jG f l room)))
def oE (f:aE) (l:List (List Int)) (room:List Int):Bool:=cU f&&decide ((jG f l room).length=0)
theorem bgD {C:Ctx} (L:bpF C) (f:aE) (hf:f.Ok) (l:List (List Int)) (hl:eQ l) (room:List Int) :
  CB.wp C (aR afQ.res (bP (.bool (oE f l room)))) (PF.args [.agg f.cells,lay l,ints room]) .nil:=by
 simp only[go_sem,δ,γ,CB,asF,asG,afQ]
 refine aA (L.valid f hf) rfl ?_
 unfold oE
 cases hv:cU f with
 | false =>
  simp only[go_sem,γ,reduceCtorEq]
  exact aY rfl rfl
 | true =>
  simp only[go_sem,δ,γ]
  refine aA (L.viol f l room hf hl) rfl ?_
  by_cases c:(jG f l room).length=0
  ·simp only[go_sem,γ,bIM,bO (show (((jG f l room).length:Nat):Int)=0 by omega)]
   exact aY rfl (by simp[c])
  ·simp only[go_sem,γ,bIM,bF (show (((jG f l room).length:Nat):Int)≠0 by omega)]
   exact aY rfl (by rw[decide_eq_false c])
def aVX:Rg:=[iA 2 (.mv (.const (.lit (.pointer none))))]
def aVY:Rg:=[iM 3 0,iN 4 3,iC 5 .gtr 4 400]
def aVZ:Rg:=[iM 6 0,iA 7 (.slice 1 (Tm 6) none (some (Ci 400)) none),iM 0 7]
def akQ:Rg:=[iM 8 0,iA 9 (.append 1 1 (.const .bGI) (Tm 8)),iA 10 (.build [.bGI,(.int .i64 0)] [(0,1,(Tm 9))]),iA 11 (.box false (Tm 10)),iM 2 11]
def MT:aB:=(sq aVX (.seq (sq aVY (.cond (Tm 5) (.region aVZ) .skip)) (sq akQ .ret)))
def bsE:List Nat:=[]
def a6N:aS:=⟨1,12,MT,[.tmp 2]⟩
def WY:Rg:=[iI 4 0]
def GT:Rd:=[(iM 5 0,false),(iA 6 (.bGX (Tm 5)),false),(iF 7 1 6,false),(iL 8 7,false),(iM 9 0,false),(iA 10 (.bGX (Tm 9)),false),(iF 11 0 10,false),(iL 12 11,false),(iN 13 12,false),(iB 14 .geq 8 13,false),(iM 15 14,false),(gM 16 1 15 false,false),(gC 17 .lss 16 2 15 false,false),(iQ 18 15 17,false)]
def WZ:Rg:=[iI 4 0]
def aGC:Rg:=[iM 19 0,iA 20 (.bGX (Tm 19)),iF 21 1 20,iL 22 21,iC 23 .add 22 1,iA 24 (.bGX (Tm 19)),iF 25 1 24,iS 1 25 23]
def aGD:Rd:=[(iM 26 0,false),(iA 27 (.bGX (Tm 26)),false),(iF 28 0 27,false),(iL 29 28,false),(iM 30 0,false),(iA 31 (.bGX (Tm 30)),false),(iF 32 1 31,false),(iL 33 32,false),(iC 34 .sub 33 1,false),(iX 35 1 29 34,false),(iL 36 35,false),(iA 37 (.conv .i64 (Tm 36)),false),(iM 38 1,false),(iB 39 .rem 37 38,false),(iM 4 39,false)]
def vY:aB:=(sq WY (.seq (dq GT (.cond (Tm 18) (sq WZ .ret) .skip)) (sq aGC (dq aGD .ret))))
def blK:List Nat:=[]
def acU:aS:=⟨2,40,vY,[.tmp 4]⟩
def aFH:Rg:=[iA 2 (.alloc [(.bool false),.bGI,.bGI])]
def aFI:Rg:=[iM 6 0,iA 7 (.call 4 [(Tm 6),(Ci 6)]),iA 8 (.bin .add (Ci 1) (Tm 7)),iM 9 0,iA 10 (.call 4 [(Tm 9),(Ci 8)]),iA 11 (.bin .add (Ci 1) (Tm 10)),iK2 12 50 8 11,iM 5 12,iE 13 5 0,iE 14 5 1,iA 3 (.alloc [(.bool false),.bGI,.bGI]),iS 3 3 13,iM 4 14]
def aFJ:Rg:=[iO 15 3 3,iS 3 2 15]
def GN:aB:=(sq aFH (sq aFI (sq aFJ .ret)))
def blE:List Nat:=[]
def axU:aS:=⟨1,16,GN,[.cell 2 (some 3)]⟩
def aVQ:Rg:=[iA 4 (.alloc [(.str []),.bGI,.bGI,.bGI])]
def aVR:Rg:=[iM 16 0,iM 17 1,iK2 18 4 16 17,iA 19 (.bin .add (Ci 1) (Tm 18)),iM 5 19]
def aVS:Rg:=[iA 6 (.alloc [(.str []),.bGI,.bGI,.bGI])]
def aVT:Rg:=[iI 7 8]
def aVU:Rg:=[iI 8 0]
def aVV:Rg:=[iM 20 8,iM 21 5,iB 22 .lss 20 21]
def akN:Rg:=[iM 25 7,iM 9 25]
def akO:Rg:=[iM 26 8,iC 27 .add 26 1,iM 28 5,iB 29 .lss 27 28]
def akP:Rg:=[iM 30 0,iM 31 7,iC 32 .add 31 1,iK2 33 4 30 32,iM 9 33]
def RG:Rg:=[iM 34 7,iM 35 9,iB 36 .sub 34 35,iM 7 36]
def WN:Rg:=[iM 38 9,iA 39 (.call 50 [(Tm 38),(Ci 8)]),iM 37 39,iE 40 37 0,iE 41 37 1,iA 10 (.alloc [(.bool false),.bGI,.bGI]),iS 3 10 40,iM 11 41]
def WO:Rg:=[iF 42 1 6,iL 43 42,iO 44 3 10,iA 45 (.bGN true 3 1 [(.bool false),.bGI,.bGI] [(0,(Tm 44))]),iA 46 (.append 3 56 (Tm 43) (Tm 45)),iF 47 1 6,iS 1 47 46]
def WP:Rg:=[iM 48 0,iK 49 1 48,iA 12 (.alloc [(.bool false),.bGI,.bGI]),iS 3 12 49]
def WQ:Rg:=[iM 50 8,iC 51 .add 50 1,iM 52 5,iB 53 .lss 51 52,iM 54 53,gM 55 0 54 true,iG 56 (.call 4 [(Tm 55),(Ci 3)]) 54 true,gC 57 .eql 56 0 54 true,iP 58 54 57]
def WR:Rg:=[iA 59 (.call 47 [(Ci 0)]),iS 3 12 59]
def GQ:Rg:=[iF 60 3 6,iL 61 60,iO 62 3 12,iA 63 (.bGN true 3 1 [(.bool false),.bGI,.bGI] [(0,(Tm 62))]),iA 64 (.append 3 56 (Tm 61) (Tm 63)),iF 65 3 6,iS 1 65 64]
def WS:Rg:=[iZ 13]
def WT:Rg:=[iI 14 0]
def aFU:Rg:=[iM 66 14,iM 67 5,iB 68 .lss 66 67]
def aFV:Rg:=[iA 71 (.call 47 [(Ci 0)]),iA 15 (.alloc [(.bool false),.bGI,.bGI]),iS 3 15 71]
def aFW:Rg:=[iM 72 14,iM 73 8,iC 74 .add 73 1,iB 75 .eql 72 74,iM 76 75,gM 77 14 76 false,gM 78 8 76 false,gB 79 .neq 77 78 76 false,gM 80 79 76 false,gM 81 0 80 true,iG 82 (.call 4 [(Tm 81),(Ci 3)]) 80 true,gC 83 .eql 82 0 80 true,iG 84 (.pick (Tm 80) (Tm 83) (.const (.bool false))) 76 false,iQ 85 76 84]
def WU:Rg:=[iM 86 0,iK 87 1 86,iS 3 15 87]
def WV:Rg:=[iM 88 13,iO 89 3 15,iA 90 (.bGN true 3 1 [(.bool false),.bGI,.bGI] [(0,(Tm 89))]),iA 91 (.append 3 56 (Tm 88) (Tm 90)),iM 13 91]
def WW:Rg:=[iM 69 14,iC 70 .add 69 1,iM 14 70]
def GP:aB:=(.seq (sq aFU (.cond (Tm 68) .skip (.exit 2))) (.seq (.block 3 (sq aFV (.seq (sq aFW (.cond (Tm 85) (.region WU) .skip)) (.region WV)))) (.region WW)))
def WX:Rg:=[iF 92 2 6,iL 93 92,iM 94 13,iA 95 (.bGN true 1 1 [.bGI] [(0,(Tm 94))]),iA 96 (.append 1 24 (Tm 93) (Tm 95)),iF 97 2 6,iS 1 97 96]
def aFX:Rg:=[iM 23 8,iC 24 .add 23 1,iM 8 24]
def aFT:aB:=(.seq (sq aVV (.cond (Tm 22) .skip (.exit 0))) (.seq (.block 1 (sq akN (.seq (sq akO (.cond (Tm 29) (.region akP) .skip)) (sq RG (sq WN (sq WO (sq WP (.seq (sq WQ (.cond (Tm 58) (.region WR) .skip)) (sq GQ (sq WS (.seq (sq WT (.block 2 (.loop GP))) (.region WX)))))))))))) (.region aFX)))
def aFY:Rg:=[iO 98 4 6,iS 4 4 98]
def MS:aB:=(sq aVQ (sq aVR (sq aVS (sq aVT (.seq (sq aVU (.block 0 (.loop aFT))) (sq aFY .ret))))))
def bsC:List Nat:=[45,63,90,95]
def a5Z:aS:=⟨2,99,MS,[.cell 4 (some 4)]⟩
def aWB:Rg:=[iZ 4]
def aWC:Rg:=[iZ 5]
def aWD:Rg:=[iI 6 0]
def aWE:Rg:=[iM 7 6,iM 8 1,iA 9 (.bHJ true (Tm 8) (Ci 1)),iB 10 .lss 7 9]
def aWF:Rg:=[iM 13 5,iM 14 0,iK 15 1 14,iA 16 (.bGN true 3 1 [(.bool false),.bGI,.bGI] [(0,(Tm 15))]),iA 17 (.append 3 56 (Tm 13) (Tm 16)),iM 5 17]
def aWG:Rg:=[iM 11 6,iC 12 .add 11 1,iM 6 12]
def aWA:aB:=(.seq (sq aWE (.cond (Tm 10) .skip (.exit 0))) (.seq (.block 1 (.region aWF)) (.region aWG)))
def aWH:Rg:=[iM 18 5,iM 4 18]
def MU:aB:=(sq aWB (sq aWC (.seq (sq aWD (.block 0 (.loop aWA))) (sq aWH .ret))))
def bsG:List Nat:=[16]
def a6O:aS:=⟨2,19,MU,[.tmp 4]⟩
def aGA:Rg:=[iA 4 (.mv (.const (.str [])))]
def aGB:Rg:=[iM 5 0,iM 6 1,iK 7 195 6,iB 8 .add 5 7,iM 4 8]
def GR:aB:=(sq aGA (sq aGB .ret))
def blI:List Nat:=[]
def axV:aS:=⟨2,9,GR,[.tmp 4]⟩
def aFM:Rg:=[iM 12 1,iA 13 (.bGX (Tm 12)),iF 14 3 13,iL 15 14,iM 16 2,iX 17 7 15 16,iF 18 1 17,iL 19 18,iC 20 .add 19 1,iM 8 20]
def aFN:Rg:=[iM 21 0,iA 22 (.call 4 [(Tm 21),(Ci 2)]),iA 23 (.bin .add (Ci 1) (Tm 22)),iM 9 23]
def aFO:Rg:=[iM 24 8,iC 25 .eql 24 2]
def aFP:Rg:=[iI 9 1]
def GO:Rg:=[iI 10 0]
def WK:Rg:=[iM 26 10,iM 27 9,iB 28 .lss 26 27]
def WL:Rg:=[iM 31 8,iC 32 .eql 31 5]
def aFQ:Rg:=[iM 33 1,iA 34 (.bGX (Tm 33)),iF 35 4 34,iL 36 35,iN 37 36,iM 38 3,iB 39 .lss 37 38]
def aFR:Rd:=[(iM 40 1,true),(iM 41 1,true),(iA 42 (.bGX (Tm 41)),true),(iF 43 4 42,true),(iL 44 43,true),(iM 45 1,false),(iA 46 (.bGX (Tm 45)),false),(iF 47 4 46,false),(iL 48 47,false),(iN 49 48,false),(iA 50 (.call 29 [(.const (.str [100])),(Tm 49)]),true),(iM 51 0,true),(iM 52 1,true),(iA 53 (.bGX (Tm 52)),true),(iF 54 2 53,true),(iL 55 54,true),(iN 56 55,true),(iK2 57 4 51 56,true),(iM 58 2,true),(iA 59 (.build [(.str []),(.int .i64 0),(.int .i64 0)] [(0,1,(Tm 50)),(1,1,(Tm 57)),(2,1,(Tm 58))]),false),(iA 60 (.bGN true 3 1 [(.str []),(.int .i64 0),(.int .i64 0)] [(0,(Tm 59))]),false),(iA 61 (.append 3 32 (Tm 44) (Tm 60)),true),(iA 62 (.bGX (Tm 40)),false),(iF 63 4 62,false)]
def aFS:Rd:=[(iS 1 63 61,true)]
def aoS:Rg:=[iM 64 1,iA 65 (.bGX (Tm 64)),iF 66 4 65,iL 67 66,iN 68 67,iM 69 3,iB 70 .geq 68 69,iM 71 70,gM 72 1 71 false,iG 73 (.bGX (Tm 72)) 71 false,gF 74 3 73 71 false,gL 75 74 71 false,gN 76 75 71 false,gC 77 .geq 76 35 71 false,iQ 78 71 77]
def aoT:Rd:=[(iM 79 8,false),(iA 80 (.bHR (.const (.str [45,115,114,107,109])) (Tm 79)),false),(iA 81 (.bGN true 1 1 [(.int .u8 0)] [(0,(Tm 80))]),false),(iA 82 (.bGY (Tm 81)),false),(iM 83 1,false),(iA 84 (.bGX (Tm 83)),false),(iF 85 3 84,false),(iL 86 85,false),(iN 87 86,false),(iK2 88 29 82 87,true),(iM 89 8,true),(iM 90 2,true),(iM 91 0,true),(iA 92 (.call 4 [(Tm 91),(Ci 16)]),true),(iA 93 (.bin .add (Ci 1) (Tm 92)),true),(iA 94 (.call 47 [(Ci 0)]),true),(iA 95 (.build [(.str []),(.int .i64 0),(.int .i64 0),(.int .i64 0),(.bool false),.bGI,.bGI] [(0,1,(Tm 88)),(1,1,(Tm 89)),(2,1,(Tm 90)),(3,1,(Tm 93)),(4,3,(Tm 94))]),false),(iA 11 (.alloc [(.str []),(.int .i64 0),(.int .i64 0),(.int .i64 0),(.bool false),.bGI,.bGI]),true),(iS 7 11 95,true)]
def aoU:Rg:=[iM 96 0,iA 97 (.call 4 [(Tm 96),(Ci 3)]),iC 98 .eql 97 0]
def aoV:Rg:=[iM 100 0,iA 101 (.call 4 [(Tm 100),(Ci 6)]),iA 102 (.bin .add (Ci 2) (Tm 101)),iA 103 (.call 50 [(Ci 1),(Tm 102)]),iM 99 103,iE 104 99 0,iE 105 99 1,iF 106 4 11,iS 3 106 104]
def MQ:Rd:=[(iM 107 1,true),(iM 108 1,false),(iA 109 (.bGX (Tm 108)),false),(iF 110 3 109,false),(iL 111 110,false),(iO 112 7 11,false),(iA 113 (.bGN true 7 1 [(.str []),(.int .i64 0),(.int .i64 0),(.int .i64 0),(.bool false),.bGI,.bGI] [(0,(Tm 112))]),false),(iA 114 (.append 7 96 (Tm 111) (Tm 113)),true),(iA 115 (.bGX (Tm 107)),false),(iF 116 3 115,false),(iS 1 116 114,true)]
def MR:Rg:=[iM 117 0,iM 118 1,iM 119 1,iA 120 (.bGX (Tm 119)),iF 121 3 120,iL 122 121,iN 123 122,iC 124 .sub 123 1,iM 125 3,iA 126 (.call 7 [(Tm 117),(Tm 118),(Tm 124),(Tm 125)])]
def uK:Rg:=[iM 29 10,iC 30 .add 29 1,iM 10 30]
def uJ:aB:=(.seq (sq WK (.cond (Tm 28) .skip (.exit 0))) (.seq (.block 1 (.seq (sq WL (.cond (Tm 32) (.seq (sq aFQ (.cond (Tm 39) (dq aFR (.draw aFS)) .skip)) (.exit 1)) .skip)) (.seq (sq aoS (.cond (Tm 78) .ret .skip)) (dq aoT (.seq (sq aoU (.cond (Tm 98) (.region aoV) .skip)) (dq MQ (.region MR))))))) (.region uK)))
def vX:aB:=(sq aFM (sq aFN (.seq (sq aFO (.cond (Tm 25) (.region aFP) .skip)) (sq GO (.block 0 (.loop uJ))))))
def blF:List Nat:=[60,81,113]
def acT:aS:=⟨4,127,vX,[]⟩
def aoJ:Rg:=[iA 6 (.alloc [(.int .i64 0),.bGI,.bGI,.bGI,.bGI,.bGI,.bGI])]
def aoK:Rg:=[iM 20 0,iA 21 (.call 4 [(Tm 20),(Ci 2)]),iA 22 (.bin .add (Ci 1) (Tm 21)),iA 23 (.build [(.int .i64 0),.bGI,.bGI,.bGI,.bGI,.bGI,.bGI] [(0,1,(Tm 22))]),iA 7 (.alloc [(.int .i64 0),.bGI,.bGI,.bGI,.bGI,.bGI,.bGI]),iS 7 7 23]
def aoL:Rg:=[iM 24 0,iA 25 (.call 4 [(Tm 24),(Ci 2)]),iA 26 (.bin .add (Ci 1) (Tm 25)),iM 8 26]
def aoM:Rg:=[iI 9 0]
def aoN:Rg:=[iM 27 9,iM 28 8,iB 29 .lss 27 28]
def aoO:Rg:=[iM 32 0,iA 33 (.call 2 [(Tm 32),(Ci 2)]),iA 10 (.alloc [(.str []),.bGI,.bGI,.bGI]),iS 4 10 33]
def aoP:Rg:=[iM 34 9,iA 35 (.call 29 [(.const (.str [108,97,119])),(Tm 34)]),iF 36 0 10,iS 1 36 35]
def aoQ:Rg:=[iF 37 1 7,iL 38 37,iO 39 4 10,iA 40 (.bGN true 4 1 [(.str []),.bGI,.bGI,.bGI] [(0,(Tm 39))]),iA 41 (.append 4 88 (Tm 38) (Tm 40)),iF 42 1 7,iS 1 42 41]
def aoR:Rg:=[iM 30 9,iC 31 .add 30 1,iM 9 31]
def MP:aB:=(.seq (sq aoN (.cond (Tm 29) .skip (.exit 0))) (.seq (.block 1 (sq aoO (sq aoP (.region aoQ)))) (.region aoR)))
def abX:Rg:=[iM 43 0,iA 44 (.call 4 [(Tm 43),(Ci 2)]),iA 45 (.bin .add (Ci 1) (Tm 44)),iM 11 45]
def abY:Rg:=[iI 12 0]
def abZ:Rg:=[iM 46 12,iM 47 11,iB 48 .lss 46 47]
def acA:Rd:=[(iF 51 2 7,true),(iL 52 51,true),(iM 53 12,false),(iA 54 (.call 29 [(.const (.str [109])),(Tm 53)]),true),(iM 55 0,true),(iA 56 (.call 4 [(Tm 55),(Ci 4)]),true),(iA 57 (.bin .add (Ci 1) (Tm 56)),true),(iM 58 0,true),(iA 59 (.call 4 [(Tm 58),(Ci 8)]),true),(iA 60 (.bin .add (Ci 1) (Tm 59)),true),(iM 61 0,true),(iF 62 1 7,true),(iL 63 62,true),(iN 64 63,true),(iK2 65 4 61 64,true),(iA 66 (.build [(.str []),(.int .i64 0),(.int .i64 0),(.int .i64 0)] [(0,1,(Tm 54)),(1,1,(Tm 57)),(2,1,(Tm 60)),(3,1,(Tm 65))]),false),(iA 67 (.bGN true 4 1 [(.str []),(.int .i64 0),(.int .i64 0),(.int .i64 0)] [(0,(Tm 66))]),false),(iA 68 (.append 4 40 (Tm 52) (Tm 67)),true),(iF 69 2 7,false)]
def acB:Rd:=[(iS 1 69 68,true)]
def acC:Rg:=[iM 49 12,iC 50 .add 49 1,iM 12 50]
def GC:aB:=(.seq (sq abZ (.cond (Tm 48) .skip (.exit 2))) (.seq (.block 3 (dq acA (.draw acB))) (.region acC)))
def acD:Rg:=[iA 70 (.call 47 [(Ci 0)]),iA 71 (.build [(.str []),(.int .i64 0),(.int .i64 0),(.int .i64 0),(.bool false),.bGI,.bGI] [(2,1,(Ci (-1))),(4,3,(Tm 70))]),iA 72 (.bGN false 7 1 [(.str []),(.int .i64 0),(.int .i64 0),(.int .i64 0),(.bool false),.bGI,.bGI] [(0,(Tm 71))]),iF 73 3 7,iS 1 73 72]
def acE:Rg:=[iM 74 0,iM 75 1,iA 76 (.call 7 [(Tm 74),(Tm 7),(Ci 0),(Tm 75)])]
def acF:Rg:=[iM 77 0,iA 78 (.call 4 [(Tm 77),(Ci 2)]),iA 79 (.bin .add (Ci 1) (Tm 78)),iM 13 79]
def acG:Rg:=[iI 14 0]
def acH:Rg:=[iM 80 14,iM 81 13,iB 82 .lss 80 81]
def GG:Rg:=[iM 85 14,iA 86 (.call 29 [(.const (.str [112])),(Tm 85)]),iM 87 0,iA 88 (.call 4 [(Tm 87),(Ci 2)]),iA 89 (.bin .add (Ci 1) (Tm 88)),iM 90 0,iA 91 (.call 4 [(Tm 90),(Ci 3)]),iM 92 0,iA 93 (.call 4 [(Tm 92),(Ci 4)]),iA 94 (.bin .add (Ci 1) (Tm 93)),iK 95 47 94,iA 96 (.build [(.str []),(.int .i64 0),(.int .i64 0),(.int .i64 0),(.int .i64 0),(.int .i64 0),(.int .i64 0),(.int .i64 0),(.int .i64 0),.bGI,.bGI,(.bool false),.bGI,.bGI,(.bool false),.bGI,.bGI] [(0,1,(Tm 86)),(1,1,(Tm 89)),(2,1,(Tm 91)),(14,3,(Tm 95))]),iA 15 (.alloc [(.str []),(.int .i64 0),(.int .i64 0),(.int .i64 0),(.int .i64 0),(.int .i64 0),(.int .i64 0),(.int .i64 0),(.int .i64 0),.bGI,.bGI,(.bool false),.bGI,.bGI,(.bool false),.bGI,.bGI]),iS 17 15 96]
def vP:Rd:=[(iF 97 1 15,true),(iL 98 97,true),(iM 99 0,false),(iF 100 2 15,false),(iL 101 100,false),(iC 102 .add 101 1,false),(iK2 103 4 99 102,true),(iB 104 .add 98 103,false),(iF 105 3 15,false)]
def vQ:Rd:=[(iS 1 105 104,true)]
def vS:Rg:=[iM 106 0,iF 107 2 15,iL 108 107,iK2 109 5 106 108,iF 110 10 15,iS 1 110 109]
def vT:Rg:=[iM 112 0,iA 113 (.call 4 [(Tm 112),(Ci 9)]),iA 114 (.call 50 [(Tm 113),(Ci 8)]),iM 111 114,iE 115 111 0,iE 116 111 1,iF 117 11 15,iS 3 117 115]
def GH:Rg:=[iI 16 1]
def acI:Rg:=[iM 118 16,iC 119 .lss 118 5]
def acJ:Rg:=[iM 122 0,iA 123 (.call 4 [(Tm 122),(Ci 3)]),iC 124 .eql 123 0]
def acK:Rg:=[iM 125 16,iM 126 0,iA 127 (.call 4 [(Tm 126),(Ci 3)]),iA 128 (.bin .add (Ci 1) (Tm 127)),iF 129 4 15,iA 130 (.idxA 5 1 (Tm 129) (Tm 125)),iS 1 130 128]
def GI:Rg:=[iM 120 16,iC 121 .add 120 1,iM 16 121]
def vO:aB:=(.seq (sq acI (.cond (Tm 119) .skip (.exit 6))) (.seq (.block 7 (sq acJ (.cond (Tm 124) (.region acK) .skip))) (.region GI)))
def GJ:Rg:=[iM 131 0,iM 132 11,iK2 133 4 131 132,iM 17 133]
def GK:Rg:=[iM 134 17,iA 135 (.bGN false 1 1 [(.int .i64 0)] [(0,(Tm 134))]),iF 136 9 15,iS 1 136 135]
def GL:Rg:=[iM 137 11,iC 138 .gtr 137 1,iM 139 138,gM 140 0 139 true,iG 141 (.call 4 [(Tm 140),(Ci 2)]) 139 true,gC 142 .eql 141 0 139 true,iP 143 139 142]
def GM:Rg:=[iF 144 9 15,iL 145 144,iM 146 17,iA 147 (.bin .sub (Ci 1) (Tm 146)),iA 148 (.bGN true 1 1 [(.int .i64 0)] [(0,(Tm 147))]),iA 149 (.append 1 8 (Tm 145) (Tm 148)),iF 150 9 15,iS 1 150 149]
def vW:Rg:=[iF 151 5 7,iL 152 151,iO 153 17 15,iA 154 (.bGN true 17 1 [(.str []),(.int .i64 0),(.int .i64 0),(.int .i64 0),(.int .i64 0),(.int .i64 0),(.int .i64 0),(.int .i64 0),(.int .i64 0),.bGI,.bGI,(.bool false),.bGI,.bGI,(.bool false),.bGI,.bGI] [(0,(Tm 153))]),iA 155 (.append 17 240 (Tm 152) (Tm 154)),iF 156 5 7,iS 1 156 155]
def acL:Rg:=[iM 83 14,iC 84 .add 83 1,iM 14 84]
def GD:aB:=(.seq (sq acH (.cond (Tm 82) .skip (.exit 4))) (.seq (.block 5 (sq GG (.seq (dq vP (.draw vQ)) (sq vS (sq vT (.seq (sq GH (.block 6 (.loop vO))) (sq GJ (sq GK (.seq (sq GL (.cond (Tm 143) (.region GM) .skip)) (.region vW)))))))))) (.region acL)))
def acM:Rg:=[iM 157 0,iM 158 2,iC 159 .add 158 1,iK2 160 4 157 159,iM 18 160]
def acN:Rg:=[iI 19 0]
def acO:Rg:=[iM 161 19,iM 162 18,iB 163 .lss 161 162]
def acP:Rd:=[(iF 166 6 7,true),(iL 167 166,true),(iM 168 19,false),(iA 169 (.call 29 [(.const (.str [118])),(Tm 168)]),true),(iM 170 0,true),(iF 171 5 7,true),(iL 172 171,true),(iN 173 172,true),(iK2 174 4 170 173,true),(iA 175 (.build [(.str []),(.int .i64 0)] [(0,1,(Tm 169)),(1,1,(Tm 174))]),false),(iA 176 (.bGN true 2 1 [(.str []),(.int .i64 0)] [(0,(Tm 175))]),false),(iA 177 (.append 2 24 (Tm 167) (Tm 176)),true),(iF 178 6 7,false)]
def acQ:Rd:=[(iS 1 178 177,true)]
def acR:Rg:=[iM 164 19,iC 165 .add 164 1,iM 19 165]
def GF:aB:=(.seq (sq acO (.cond (Tm 163) .skip (.exit 8))) (.seq (.block 9 (dq acP (.draw acQ))) (.region acR)))
def acS:Rg:=[iO 179 7 7,iS 7 6 179]
def BA:aB:=(sq aoJ (sq aoK (sq aoL (.seq (sq aoM (.block 0 (.loop MP))) (sq abX (.seq (sq abY (.block 2 (.loop GC))) (sq acD (sq acE (sq acF (.seq (sq acG (.block 4 (.loop GD))) (sq acM (.seq (sq acN (.block 8 (.loop GF))) (sq acS .ret)))))))))))))
def bdB:List Nat:=[40,67,148,154,176]
def abW:aS:=⟨3,180,BA,[.cell 6 (some 7)]⟩
def aoD:Rg:=[iA 6 (.alloc [(.int .i64 0),.bGI,.bGI,.bGI,.bGI,.bGI,.bGI])]
def aoE:Rg:=[iM 7 0,iK 8 28 7,iM 9 1,iM 10 2,iA 11 (.call 0 [(Tm 8),(Tm 9),(Tm 10)]),iS 7 6 11]
def AY:aB:=(sq aoD (sq aoE .ret))
def bcY:List Nat:=[]
def abT:aS:=⟨3,12,AY,[.cell 6 (some 7)]⟩
def blM:Rg:=[iA 3 (.box true (Tm 1)),iZ 4]
def blN:Rg:=[iM 7 0,iA 8 (.call 4 [(Tm 7),(Ci 4)]),iC 9 .eql 8 0]
def blO:Rg:=[iZ 4]
def blP:Rg:=[iZ 5]
def blQ:Rg:=[iI 6 0]
def blR:Rg:=[iM 10 6,iF 11 4 3,iL 12 11,iN 13 12,iB 14 .lss 10 13]
def blS:Rg:=[iM 17 5,iM 18 0,iA 19 (.call 4 [(Tm 18),(Ci 7)]),iC 20 .sub 19 1,iA 21 (.bGN true 1 1 [(.int .i64 0)] [(0,(Tm 20))]),iA 22 (.append 1 8 (Tm 17) (Tm 21)),iM 5 22]
def blT:Rg:=[iM 15 6,iC 16 .add 15 1,iM 6 16]
def blL:aB:=(.seq (sq blR (.cond (Tm 14) .skip (.exit 0))) (.seq (.block 1 (.region blS)) (.region blT)))
def blU:Rg:=[iM 23 5,iM 4 23]
def a6Q:aB:=(sq blM (.seq (sq blN (.cond (Tm 9) (sq blO .ret) .skip)) (sq blP (.seq (sq blQ (.block 0 (.loop blL))) (sq blU .ret)))))
def blV:List Nat:=[3,21]
def bpJ:aS:=⟨2,24,a6Q,[.tmp 4]⟩
def a6C:Rg:=[iA 3 (.box true (Tm 1)),iZ 4]
def a6D:Rg:=[iZ 5]
def a6E:Rg:=[iI 6 0]
def a6F:Rg:=[iM 11 6,iF 12 6 3,iL 13 12,iN 14 13,iB 15 .lss 11 14]
def a6G:Rg:=[iZ 7]
def a6H:Rg:=[iM 18 0,iF 19 4 3,iL 20 19,iN 21 20,iC 22 .add 21 1,iK2 23 4 18 22,iM 8 23]
def a6I:Rg:=[iI 9 0]
def a6J:Rg:=[iM 24 9,iO 25 7 3,iM 26 6,iK2 27 82 25 26,iB 28 .lss 24 27]
def a6K:Rg:=[iI 10 (-1)]
def a6L:Rg:=[iF 31 4 3,iL 32 31,iN 33 32,iC 34 .gtr 33 0]
def aRJ:Rg:=[iM 35 8,iM 36 9,iB 37 .add 35 36,iF 38 4 3,iL 39 38,iN 40 39,iB 41 .rem 37 40,iM 10 41]
def aRK:Rg:=[iM 42 0,iA 43 (.call 4 [(Tm 42),(Ci 6)])]
def aRL:Rg:=[iC 45 .eql 43 0,iM 44 45]
def aRM:Rg:=[iM 46 0,iF 47 4 3,iL 48 47,iN 49 48,iK2 50 4 46 49,iM 10 50]
def aRN:Rg:=[iC 52 .eql 43 1,iM 51 52]
def aRO:Rg:=[iM 53 0,iF 54 4 3,iL 55 54,iN 56 55,iC 57 .add 56 1,iK2 58 4 53 57,iC 59 .sub 58 1,iM 10 59]
def aRP:Rg:=[iM 60 7,iM 61 10,iA 62 (.bGN true 1 1 [(.int .i64 0)] [(0,(Tm 61))]),iA 63 (.append 1 8 (Tm 60) (Tm 62)),iM 7 63]
def aRQ:Rg:=[iM 29 9,iC 30 .add 29 1,iM 9 30]
def aRH:aB:=(.seq (sq a6J (.cond (Tm 28) .skip (.exit 2))) (.seq (.block 3 (sq a6K (.seq (sq a6L (.cond (Tm 34) (sq aRJ (sq aRK (.block 4 (sq aRL (.cond (Tm 44) (.region aRM) (sq aRN (.cond (Tm 51) (.region aRO) .skip))))))) .skip)) (.region aRP)))) (.region aRQ)))
def aRR:Rg:=[iM 64 5,iM 65 7,iA 66 (.bGN true 1 1 [.bGI] [(0,(Tm 65))]),iA 67 (.append 1 24 (Tm 64) (Tm 66)),iM 5 67]
def aRS:Rg:=[iM 16 6,iC 17 .add 16 1,iM 6 17]
def aRI:aB:=(.seq (sq a6F (.cond (Tm 15) .skip (.exit 0))) (.seq (.block 1 (sq a6G (sq a6H (.seq (sq a6I (.block 2 (.loop aRH))) (.region aRR))))) (.region aRS)))
def aRT:Rg:=[iM 68 5,iM 4 68]
def aFZ:aB:=(sq a6C (sq a6D (.seq (sq a6E (.block 0 (.loop aRI))) (sq aRT .ret))))
def a6M:List Nat:=[3,62,66]
def aVW:aS:=⟨2,69,aFZ,[.tmp 4]⟩
def aJC:Rg:=[iA 2 (.box true (Tm 0)),iI 4 0]
def aJD:Rd:=[(iF 6 5 2,false),(iL 7 6,false),(iF 8 6 2,false),(iL 9 8,false),(iM 10 1,false),(iX 11 2 9 10,false),(iF 12 1 11,false),(iL 13 12,false),(iX 14 17 7 13,false),(iO 15 17 14,false),(iA 5 (.alloc [(.str []),(.int .i64 0),(.int .i64 0),(.int .i64 0),(.int .i64 0),(.int .i64 0),(.int .i64 0),(.int .i64 0),(.int .i64 0),.bGI,.bGI,(.bool false),.bGI,.bGI,(.bool false),.bGI,.bGI]),true),(iS 17 5 15,true)]
def aJE:Rg:=[iF 16 1 5,iL 17 16,iF 18 2 5,iL 19 18,iB 20 .add 17 19,iM 4 20]
def HU:aB:=(sq aJC (dq aJD (sq aJE .ret)))
def bmY:List Nat:=[2]
def ayA:aS:=⟨2,21,HU,[.tmp 4]⟩
def aNK:Rg:=[iZ 2]
def aNL:Rg:=[iM 4 0,iN 5 4,iM 3 5]
def aNM:Rg:=[iM 6 3,iC 7 .gtr 6 0,iM 8 7,gM 9 0 8 true,gM 10 3 8 true,gC 11 .sub 10 1 8 true,iG 12 (.bHD 1 (Tm 9) (Tm 11)) 8 true,gL 13 12 8 true,iG 14 (.bin .eql (Tm 13) (.const (.int .u32 0))) 8 true,iP 15 8 14]
def aNN:Rg:=[iM 16 3,iC 17 .sub 16 1,iM 3 17]
def aNJ:aB:=(.seq (sq aNM (.cond (Tm 15) .skip (.exit 0))) (.block 1 (.region aNN)))
def YZ:Rg:=[iM 18 0,iM 19 3,iA 20 (.slice 1 (Tm 18) none (some (Tm 19)) none),iA 21 (.append 1 4 (.const .bGI) (Tm 20)),iM 2 21]
def JE:aB:=(sq aNK (sq aNL (.seq (.block 0 (.loop aNJ)) (sq YZ .ret))))
def boJ:List Nat:=[]
def ayK:aS:=⟨1,22,JE,[.tmp 2]⟩
def aNB:Rg:=[iZ 2]
def aNC:Rg:=[iM 3 0,iA 4 (.conv .u32 (Tm 3)),iM 5 0,iA 6 (.bin .shr (Tm 5) (.const (.int .u64 32))),iA 7 (.conv .u32 (Tm 6)),iA 8 (.bGN true 1 2 [(.int .u32 0)] [(0,(Tm 4)),(1,(Tm 7))]),iK 9 38 8,iM 2 9]
def IV:aB:=(sq aNB (sq aNC .ret))
def boA:List Nat:=[8]
def ayI:aS:=⟨1,10,IV,[.tmp 2]⟩
def auK:Rg:=[iT 2 false]
def auL:Rg:=[iM 3 0,iK 4 38 3,iN 5 4,iC 6 .gtr 5 512,iM 2 6]
def CS:aB:=(sq auK (sq auL .ret))
def bgV:List Nat:=[]
def agG:aS:=⟨1,7,CS,[.tmp 2]⟩
def aZH:Rg:=[iI 4 0]
def aZI:Rg:=[iM 6 0,iK 7 38 6,iM 8 1,iK 9 38 8,iM 0 7,iM 1 9]
def aZJ:Rg:=[iM 10 0,iN 11 10,iM 12 1,iN 13 12,iB 14 .neq 11 13]
def aZK:Rg:=[iM 15 0,iN 16 15,iM 17 1,iN 18 17,iB 19 .lss 16 18]
def aZL:Rg:=[iI 4 (-1)]
def aZM:Rg:=[iI 4 1]
def aZN:Rg:=[iM 20 0,iN 21 20,iC 22 .sub 21 1,iM 5 22]
def aZO:Rg:=[iM 23 5,iC 24 .geq 23 0]
def aZP:Rd:=[(iM 27 0,false),(iM 28 5,false),(iX 29 1 27 28,false),(iL 30 29,false),(iM 31 1,false),(iM 32 5,false),(iX 33 1 31 32,false),(iL 34 33,false),(iB 35 .lss 30 34,false)]
def aZQ:Rg:=[iI 4 (-1)]
def aMO:Rd:=[(iM 36 0,false),(iM 37 5,false),(iX 38 1 36 37,false),(iL 39 38,false),(iM 40 1,false),(iM 41 5,false),(iX 42 1 40 41,false),(iL 43 42,false),(iB 44 .gtr 39 43,false)]
def aMP:Rg:=[iI 4 1]
def aMQ:Rg:=[iM 25 5,iC 26 .sub 25 1,iM 5 26]
def aMN:aB:=(.seq (sq aZO (.cond (Tm 24) .skip (.exit 0))) (.seq (.block 1 (.seq (dq aZP (.cond (Tm 35) (sq aZQ .ret) .skip)) (dq aMO (.cond (Tm 44) (sq aMP .ret) .skip)))) (.region aMQ)))
def aMR:Rg:=[iI 4 0]
def PJ:aB:=(sq aZH (sq aZI (.seq (sq aZJ (.cond (Tm 14) (.seq (sq aZK (.cond (Tm 19) (sq aZL .ret) .skip)) (sq aZM .ret)) .skip)) (.seq (sq aZN (.block 0 (.loop aMN))) (sq aMR .ret)))))
def btT:List Nat:=[]
def a8Q:aS:=⟨2,45,PJ,[.tmp 4]⟩
def afZ:Rg:=[iZ 4,iZ 5]
def agA:Rg:=[iM 20 0,iM 21 1,iK2 22 32 20 21,iC 23 .lss 22 0]
def agB:Rg:=[iM 24 0,iK 25 38 24,iZ 4,iM 5 25]
def agC:Rg:=[iM 26 1,iN 27 26,iC 28 .eql 27 1]
def IR:Rg:=[iM 29 0,iN 30 29,iA 31 (.bGS 1 4 [(.int .u32 0)] (Tm 30) (Tm 30)),iM 6 31]
def IS:Rg:=[iA 7 (.mv (.const (.int .u64 0)))]
def IT:Rg:=[iM 32 0,iN 33 32,iC 34 .sub 33 1,iM 8 34]
def agD:Rg:=[iM 35 8,iC 36 .geq 35 0]
def agE:Rg:=[iM 39 7,iA 40 (.bin .shl (Tm 39) (.const (.int .u64 32))),iM 41 0,iM 42 8,iX 43 1 41 42,iL 44 43,iA 45 (.conv .u64 (Tm 44)),iB 46 .or 40 45,iM 9 46]
def agF:Rg:=[iM 47 6,iM 48 8,iM 49 9,iM 50 1,iA 51 (.bHD 1 (Tm 50) (Ci 0)),iL 52 51,iA 53 (.conv .u64 (Tm 52)),iB 54 .quo 49 53,iA 55 (.conv .u32 (Tm 54)),iX 56 1 47 48,iS 1 56 55]
def UA:Rg:=[iM 57 9,iM 58 1,iA 59 (.bHD 1 (Tm 58) (Ci 0)),iL 60 59,iA 61 (.conv .u64 (Tm 60)),iB 62 .rem 57 61,iM 7 62]
def UB:Rg:=[iM 37 8,iC 38 .sub 37 1,iM 8 38]
def CG:aB:=(.seq (sq agD (.cond (Tm 36) .skip (.exit 0))) (.seq (.block 1 (sq agE (sq agF (.region UA)))) (.region UB)))
def CH:Rg:=[iM 63 6,iK 64 38 63,iM 65 7,iK 66 35 65,iM 4 64,iM 5 66]
def UC:Rg:=[iM 67 1,iN 68 67,iA 69 (.bin .mul (Ci 32) (Tm 68)),iM 70 1,iK 71 31 70,iB 72 .sub 69 71,iM 10 72]
def UD:Rg:=[iM 73 0,iM 74 10,iK2 75 45 73 74,iA 76 (.bGN true 1 2 [(.int .u32 0)] [(0,(.const (.int .u32 0))),(1,(.const (.int .u32 0)))]),iA 77 (.append 1 4 (Tm 75) (Tm 76)),iM 78 1,iM 79 10,iK2 80 45 78 79,iM 11 77,iM 12 80]
def CI:Rg:=[iM 81 11,iM 82 0,iM 83 10,iK2 84 45 82 83,iN 85 84,iC 86 .add 85 1,iA 87 (.slice 1 (Tm 81) none (some (Tm 86)) none),iM 11 87]
def CJ:Rg:=[iM 88 12,iM 89 12,iN 90 89,iC 91 .sub 90 1,iX 92 1 88 91,iL 93 92,iA 94 (.conv .u64 (Tm 93)),iM 13 94]
def CK:Rg:=[iM 95 11,iN 96 95,iM 97 12,iN 98 97,iB 99 .sub 96 98,iA 100 (.bGS 1 4 [(.int .u32 0)] (Tm 99) (Tm 99)),iM 14 100]
def CL:Rg:=[iM 101 14,iN 102 101,iC 103 .sub 102 1,iM 15 103]
def UE:Rg:=[iM 104 15,iC 105 .geq 104 0]
def UF:Rd:=[(iM 108 11,false),(iM 109 15,false),(iM 110 12,false),(iN 111 110,false),(iB 112 .add 109 111,false),(iX 113 1 108 112,false),(iL 114 113,false),(iA 115 (.conv .u64 (Tm 114)),false),(iA 116 (.bin .shl (Tm 115) (.const (.int .u64 32))),false),(iM 117 11,false),(iM 118 15,false),(iM 119 12,false),(iN 120 119,false),(iB 121 .add 118 120,false),(iC 122 .sub 121 1,false),(iX 123 1 117 122,false),(iL 124 123,false),(iA 125 (.conv .u64 (Tm 124)),false),(iB 126 .or 116 125,false),(iM 16 126,false)]
def UG:Rg:=[iM 127 16,iM 128 13,iB 129 .quo 127 128,iM 17 129]
def UH:Rg:=[iM 130 17,iA 131 (.bin .gtr (Tm 130) (.const (.int .u64 4294967295)))]
def UI:Rg:=[iA 17 (.mv (.const (.int .u64 4294967295)))]
def UJ:Rd:=[(iM 132 12,true),(iM 133 17,false),(iK 134 35 133,true),(iK2 135 44 132 134,true),(iM 136 11,true),(iM 137 15,true),(iM 138 15,true),(iM 139 12,true),(iN 140 139,true),(iB 141 .add 138 140,true),(iC 142 .add 141 1,true),(iA 143 (.slice 1 (Tm 136) (some (Tm 137)) (some (Tm 142)) none),true),(iA 144 (.append 1 4 (.const .bGI) (Tm 143)),true),(iK2 145 32 135 144,true),(iC 146 .gtr 145 0,false)]
def UK:Rg:=[iM 147 17,iA 148 (.bin .sub (Tm 147) (.const (.int .u64 1))),iM 17 148]
def tU:aB:=(.seq (dq UJ (.cond (Tm 146) .skip (.exit 4))) (.block 5 (.region UK)))
def CM:Rg:=[iM 149 11,iM 150 15,iM 151 15,iM 152 12,iN 153 152,iB 154 .add 151 153,iC 155 .add 154 1,iA 156 (.slice 1 (Tm 149) (some (Tm 150)) (some (Tm 155)) none),iA 157 (.append 1 4 (.const .bGI) (Tm 156)),iM 158 12,iM 159 17,iK 160 35 159,iK2 161 44 158 160,iK2 162 42 157 161,iM 18 162]
def CN:Rg:=[iI 19 0]
def UL:Rg:=[iM 163 19,iM 164 12,iN 165 164,iB 166 .leq 163 165]
def UM:Rg:=[iM 169 11,iM 170 15,iM 171 19,iB 172 .add 170 171,iX 173 1 169 172,⟨none,.store 1 (Tm 173) (.const (.int .u32 0)),none⟩]
def UN:Rg:=[iM 174 19,iM 175 18,iN 176 175,iB 177 .lss 174 176]
def UO:Rg:=[iM 178 11,iM 179 15,iM 180 19,iB 181 .add 179 180,iM 182 18,iM 183 19,iX 184 1 182 183,iL 185 184,iX 186 1 178 181,iS 1 186 185]
def CO:Rg:=[iM 167 19,iC 168 .add 167 1,iM 19 168]
def tV:aB:=(.seq (sq UL (.cond (Tm 166) .skip (.exit 6))) (.seq (.block 7 (sq UM (sq UN (.cond (Tm 177) (.region UO) .skip)))) (.region CO)))
def CP:Rg:=[iM 187 14,iM 188 15,iM 189 17,iA 190 (.conv .u32 (Tm 189)),iX 191 1 187 188,iS 1 191 190]
def CQ:Rg:=[iM 106 15,iC 107 .sub 106 1,iM 15 107]
def tW:aB:=(.seq (sq UE (.cond (Tm 105) .skip (.exit 2))) (.seq (.block 3 (dq UF (sq UG (.seq (sq UH (.cond (Tm 131) (.region UI) .skip)) (.seq (.block 4 (.loop tU)) (sq CM (.seq (sq CN (.block 6 (.loop tV))) (.region CP)))))))) (.region CQ)))
def CR:Rg:=[iM 192 14,iK 193 38 192,iM 194 11,iK 195 38 194,iM 196 10,iK2 197 40 195 196,iM 4 193,iM 5 197]
def yO:aB:=(sq afZ (.seq (sq agA (.cond (Tm 23) (sq agB .ret) .skip)) (.seq (sq agC (.cond (Tm 28) (sq IR (sq IS (.seq (sq IT (.block 0 (.loop CG))) (sq CH .ret)))) .skip)) (sq UC (sq UD (sq CI (sq CJ (sq CK (.seq (sq CL (.block 2 (.loop tW))) (sq CR .ret))))))))))
def a8U:List Nat:=[76]
def RT:aS:=⟨2,198,yO,[.tmp 4,.tmp 5]⟩
def aZR:Rg:=[iZ 4,iZ 5,iI 6 0]
def aZS:Rg:=[iM 9 0,iK 10 41 9,iM 11 10,gM 12 1 11 false,gK 13 41 12 11 false,iQ 14 11 13]
def alY:Rg:=[iZ 4,iZ 5,iI 6 2]
def aZT:Rg:=[iM 15 1,iK 16 38 15,iN 17 16,iC 18 .eql 17 0]
def aZU:Rg:=[iZ 4,iZ 5,iI 6 3]
def aZV:Rg:=[iM 20 0,iK 21 38 20,iM 22 1,iK 23 38 22,iK2 24 39 21 23,iM 19 24,iE 25 19 0,iE 26 19 1,iM 7 25,iM 8 26]
def aZW:Rg:=[iM 27 7,iM 28 8,iM 4 27,iM 5 28,iI 6 0]
def PK:aB:=(sq aZR (.seq (sq aZS (.cond (Tm 14) (sq alY .ret) .skip)) (.seq (sq aZT (.cond (Tm 18) (sq aZU .ret) .skip)) (sq aZV (sq aZW .ret)))))
def btV:List Nat:=[]
def udiv:aS:=⟨2,29,PK,[.tmp 4,.tmp 5,.tmp 6]⟩
def aZY:Rg:=[iZ 4,iI 5 0]
def aZZ:Rg:=[iM 10 0,iK 11 41 10,iM 12 11,gM 13 1 12 false,gK 14 41 13 12 false,iQ 15 12 14]
def alZ:Rg:=[iZ 4,iI 5 2]
def a0A:Rg:=[iM 16 0,iK 17 38 16,iM 18 1,iK 19 38 18,iM 6 17,iM 7 19]
def a0B:Rg:=[iM 20 7,iN 21 20,iC 22 .gtr 21 0]
def a0C:Rg:=[iM 24 6,iM 25 7,iK2 26 39 24 25,iM 23 26,iE 27 23 0,iE 28 23 1,iM 8 27,iM 9 28]
def a0D:Rg:=[iM 29 7,iM 30 9,iM 6 29,iM 7 30]
def aZX:aB:=(.seq (sq a0B (.cond (Tm 22) .skip (.exit 0))) (.block 1 (sq a0C (.region a0D))))
def a0E:Rg:=[iM 31 6,iM 4 31,iI 5 0]
def PO:aB:=(sq aZY (.seq (sq aZZ (.cond (Tm 15) (sq alZ .ret) .skip)) (sq a0A (.seq (.block 0 (.loop aZX)) (sq a0E .ret)))))
def btX:List Nat:=[]
def a8V:aS:=⟨2,32,PO,[.tmp 4,.tmp 5]⟩
def agR:Rg:=[iA 6 (.alloc [(.bool false),.bGI,.bGI])]
def agT:Rg:=[iM 9 1,iK 10 38 9,iM 11 2,iK 12 38 11,iM 1 10,iM 2 12]
def agU:Rg:=[iM 13 1,iN 14 13,iC 15 .eql 14 0]
def agV:Rg:=[iA 16 (.bGN true 1 1 [(.int .u32 0)] [(0,(.const (.int .u32 1)))]),iA 17 (.build [(.bool false),.bGI,.bGI] [(2,1,(Tm 16))]),iS 3 6 17]
def agW:Rg:=[iM 19 1,iM 20 2,iK2 21 34 19 20,iM 18 21,iE 22 18 0,iE 23 18 1,iM 7 22,iM 8 23]
def agX:Rg:=[iM 24 7,iN 25 24,iC 26 .gtr 25 1,iM 27 26,gM 28 7 27 false,iG 29 (.bHD 1 (Tm 28) (Ci 0)) 27 false,gL 30 29 27 false,iG 31 (.bin .gtr (Tm 30) (.const (.int .u32 1))) 27 false,iQ 32 27 31]
def JI:Rg:=[iM 34 1,iM 35 7,iK2 36 33 34 35,iM 33 36,iE 37 33 0,iE 38 33 1,iE 39 33 2,iM 1 37]
def JJ:Rg:=[iM 41 2,iM 42 7,iK2 43 33 41 42,iM 40 43,iE 44 40 0,iE 45 40 1,iE 46 40 2,iM 2 44]
def wJ:Rg:=[iM 47 0,iM 48 1,iM 49 2,iA 50 (.build [(.bool false),.bGI,.bGI] [(0,1,(Tm 47)),(1,1,(Tm 48)),(2,1,(Tm 49))]),iS 3 6 50]
def yQ:aB:=(sq agR (sq agT (.seq (sq agU (.cond (Tm 15) (sq agV .ret) .skip)) (.seq (sq agW (sq agX (.cond (Tm 32) (sq JI (.region JJ)) .skip))) (sq wJ .ret)))))
def a9H:List Nat:=[16]
def RV:aS:=⟨3,51,yQ,[.cell 6 (some 3)]⟩
def aOH:Rg:=[iA 2 (.mv (.const (.int .u64 0)))]
def aOI:Rg:=[iM 3 0,iC 4 .lss 3 0]
def aOJ:Rg:=[iM 5 0,iC 6 .add 5 1,iA 7 (.un .neg (Tm 6)),iA 8 (.conv .u64 (Tm 7)),iA 9 (.bin .add (Tm 8) (.const (.int .u64 1))),iM 2 9]
def aOK:Rg:=[iM 10 0,iA 11 (.conv .u64 (Tm 10)),iM 2 11]
def JN:aB:=(sq aOH (.seq (sq aOI (.cond (Tm 4) (sq aOJ .ret) .skip)) (sq aOK .ret)))
def boX:List Nat:=[]
def ayV:aS:=⟨1,12,JN,[.tmp 2]⟩
def aNY:Rg:=[iA 4 (.alloc [(.bool false),.bGI,.bGI]),iI 5 0]
def aNZ:Rg:=[iM 6 1,iC 7 .eql 6 0]
def aOA:Rg:=[iA 8 (.build [(.bool false),.bGI,.bGI] []),iS 3 4 8,iI 5 3]
def aOB:Rg:=[iM 9 0,iC 10 .lss 9 0,iM 11 1,iC 12 .lss 11 0,iA 13 (.eqb true (Tm 10) (Tm 12)),iM 14 0,iK 15 59 14,iK 16 35 15,iM 17 1,iK 18 59 17,iK 19 35 18,iA 20 (.call 58 [(Tm 13),(Tm 16),(Tm 19)]),iS 3 4 20,iI 5 0]
def JK:aB:=(sq aNY (.seq (sq aNZ (.cond (Tm 7) (sq aOA .ret) .skip)) (sq aOB .ret)))
def boR:List Nat:=[]
def agY:aS:=⟨2,21,JK,[.cell 4 (some 3),.tmp 5]⟩
def a1D:Rg:=[iA 2 (.alloc [(.bool false),.bGI,.bGI])]
def a1E:Rg:=[iM 6 0,iA 7 (.call 50 [(Tm 6),(Ci 1)]),iM 5 7,iE 8 5 0,iE 9 5 1,iA 3 (.alloc [(.bool false),.bGI,.bGI]),iS 3 3 8,iM 4 9]
def a1F:Rg:=[iO 10 3 3,iS 3 2 10]
def QC:aB:=(sq a1D (sq a1E (sq a1F .ret)))
def buG:List Nat:=[]
def a9E:aS:=⟨1,11,QC,[.cell 2 (some 3)]⟩
def utF (xs:List Nat) (n:Nat):PF:=((PF.nil.set 0 (aI xs)).set 3 (.int .i64 n))
theorem boI {C:Ctx} (xs:List Nat) (hx:Lim xs) (hl:xs.length≤35184372087808):JE.wp C (aR ayK.res (mN 1 (aK (aG (val xs))))) (PF.args [aI xs]) .nil:=by
 simp only[go_sem,γ,reduceCtorEq,JE,aNK,aNL,ayK,bIM]
 refine wp_loop (α:=Nat) (fun n=>utF xs n) (fun _=>.nil) (fun n=>n≤xs.length∧∀ j x,n≤j→xs[j]?=some x→x=0) (fun n=>n) xs.length ⟨bIU _,fun j x hj hxj=>?_⟩ ?_ PH.nil_le ?_
 ·rw[bJY hj] at hxj; cases hxj
 ·unfold utF
  exact Lq
 rintro n ⟨hn,hz⟩
 have done:(0<n→∀ h:n-1<xs.length,xs[n-1]≠0)→∀ F:PF,(utF xs n).le F→aB.wp C (.seq (.region YZ) .ret) (aR [.tmp 2] (mN 1 (aK (aG (val xs))))) F .nil:=by
  intro h F hF
  have f0:F 0=some (aI xs):=hF 0 _ (by unfold utF; simp only[go_sem,reduceCtorEq])
  have f3:F 3=some (.int .i64 n):=hF 3 _ (by unfold utF; simp only[go_sem,reduceCtorEq])
  have ht:xs.take n=aG (val xs):=IH hx hn hz fun x h0 hxj=>by
   rw[bIZ Om] at hxj
   injection hxj with hxj
   subst hxj
   exact h h0 Om
  have hc:((n:Nat):Int)≤(xs.length:Nat):=by omega
  simp only[go_sem,ν,γ,reduceCtorEq,YZ,f0,f3,bIM,hc,or_true,bJR]
  refine cX (rows:=[]) (src:=aK (aG (val xs))) .nil ?_ ?_ fun v H' ho _=>?_
  ·simp only[go_sem]
   rw[← ht,← List.map_take]
  ·unfold roomFor
   rw[bT,← ht,bJF]
   simp only[bLA,maxLen]
   omega
  ·exact HN (.inr rfl) (by simpa using ho) rfl
 simp only[aB.wp,go_sem] at done
 simp only[go_sem,γ,reduceCtorEq,aNJ,aNM,utF]
 by_cases h0:0<n
 ·have h0':((n:Nat):Int)>0:=by omega
  have hlt:n-1<xs.length:=by omega
  have hat:=bN xs hlt
  have hw:IntKind.i64.wrap ((n:Int)-1)=((n-1:Nat):Int):=uU Om h0
  simp only[go_sem,γ,reduceCtorEq,h0',hw,hat]
  by_cases c:xs[n-1]=0
  ·simp only[go_sem,γ,reduceCtorEq,bO (Om:((xs[n-1]:Nat):Int)=0),aNN,hw]
   refine aC (n-1) ⟨by omega,fun j x hj hxj=>?_⟩ Om ?_ PH.nil_le
   ·by_cases e:j=n-1
    ·subst e
     rw[bIZ hlt] at hxj
     injection hxj with hxj
     omega
    ·exact hz j x Om hxj
   ·exact Lq
  ·simp only[go_sem,bF (Om:((xs[n-1]:Nat):Int)≠0)]
   exact done (fun _ _=>c) _ (by unfold utF; exact Lq)
 ·have h0':¬ ((n:Nat):Int)>0:=by omega
  simp only[go_sem,γ,reduceCtorEq,h0']
  exact done (fun h=>absurd h h0) _ (by unfold utF; exact Lq)
structure oP (C:Ctx):Prop where
 trimM:∀ xs,Lim xs→xs.length≤35184372087808→aH C 38 [aI xs] .nil (mN 1 (aK (aG (val xs))))
theorem oP.trim {C:Ctx} (L:oP C) (xs:List Nat) (hx:Lim xs) (hl:xs.length≤35184372087808):aH C 38 [aI xs] .nil (aD (aI (aG (val xs)))):=(L.trimM xs hx hl).freeze
theorem bnZ {C:Ctx} (L:oP C) (v:Nat) (hv:v<18446744073709551616):IV.wp C (aR ayI.res (bP (aI (aG v)))) (PF.args [.int .u64 v]) .nil:=by
 have e1:IntKind.u32.wrap ((v:Nat):Int)=((v%4294967296:Nat):Int):=cA v
 have hd:v/4294967296<4294967296:=by omega
 have e3:IntKind.u32.wrap ((v/4294967296:Nat):Int)=((v/4294967296:Nat):Int):=by rw[cA,bJT hd]
 have hL:Lim [v%4294967296,v/4294967296]:=by
  intro x hx
  simp only[bJB,List.mem_nil_iff,or_false] at hx
  rcases hx with rfl | rfl
  ·exact bJX _ (by decide)
  ·exact hd
 have bHB:val [v%4294967296,v/4294967296]=v:=by simp only[val,Nat.mul_zero,bKF]; exact Nat.mod_add_div v 4294967296
 have hsh:shift .shr .u64 (v:Int) 32=some (.int .u64 ((v/4294967296:Nat):Int)):=wD
 have hb:(2:Nat)*1≤16777216:=by decide
 simp only[go_sem,υ,δ,γ,η,ζ,reduceCtorEq,IV,aNB,aNC,ayI,e1,hsh,e3,hb]
 have ht:=L.trim [v%4294967296,v/4294967296] hL (by simp)
 rw[bHB] at ht
 refine aA ht rfl ?_
 simp only[go_sem,γ]
 exact aV (.inr rfl) .nil rfl PH.nil_le ⟨.refl _,rfl⟩
theorem bgU {C:Ctx} (L:oP C) (xs:List Nat) (hx:Lim xs) (hl:xs.length≤35184372087808):CS.wp C (aR agG.res (bP (.bool (decide (nl (val xs)>512))))) (PF.args [aI xs]) .nil:=by
 simp only[go_sem,reduceCtorEq,CS,auK,auL,agG]
 refine aA (L.trim xs hx hl) rfl ?_
 simp only[go_sem,γ,bIM,aZ]
 refine aY rfl ?_
 rw[decide_eq_decide]
 omega
theorem a3B {a b:Nat} (h:nl a<nl b):cY a b=-1:=by
 have:a<b:=by
  rcases bJG a b with h' | h'
  ·exact h'
  ·have:=fF h'; omega
 simp[cY,this]
theorem a3A {a b:Nat} (h:nl b<nl a):cY a b=1:=by
 have:b<a:=by
  rcases bJG b a with h' | h'
  ·exact h'
  ·have:=fF h'; omega
 have h2:¬ a<b:=by omega
 simp[cY,this,h2]
def a8R (X Y:List Nat) (i:Int):PF:=(((PF.nil.set 0 (aI X)).set 1 (aI Y)).set 5 (.int .i64 i))
theorem btS {C:Ctx} (L:oP C) (xs ys:List Nat) (hx:Lim xs) (hy:Lim ys) (lx:xs.length≤35184372087808) (ly:ys.length≤35184372087808) :
  PJ.wp C (aR a8Q.res (aD (.int .i64 (cY (val xs) (val ys))))) (PF.args [aI xs,aI ys]) .nil:=by
 simp only[go_sem,reduceCtorEq,PJ,aZH,aZI,a8Q]
 refine aA (L.trim xs hx lx) Ev ?_
 simp only[go_sem,γ]
 refine aA (L.trim ys hy ly) Ev ?_
 have bx:=eW hx
 have by':=eW hy
 simp only[go_sem,γ,reduceCtorEq,aZJ,bIM,aZ]
 by_cases c0:nl (val xs)≠nl (val ys)
 ·simp only[go_sem,γ,reduceCtorEq,cQ (show ((nl (val xs):Nat):Int)≠(nl (val ys):Nat) by omega),aZK]
  by_cases c1:nl (val xs)<nl (val ys)
  ·simp only[go_sem,ο,bIM,aZ,show ((nl (val xs):Nat):Int)<(nl (val ys):Nat) by omega,aZL]
   refine aM (.inr rfl) Ev ?_
   rw[a3B c1]; rfl
  ·simp only[go_sem,bIM,aZ,show ¬ ((nl (val xs):Nat):Int)<(nl (val ys):Nat) by omega,aZM]
   refine aM (.inr rfl) Ev ?_
   rw[a3A Om]; rfl
 replace c0:=Decidable.of_not_not c0
 simp only[go_sem,γ,reduceCtorEq,bV (show ((nl (val xs):Nat):Int)=(nl (val ys):Nat) by omega),aZN,bIM,aZ]
 have ex:=aQ (val xs)
 have ey:=aQ (val ys)
 have LX:=aU (val xs)
 have LY:=aU (val ys)
 generalize hX:aG (val xs)=X at *
 generalize hY:aG (val ys)=Y at *
 have hlX:X.length=nl (val xs):=by rw[← hX]; rfl
 have hlY:Y.length=nl (val xs):=by rw[c0,← hY]; rfl
 refine wp_loop (α:=Nat) (fun k=>a8R X Y ((k:Int)-1)) (fun _=>.nil) (fun k=>k≤nl (val xs)∧X.drop k=Y.drop k) (fun k=>k) (nl (val xs)) ⟨bIU _,?_⟩ ?_ PH.nil_le ?_
 ·rw[bLT Om,bLT Om]
 ·unfold a8R
  (repeat' (first|exact PF.nil_le|refine PF.aF ?_ ?_))<;>first|(simp only[go_sem,γ,reduceCtorEq,wrap_i64 (show -9223372036854775808≤((nl (val xs):Nat):Int)-1 by omega) (show ((nl (val xs):Nat):Int)-1≤9223372036854775807 by omega)]<;>rfl)|rfl
 rintro k ⟨hk,hd⟩
 simp only[go_sem,γ,reduceCtorEq,aMN,aZO,a8R]
 by_cases h0:0<k
 ·obtain⟨m,rfl⟩:∃ m,k=m+1:=⟨k-1,by omega⟩
  have hz:((m+1:Nat):Int)-1=(m:Int):=by omega
  have hge:(m:Int)≥0:=by omega
  have x1:m<X.length:=by omega
  have y1:m<Y.length:=by omega
  simp only[go_sem,hz,hge]
  refine bK .nil dC PH.nil_le ?_
  simp only[go_sem,γ,reduceCtorEq,aZP,bN X x1,bN Y y1]
  by_cases c3:X[m]<Y[m]
  ·simp only[go_sem,ο,show ((X[m]:Nat):Int)<(Y[m]:Nat) by omega,aZQ]
   refine aM (.inr rfl) Ev ?_
   have:=aaE LX x1 y1 hd c3
   rw[ex,ey] at this
   simp[bH,cY,this]
  ·simp only[go_sem,show ¬ ((X[m]:Nat):Int)<(Y[m]:Nat) by omega]
   refine bK .nil dC PH.nil_le ?_
   simp only[go_sem,γ,reduceCtorEq,aMO,bN X x1,bN Y y1]
   by_cases c4:X[m]>Y[m]
   ·simp only[go_sem,show ((X[m]:Nat):Int)>(Y[m]:Nat) by omega,aMP]
    refine aM (.inr rfl) Ev ?_
    have:=aaE LY y1 x1 hd.symm c4
    rw[ex,ey] at this
    have h2:¬ val xs<val ys:=by omega
    simp[bH,cY,this,h2]
   ·simp only[go_sem,γ,reduceCtorEq,show ¬ ((X[m]:Nat):Int)>(Y[m]:Nat) by omega,aMQ]
    refine aC m ⟨by omega,amM x1 y1 hd Om⟩ Om ?_ PH.nil_le
    (repeat' (first|exact PF.nil_le|refine PF.aF ?_ ?_))<;>first|(simp only[go_sem,γ,reduceCtorEq,wrap_i64 (Om:-9223372036854775808≤(m:Int)-1) (Om:(m:Int)-1≤9223372036854775807)]<;>rfl)|rfl
 ·have:k=0:=by omega
  subst this
  have hz:¬ ((0:Nat):Int)-1≥0:=by decide
  simp only[go_sem,hz,aMR]
  refine aM (.inr rfl) Ev ?_
  rw[bJR,bJR] at hd
  have:val xs=val ys:=by rw[← ex,← ey,hd]
  simp[bH,cY,this]
theorem AD (n:Nat):(((n:Nat):Int)==0)=decide (n=0):=by
 by_cases h:n=0
 ·subst h; rfl
 ·rw[bF Om,decide_eq_false h]
structure azD (C:Ctx):Prop extends oP C where
 make:∀ v:Nat,v<18446744073709551616→aH C 35 [.int .u64 v] .nil (aD (aI (aG v)))
 large:∀ xs,Lim xs→xs.length≤35184372087808→aH C 41 [aI xs] .nil (aD (.bool (decide (nl (val xs)>512))))
 cmp:∀ xs ys,Lim xs→Lim ys→xs.length≤35184372087808→ys.length≤35184372087808→aH C 32 [aI xs,aI ys] .nil (aD (.int .i64 (cY (val xs) (val ys))))
def a8W (a b:Nat):PF:=((PF.nil.set 6 (aI (aG a))).set 7 (aI (aG b)))
structure ZS (C:Ctx):Prop extends azD C where
 divide:∀ A B:Nat,B≠0→nl A≤512→nl B≤512→aH C 39 [aI (aG A),aI (aG B)] .nil (aD (pH A B))
def a3V (a b:Nat):PV:=if dK a b then .tup [aI [],.int .i64 2] else .tup [aI (aG (bIR a b)),.int .i64 0]
theorem btW {C:Ctx} (L:ZS C) (a b:List Nat) (ha:Lim a) (hb:Lim b) (la:a.length≤35184372087808) (lb:b.length≤35184372087808) :
  PO.wp C (aR a8V.res (bP (a3V (val a) (val b)))) (PF.args [aI a,aI b]) .nil:=by
 unfold a3V
 simp only[go_sem,reduceCtorEq,PO,aZY,aZZ,a8V]
 refine aA (L.large a ha la) rfl ?_
 by_cases c1:nl (val a)>512
 ·simp only[go_sem,γ,c1,alZ]
  rw[if_pos (by simp[dK,c1])]
  exact eE rfl
 simp only[go_sem,γ,c1]
 refine aA (L.large b hb lb) rfl ?_
 by_cases c2:nl (val b)>512
 ·simp only[go_sem,γ,reduceCtorEq,c2,alZ]
  rw[if_pos (by simp[dK,c2])]
  exact eE rfl
 rw[if_neg (by simp[dK,c1,c2])]
 simp only[go_sem,γ,reduceCtorEq,c2,a0A]
 refine aA (L.trim a ha la) rfl ?_
 simp only[go_sem,γ]
 refine aA (L.trim b hb lb) rfl ?_
 simp only[go_sem,γ]
 refine wp_loop (α:=Nat × Nat) (fun t=>a8W t.1 t.2) (fun _=>.nil) (fun t=>bIR t.1 t.2=bIR (val a) (val b)∧nl t.1≤512∧nl t.2≤512) (fun t=>t.2) (val a,val b) ⟨rfl,by simp only; omega,by simp only; omega⟩ ?_ PH.nil_le ?_
 ·unfold a8W
  exact Lq
 rintro⟨x,y⟩ ⟨hg,hx,hy⟩
 simp only at hg hx hy
 simp only[go_sem,γ,aZX,a0B,a8W,aZ]
 by_cases c3:y=0
 ·subst c3
  have:¬ ((nl 0:Nat):Int)>0:=by rw[xB]; decide
  simp only[go_sem,γ,this,a0E]
  refine aV (vs:=[aI (aG x),.int .i64 0]) (.inr rfl) .nil rfl PH.nil_le ⟨?_,rfl⟩
  rw[← hg,Nat.gcd_zero_right]
  exact .refl _
 ·have h0:nl y≠0:=fun h=>c3 (gJ.1 h)
  have:((nl y:Nat):Int)>0:=by omega
  simp only[go_sem,γ,this,a0C]
  refine aA (L.divide x y c3 Om Om) rfl ?_
  simp only[go_sem,γ,pH,a0D]
  have hlt:x%y<y:=bJX _ (bKP c3)
  refine aC (y,x%y) ⟨?_,hy,?_⟩ hlt ?_ PH.nil_le
  ·simp only
   rw[← hg,Nat.gcd_comm y,← Nat.gcd_rec y x,Nat.gcd_comm]
  ·have:=fF (Nat.le_of_lt hlt)
   simp only; omega
  ·exact Lq
theorem btU {C:Ctx} (L:ZS C) (a b:List Nat) (ha:Lim a) (hb:Lim b) (la:a.length≤35184372087808) (lb:b.length≤35184372087808) :
  PK.wp C (aR udiv.res (bP (lW (val a) (val b)))) (PF.args [aI a,aI b]) .nil:=by
 unfold lW
 simp only[go_sem,reduceCtorEq,PK,aZR,aZS,udiv]
 refine aA (L.large a ha la) rfl ?_
 by_cases c1:nl (val a)>512
 ·simp only[go_sem,γ,c1,alY]
  rw[if_pos (by simp[dK,c1])]
  exact qQ rfl
 simp only[go_sem,γ,c1]
 refine aA (L.large b hb lb) rfl ?_
 by_cases c2:nl (val b)>512
 ·simp only[go_sem,γ,reduceCtorEq,c2,alY]
  rw[if_pos (by simp[dK,c2])]
  exact qQ rfl
 rw[if_neg (by simp[dK,c1,c2])]
 simp only[go_sem,γ,reduceCtorEq,c2,aZT]
 refine aA (L.trim b hb lb) rfl ?_
 simp only[go_sem,γ,bIM,aZ,AD,gJ]
 by_cases c3:val b=0
 ·rw[if_pos c3]
  simp only[go_sem,decide_eq_true c3,aZU]
  exact qQ rfl
 rw[if_neg c3]
 simp only[go_sem,reduceCtorEq,decide_eq_false c3,aZV]
 refine aA (L.trim a ha la) rfl ?_
 simp only[go_sem,γ]
 refine aA (L.trim b hb lb) rfl ?_
 simp only[go_sem]
 refine aA (L.divide (val a) (val b) c3 Om Om) rfl ?_
 simp only[go_sem,γ,pH,aZW]
 exact aV (.inr rfl) .nil rfl PH.nil_le ⟨.refl _,rfl⟩
def lM (neg:Bool) (a b:Nat):FV:=(neg&&decide (a/bIR a b≠0),a/bIR a b,b/bIR a b)
structure azE (C:Ctx):Prop extends ZS C where
 gcd:∀ a b,Lim a→Lim b→a.length≤35184372087808→b.length≤35184372087808→aH C 34 [aI a,aI b] .nil (aD (a3V (val a) (val b)))
 div:∀ a b,Lim a→Lim b→a.length≤35184372087808→b.length≤35184372087808→aH C 33 [aI a,aI b] .nil (aD (lW (val a) (val b)))
theorem rT {n:Nat} (h:nl n≤512):(aG n).length≤35184372087808:=by rw[aZ]; omega
theorem uI:aG 1=[1]:=nE (by decide) (by decide)
theorem abH {n:Nat} (h:n≠0):aG n=n%4294967296::aG (n/4294967296):=qP h
theorem xR {n:Nat} (h:n≠0):(nl n>1∨n%4294967296>1)↔n≠1:=by
 constructor
 ·rintro h1 rfl
  rcases h1 with h1 | h1
  ·rw[nl,uI] at h1; simp at h1
  ·omega
 ·intro h1
  by_cases c:nl n>1
  ·exact .inl c
  ·have:n<4294967296 ^ 1:=(jE n 1).1 Om
   rw[Nat.pow_one] at this
   rw[bJT this]
   exact .inr Om
theorem a9G {C:Ctx} (L:azE C) (neg:Bool) (a b:List Nat) (ha:Lim a) (hb:Lim b) (la:a.length≤35184372087808) (lb:b.length≤35184372087808) (na:nl (val a)≤512) (nb:nl (val b)≤512) (h0:val b≠0) :
  yQ.wp C (aR RV.res (bP (.agg (lM neg (val a) (val b)).rf.cells))) (PF.args [.bool neg,aI a,aI b]) .nil:=by
 have hg0:bIR (val a) (val b)≠0:=fun h=>h0 (Nat.eq_zero_of_gcd_eq_zero_right h)
 have hgb:bIR (val a) (val b)≤val b:=Nat.gcd_le_right _ (bKP h0)
 have ng:nl (bIR (val a) (val b))≤512:=bKG (fF hgb) nb
 have hnb:dK (val a) (val b)=false:=gG na nb
 simp only[go_sem,δ,yQ,agR,agT,RV]
 refine aO fun o ho=>?_
 simp only[go_sem,γ]
 refine aA (L.trim a ha la) rfl ?_
 simp only[go_sem,γ]
 refine aA (L.trim b hb lb) rfl ?_
 simp only[go_sem,γ,agU,bIM,aZ,AD,gJ]
 by_cases c1:val a=0
 ·simp only[go_sem,υ,δ,γ,η,θ,ζ,decide_eq_true c1,agV]
  have e:(lM neg (val a) (val b)).rf=⟨false,[],[1]⟩:=by
   rw[c1]
   unfold lM FV.rf
   simp[fA,Nat.div_self (bKP h0),uI]
  rw[e]
  refine aV (vs:=[.agg [.bool false,.bGI,aI [1]]]) (.inr rfl) .nil ?_ PH.nil_le ⟨show Co (.agg _) (.agg _) from CoL.agg (CoL.cons (.refl _) (CoL.cons (.nil 1) (CoL.cons (.refl _) .nil))),rfl⟩
  simp only[go_sem,δ,γ]
  rfl
 have hgcd:=L.gcd (aG (val a)) (aG (val b)) (aU _) (aU _) (rT na) (rT nb)
 rw[aQ,aQ,a3V,hnb] at hgcd
 simp only[go_sem,γ,decide_eq_false c1,agW]
 refine aA hgcd rfl ?_
 have fin:∀ x y:Nat,x=val a/bIR (val a) (val b)→y=val b/bIR (val a) (val b)→∀ (F:PF) (H:PH),F 0=some (.bool neg)→F 1=some (aI (aG x))→F 2=some (aI (aG y))→F 6=some (.ptr o 3 0 0)→H o=some (.rows 3 [[.bool false,.bGI,.bGI]]) →
   aB.wp C (.seq (.region wJ) .ret) (aR [.cell 6 (some 3)] (bP (.agg (lM neg (val a) (val b)).rf.cells))) F H:=by
  intro x y hx hy F H f0 f1 f2 f6 hH
  subst hx; subst hy
  simp only[go_sem,δ,γ,θ,wJ,f0,f1,f2,f6,hH]
  have hq:val a/bIR (val a) (val b)≠0:=by
   have:=Nat.div_pos (Nat.gcd_le_left (val b) (bKP c1)) (bKP hg0)
   omega
  have e:(lM neg (val a) (val b)).rf=⟨neg,aG (val a/bIR (val a) (val b)),aG (val b/bIR (val a) (val b))⟩:=by
   unfold lM FV.rf
   simp only[hq,ne_eq,not_false_eq_true,decide_true,bKZ]
  rw[e]
  refine aV (vs:=[.agg (dX neg (aG (val a/bIR (val a) (val b))) (aG (val b/bIR (val a) (val b))))]) (.inr rfl) .nil ?_ PH.nil_le ⟨.refl _,rfl⟩
  simp only[go_sem,δ,γ,f6]
 simp only[aB.wp,go_sem] at fin
 have hd:=fun x (hx:nl x≤512)=>L.div (aG x) (aG (bIR (val a) (val b))) (aU _) (aU _) (rT hx) (rT ng)
 simp only[aQ,lW] at hd
 have tail:bIR (val a) (val b)≠1→∀ (F:PF) (H:PH),F 0=some (.bool neg)→F 1=some (aI (aG (val a)))→F 2=some (aI (aG (val b)))→F 6=some (.ptr o 3 0 0)→F 7=some (aI (aG (bIR (val a) (val b))))→H o=some (.rows 3 [[.bool false,.bGI,.bGI]]) →
   aB.wp C (.seq (.seq (.region JI) (.region JJ)) (.seq (.region wJ) .ret)) (aR [.cell 6 (some 3)] (bP (.agg (lM neg (val a) (val b)).rf.cells))) F H:=by
  intro _ F H f0 f1 f2 f6 f7 hH
  have d1:=hd (val a) na
  have d2:=hd (val b) nb
  rw[gG na ng,if_neg hg0] at d1
  rw[gG nb ng,if_neg hg0] at d2
  simp only[go_sem,γ,JI,f1,f7]
  refine aA d1 rfl ?_
  simp only[go_sem,γ,bLS,JJ,f2,f7]
  refine aA d2 rfl ?_
  simp only[go_sem,γ,bLS]
  exact fin _ _ rfl rfl _ _ (by simp only[go_sem,reduceCtorEq,f0]) rfl rfl (by simp only[go_sem,γ,f6]) hH
 simp only[aB.wp,go_sem] at tail
 simp only[go_sem,γ,bLS,agX,bIM,aZ]
 by_cases c2:nl (bIR (val a) (val b))>1
 ·have c2':((nl (bIR (val a) (val b)):Nat):Int)>1:=by omega
  simp only[go_sem,γ,c2']
  exact tail ((xR hg0).1 (.inl c2)) _ _ rfl rfl rfl rfl rfl Sq
 ·have c2':¬ ((nl (bIR (val a) (val b)):Nat):Int)>1:=by omega
  simp only[go_sem,ν,γ,reduceCtorEq,c2',abH hg0]
  by_cases c3:bIR (val a) (val b)%4294967296>1
  ·have c3':((bIR (val a) (val b)%4294967296:Nat):Int)>1:=by omega
   simp only[go_sem,c3']
   exact tail ((xR hg0).1 (.inr c3)) _ _ rfl rfl rfl rfl (by simp only[go_sem,γ,abH hg0]) Sq
  ·have c3':¬ ((bIR (val a) (val b)%4294967296:Nat):Int)>1:=by omega
   have h1:bIR (val a) (val b)=1:=by
    rcases Decidable.em (bIR (val a) (val b)=1) with h | h
    ·exact h
    ·rcases (xR hg0).2 h with h | h
     ·exact absurd h c2
     ·exact absurd h c3
   simp only[go_sem,c3']
   exact fin (val a) (val b) (by rw[h1,Nat.div_one]) (by rw[h1,Nat.div_one]) _ _ rfl rfl rfl rfl Sq
theorem boW {C:Ctx} (v:Int) (h1:-9223372036854775808≤v) (h2:v≤9223372036854775807) :
  JN.wp C (aR ayV.res (aD (.int .u64 (v.natAbs:Nat)))) (PF.args [.int .i64 v]) .nil:=by
 simp only[go_sem,γ,reduceCtorEq,JN,aOH,aOI,ayV]
 by_cases c:v<0
 ·have e1:IntKind.i64.wrap (v+1)=v+1:=wrap_i64 Om Om
  have e2:IntKind.i64.wrap (0-(v+1))=-(v+1):=by rw[wrap_i64 Om Om]; omega
  have e3:IntKind.u64.wrap (IntKind.u64.wrap (-(v+1))+1)=((v.natAbs:Nat):Int):=by
   rw[fG,fG]; omega
  simp only[go_sem,γ,reduceCtorEq,c,aOJ,e1,e2,e3]
  refine aM (.inr rfl) rfl ?_
  rfl
 ·have e:IntKind.u64.wrap v=((v.natAbs:Nat):Int):=by
   rw[fG]; omega
  simp only[go_sem,γ,reduceCtorEq,c,aOK,e]
  refine aM (.inr rfl) rfl ?_
  rfl
structure a2L (C:Ctx):Prop extends azE C where
 lowest:∀ neg a b,Lim a→Lim b→a.length≤35184372087808→b.length≤35184372087808→nl (val a)≤512→nl (val b)≤512→val b≠0→aH C 58 [.bool neg,aI a,aI b] .nil (aD (.agg (lM neg (val a) (val b)).rf.cells))
 size:∀ v:Int,dA v→aH C 59 [.int .i64 v] .nil (aD (.int .u64 (v.natAbs:Nat)))
def mkT (n d:Int):RF:=(lM (decide (n<0) != decide (d<0)) n.natAbs d.natAbs).rf
def uR (n d:Int):PV:=if d=0 then zC 3 else .tup [.agg (mkT n d).cells,.int .i64 0]
theorem boQ {C:Ctx} (L:a2L C) (n d:Int) (h1:dA n) (h2:dA d) :
  JK.wp C (aR agY.res (bP (uR n d))) (PF.args [.int .i64 n,.int .i64 d]) .nil:=by
 simp only[go_sem,δ,JK,aNY,aNZ]
 refine aO fun o ho=>?_
 unfold uR
 by_cases c:d=0
 ·subst c
  simp only[go_sem,ρ,δ,γ,aOA]
  refine gI ?_
  simp only[go_sem,δ,γ,agY]
 ·rw[if_neg c]
  simp only[go_sem,γ,reduceCtorEq,bF c,aOB]
  refine aA (L.size n h1) rfl ?_
  simp only[go_sem]
  refine aA (L.make n.natAbs Om) rfl ?_
  simp only[go_sem,γ]
  refine aA (L.size d h2) rfl ?_
  simp only[go_sem]
  refine aA (L.make d.natAbs Om) rfl ?_
  simp only[go_sem]
  have n1:nl n.natAbs≤2:=mT Om
  have n2:nl d.natAbs≤2:=mT Om
  have low:=L.lowest (decide (n<0) != decide (d<0)) (aG n.natAbs) (aG d.natAbs) (aU _) (aU _) (by rw[aZ]; omega) (by rw[aZ]; omega)
  rw[aQ,aQ] at low
  have low:=low Om Om Om
  refine aA low rfl ?_
  simp only[go_sem,δ,γ]
  exact aV (.inr rfl) .nil (vs:=[.agg (mkT n d).cells,.int .i64 0]) (by simp only[go_sem,δ,γ,agY]; rfl) PH.nil_le ⟨.refl _,rfl⟩
structure ZT (C:Ctx):Prop extends a2L C where
 fmk:∀ n d:Int,dA n→dA d→aH C 50 [.int .i64 n,.int .i64 d] .nil (aD (uR n d))
theorem a1C {C:Ctx} (L:ZT C) (n:Int) (h1:dA n) :
  QC.wp C (aR a9E.res (bP (.agg (mkT n 1).cells))) (PF.args [.int .i64 n]) .nil:=by
 simp only[go_sem,δ,QC,a1D,a1E,a9E]
 refine aO fun o ho=>?_
 simp only[go_sem,reduceCtorEq]
 refine aA (L.fmk n 1 h1 (by unfold dA; omega)) rfl ?_
 unfold uR
 rw[if_neg (by decide)]
 simp only[go_sem,δ,γ]
 refine aO fun p hp=>?_
 have hne:o≠p:=by
  rintro rfl
  simp only[bA,if_true] at hp
  cases hp
 have bHN:p≠o:=fun h=>hne h.symm
 simp only[go_sem,δ,γ,hne,a1F]
 refine aV (vs:=[.agg (mkT n 1).cells]) (.inr rfl) .nil ?_ PH.nil_le ⟨.refl _,rfl⟩
 simp only[go_sem,δ,γ,bHN]
end Go.PM
