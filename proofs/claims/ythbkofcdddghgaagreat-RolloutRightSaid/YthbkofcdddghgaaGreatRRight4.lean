/-
  Texts of ours, joined: RwCode RwW1 RwW2 MdCode R1Code R1W1 R1W2 R1W3 R1W4 MkPlain MdPlain Mv1 MdP2 MkCode MkW1 MkW2 MkW3 MkW4 MkW5 MkW6 MkW7 MkW8 MkW9 MkW10 MkW11 MkW12 MkW13 MkW14 MkW15 MkW16 MdW1 MdW2 MdW3 MdW4 MdW5 MdW6 . No condition.
-/
import Derived.Test.YthbkofcdddghgaaGreatRRight1
import Derived.Test.YthbkofcdddghgaaGreatRRight2
import Derived.Test.YthbkofcdddghgaaGreatRRight3
import Derived.Lib.ItoaNum
import Derived.Shelf.Sort.Plain
import Derived.Shelf.Slices.CompactI
import Derived.Shelf.Slices.In.SortNone
set_option linter.unusedSimpArgs false
set_option linter.unusedVariables false
open Nat renaming reduceEqDiff → γ, reduceAdd → δ, reduceSub → ε, reduceMul → ζ, reduceLT → η, reduceLeDiff → θ, reduceBEq → τ
open Int renaming reduceLT → ι, reduceLE → κ, reduceEq → μ, reduceToNat → ν, reduceAdd → ξ, reduceNeg → ο, reduceBEq → ρ, reduceBNe → σ
open List renaming reduceReplicate → υ
open List renaming length_map → bKI, range → bKJ, replicate → bKL, getElem_mem → bKM, length_append → bKQ, getElem?_eq_getElem → bKU, length_singleton → bKX, mem_cons → bKY, take_of_length_le → bKZ, all_eq_true → bLA, length_take → bLB, getD_eq_getElem?_getD → bLC, take_length → bLG, append_assoc → bLI, drop_zero → bLK, mem_range → bLL, getElem?_map → bLN, mem_map → bLP, mem_singleton → bLR, getElem?_eq_some_iff → bLU, mem_append → bLV, getElem?_eq_none → bLW, length_cons → bLX, not_mem_nil → bLZ, take_succ_eq_append_getElem → bMA, append_nil → bMF, map_cons → bMG, drop_eq_getElem_cons → bMH, length_set → bMJ, Sublist → bMK, length_drop → bML, map_append → bMM, getElem_of_mem → bMP, getElem?_append_right → bMR, getElem_map → bMS, nodup_append → bMT, contains_iff_mem → bMV, length_nil → bMW, take_append_drop → bMX, nil_append → bMY, getElem?_append_left → bNB, mem_of_getElem? → bNC, getElem?_take → bNP, drop_of_length_le → bNU, getElem?_drop → bNV, length_replicate → bNW, set_append_right → bNX, eq_nil_of_length_eq_zero → bNY, getElem?_take_of_lt → bNZ
open Nat renaming le_refl → bKK, gcd → bKN, zero_le → bKT, mul_add → bKV, lt_or_ge → bLD, mul_assoc → bLE, mul_comm → bLH, zero_add → bLJ, add_mul → bLM, mul_le_mul_right → bLO, mod_eq_of_lt → bLS, mod_lt → bLY, add_zero → bMB, pow_succ → bMC, min_eq_left → bMN, mul_le_mul_left → bMO, pos_of_ne_zero → bMQ, add_assoc → bMU, pow_pos → bMZ, div_lt_iff_lt_mul → bND, le_trans → bNF, sub_self → bNG, succ_mul → bNH, eq_zero_or_pos → bNK, div_add_mod → bNQ, div_eq_of_lt → bNR
open Bool renaming false_and → bKO, not_true → bKR, true_and → bKS, not_false → bKW, and_eq_true → bLF, and_false → bLQ, and_true → bMI, and_assoc → bNJ, false_eq_true → bNL
open Option renaming map_eq_some_iff → bKP, map_some → bLT, some → bNA, getD_some → bNE, bind_eq_some_iff → bNM, bind_some → bNS
open Array renaming replicate → bMD, length_toList → bNI, getElem?_eq_getElem → bNN, getElem?_eq_some_iff → bNT
open Int renaming tdiv → bME, toNat_natCast → bNO
namespace Go.PM
open Go
def avF:Rg:=[iA 3 (.box true (Tm 0)),iI 6 0]
def avG:Rg:=[iO 8 7 3,iM 9 1,iM 10 2,iA 11 (.call 250 [(Tm 8),(Tm 9),(Tm 10)]),iA 12 (.un .not (Tm 11))]
def avH:Rg:=[iI 6 1]
def avI:Rg:=[iF 13 4 3,iL 14 13,iN 15 14,iI 16 0]
def avJ:Rg:=[iB 17 .lss 16 15]
def avK:Rg:=[iM 18 16,iM 7 18]
def avL:Rg:=[iO 19 7 3,iM 20 1,iM 21 2,iM 22 7,iA 23 (.bIK true 1 1 [(.int .i64 0)] [(0,(Tm 22))]),iA 24 (.call 251 [(Tm 19),(Tm 20),(Tm 21),(Tm 23)]),iA 25 (.un .not (Tm 24))]
def avM:Rg:=[iI 6 116]
def avN:Rg:=[iC 26 .add 16 1,iM 16 26]
def avE:aC:=(sq avJ (.seq (.cond (Tm 17) .skip (.exit 0)) (.seq (.block 1 (sq avK (sq avL (.cond (Tm 25) (sq avM .ret) .skip)))) (.region avN))))
def aiC:Rg:=[iI 6 0]
def BY:aC:=(sq avF (.seq (sq avG (.cond (Tm 12) (sq avH .ret) .skip)) (.seq (sq avI (.block 0 (.loop avE))) (sq aiC .ret))))
def bdK:List Nat:=[3,23]
def RA:aW:=⟨3,27,BY,[.tmp 6]⟩
def awA:Rg:=[iA 3 (.box true (Tm 0)),iZ 6,iI 7 0]
def awB:Rg:=[iO 13 7 3,iM 14 1,iM 15 2,iA 16 (.call 262 [(Tm 13),(Tm 14),(Tm 15)]),iM 8 16]
def RH:Rg:=[iM 17 8,iC 18 .neq 17 0]
def awC:Rg:=[iM 19 8,iZ 6,iM 7 19]
def awD:Rg:=[iZ 9]
def awE:Rg:=[iF 20 4 3,iL 21 20,iN 22 21,iI 23 0]
def awF:Rg:=[iB 24 .lss 23 22]
def awG:Rg:=[iM 25 23,iM 10 25]
def awH:Rg:=[iM 26 9,iN 27 26,iI 28 0]
def awI:Rg:=[iB 29 .lss 28 27]
def ajE:Rg:=[iM 30 28,iX 31 1 26 28,iL 32 31,iM 11 30,iM 12 32]
def ajF:Rd:=[(iO 33 7 3,true),(iM 34 1,true),(iM 35 2,true),(iM 36 12,false),(iK 37 277 36,true),(iM 38 10,true),(iA 39 (.bIK true 1 1 [(.int .i64 0)] [(0,(Tm 38))]),true),(iA 40 (.append 1 8 (Tm 37) (Tm 39)),true),(iA 41 (.call 251 [(Tm 33),(Tm 34),(Tm 35),(Tm 40)]),true)]
def ajG:Rg:=[iM 42 9,iM 43 11,iM 44 12,iM 45 10,iA 46 (.bIK true 1 1 [(.int .i64 0)] [(0,(Tm 45))]),iA 47 (.append 1 8 (Tm 44) (Tm 46)),iX 48 1 42 43,iS 1 48 47]
def ajH:Rg:=[iC 49 .add 28 1,iM 28 49]
def ajC:aC:=(sq awI (.seq (.cond (Tm 29) .skip (.exit 2)) (.seq (.block 3 (sq ajE (dq ajF (.cond (Tm 41) (sq ajG (.exit 1)) .skip)))) (.region ajH))))
def ajI:Rg:=[iM 50 9,iM 51 10,iA 52 (.bIK false 1 1 [(.int .i64 0)] [(0,(Tm 51))]),iA 53 (.bIK true 1 1 [.aB] [(0,(Tm 52))]),iA 54 (.append 1 24 (Tm 50) (Tm 53)),iM 9 54]
def JQ:Rg:=[iC 55 .add 23 1,iM 23 55]
def ajD:aC:=(sq awF (.seq (.cond (Tm 24) .skip (.exit 0)) (.seq (.block 1 (sq awG (.seq (sq awH (.block 2 (.loop ajC))) (.region ajI)))) (.region JQ))))
def ajJ:Rg:=[iM 56 9,iM 6 56,iI 7 0]
def CD:aC:=(sq awA (.seq (sq awB (sq RH (.cond (Tm 18) (sq awC .ret) .skip))) (sq awD (.seq .skip (.seq (sq awE (.block 0 (.loop ajD))) (sq ajJ .ret))))))
def bdR:List Nat:=[3,39,46,53]
def RG:aW:=⟨3,57,CD,[.tmp 6,.tmp 7]⟩
def auV:Rg:=[iA 3 (.box true (Tm 0)),iI 6 0,iI 7 0]
def auW:Rg:=[iO 18 7 3,iM 19 1,iM 20 2,iA 21 (.call 262 [(Tm 18),(Tm 19),(Tm 20)]),iM 8 21]
def QZ:Rg:=[iM 22 8,iC 23 .neq 22 0]
def auX:Rg:=[iM 24 8,iI 6 0,iM 7 24]
def auY:Rg:=[iF 25 4 3,iL 26 25,iN 27 26,iA 28 (.bJF false (Tm 27) (Ci 1)),iM 9 28]
def auZ:Rg:=[iM 29 1,iN 30 29,iI 31 0]
def avA:Rg:=[iB 32 .lss 31 30]
def avB:Rg:=[iM 33 31,iX 34 1 29 31,iL 35 34,iM 10 33,iM 11 35]
def avC:Rg:=[iA 36 (.bKA (false,[.int .i64])),iM 12 36]
def avD:Rg:=[iI 13 0]
def ahT:Rg:=[iM 37 11,iN 38 37,iI 39 0]
def ahU:Rg:=[iB 40 .lss 39 38]
def JM:Rg:=[iX 41 1 37 39,iL 42 41,iM 15 42]
def JN:Rg:=[iM 43 15,iC 44 .geq 43 0]
def ahV:Rg:=[iM 45 12,iM 46 15,⟨none,.bJC (false,[.int .i64]) (Tm 45) (Tm 46) (.const (.bool true)),none⟩]
def ahW:Rg:=[iM 47 13,iC 48 .add 47 1,iM 13 48]
def JO:Rg:=[iC 49 .add 39 1,iM 39 49]
def ahR:aC:=(sq ahU (.seq (.cond (Tm 40) .skip (.exit 2)) (.seq (.block 3 (sq JM (sq JN (.cond (Tm 44) (sq ahV (.region ahW)) .skip)))) (.region JO))))
def ahX:Rg:=[iM 50 12,iA 51 (.lenM (Tm 50)),iM 16 51]
def ahY:Rg:=[iM 52 16,iC 53 .eql 52 0,iM 54 53,gM 55 16 54 false,gM 56 13 54 false,gB 57 .neq 55 56 54 false,iQ 58 54 57]
def ahZ:Rd:=[(iM 59 16,false),(iF 60 5 3,false),(iL 61 60,false),(iF 62 6 3,false),(iL 63 62,false),(iM 64 10,false),(iX 65 2 63 64,false),(iF 66 1 65,false),(iL 67 66,false),(iX 68 17 61 67,false),(iF 69 1 68,false),(iL 70 69,false),(iB 71 .sub 59 70,false),(iM 72 2,false),(iB 73 .sub 71 72,false),(iM 17 73,false)]
def aiA:Rg:=[iM 74 9,iM 75 16,iM 76 17,iB 77 .add 75 76,iC 78 .sub 77 1,iM 79 17,iB 80 .quo 78 79,iA 81 (.bJF true (Tm 74) (Tm 80)),iM 9 81]
def vF:Rg:=[iC 82 .add 31 1,iM 31 82]
def ahS:aC:=(sq avA (.seq (.cond (Tm 32) .skip (.exit 0)) (.seq (.block 1 (sq avB (sq avC (sq avD (.seq (sq ahT (.block 2 (.loop ahR))) (sq ahX (.seq (sq ahY (.cond (Tm 58) (.exit 1) .skip)) (dq ahZ (.region aiA))))))))) (.region vF))))
def aiB:Rg:=[iM 83 9,iM 6 83,iI 7 0]
def BW:aC:=(sq auV (.seq (sq auW (sq QZ (.cond (Tm 23) (sq auX .ret) .skip))) (sq auY (.seq (sq auZ (.block 0 (.loop ahS))) (sq aiB .ret)))))
def bdI:List Nat:=[3]
def QY:aW:=⟨3,84,BW,[.tmp 6,.tmp 7]⟩
def avQ:Rg:=[iA 4 (.box true (Tm 0)),iT 8 false]
def avR:Rg:=[iO 13 7 4,iM 14 1,iM 15 2,iA 16 (.call 250 [(Tm 13),(Tm 14),(Tm 15)]),iA 17 (.un .not (Tm 16))]
def avS:Rg:=[iT 8 false]
def avT:Rg:=[iM 18 3,iK 19 178 18,iM 9 19]
def avU:Rg:=[iM 20 9,iN 21 20,iF 22 4 4,iL 23 22,iN 24 23,iB 25 .neq 21 24]
def avV:Rg:=[iT 8 false]
def avW:Rg:=[iF 26 4 4,iL 27 26,iN 28 27,iI 29 0]
def avX:Rg:=[iB 30 .lss 29 28]
def avY:Rg:=[iM 31 29,iM 10 31]
def avZ:Rg:=[iM 32 9,iM 33 10,iK2 34 260 32 33,iA 35 (.un .not (Tm 34))]
def aiU:Rg:=[iT 8 false]
def aiV:Rg:=[iC 36 .add 29 1,iM 29 36]
def aiS:aC:=(sq avX (.seq (.cond (Tm 30) .skip (.exit 0)) (.seq (.block 1 (sq avY (sq avZ (.cond (Tm 35) (sq aiU .ret) .skip)))) (.region aiV))))
def aiW:Rg:=[iM 37 3,iN 38 37,iI 39 0]
def aiX:Rg:=[iB 40 .lss 39 38]
def aiY:Rg:=[iX 41 1 37 39,iL 42 41,iM 12 42]
def aiZ:Rg:=[iM 43 12,iN 44 43,iC 45 .eql 44 0,iM 46 45,gO 47 7 4 46 false,gM 48 1 46 false,gM 49 2 46 false,gM 50 12 46 false,iG 51 (.call 251 [(Tm 47),(Tm 48),(Tm 49),(Tm 50)]) 46 false,iG 52 (.un .not (Tm 51)) 46 false,iQ 53 46 52]
def JP:Rg:=[iT 8 false]
def ajA:Rg:=[iC 54 .add 39 1,iM 39 54]
def aiT:aC:=(sq aiX (.seq (.cond (Tm 40) .skip (.exit 2)) (.seq (.block 3 (sq aiY (sq aiZ (.cond (Tm 53) (sq JP .ret) .skip)))) (.region ajA))))
def ajB:Rg:=[iT 8 true]
def CC:aC:=(sq avQ (.seq (sq avR (.cond (Tm 17) (sq avS .ret) .skip)) (sq avT (.seq (sq avU (.cond (Tm 25) (sq avV .ret) .skip)) (.seq (sq avW (.block 0 (.loop aiS))) (.seq (sq aiW (.block 2 (.loop aiT))) (sq ajB .ret)))))))
def bdP:List Nat:=[4]
def RE:aW:=⟨4,55,CC,[.tmp 8]⟩
def bjM:Rg:=[iA 3 (.box true (Tm 0)),iI 6 0]
def bjN:Rg:=[iO 8 7 3,iM 9 1,iM 10 2,iA 11 (.call 253 [(Tm 8),(Tm 9),(Tm 10)]),iA 12 (.un .not (Tm 11))]
def bjO:Rg:=[iI 6 1]
def bjP:Rg:=[iI 7 0]
def bjQ:Rg:=[iM 13 7,iF 14 4 3,iL 15 14,iN 16 15,iB 17 .lss 13 16]
def bjR:Rg:=[iO 20 7 3,iM 21 1,iM 22 2,iM 23 7,iA 24 (.bIK true 1 1 [(.int .i64 0)] [(0,(Tm 23))]),iA 25 (.call 255 [(Tm 20),(Tm 21),(Tm 22),(Tm 24)]),iA 26 (.un .not (Tm 25))]
def bjS:Rg:=[iI 6 116]
def bjT:Rg:=[iM 18 7,iC 19 .add 18 1,iM 7 19]
def bjL:aC:=(.seq (sq bjQ (.cond (Tm 17) .skip (.exit 0))) (.seq (.block 1 (sq bjR (.cond (Tm 26) (sq bjS .ret) .skip))) (.region bjT)))
def bjU:Rg:=[iI 6 0]
def a4V:aC:=(sq bjM (.seq (sq bjN (.cond (Tm 12) (sq bjO .ret) .skip)) (.seq (sq bjP (.block 0 (.loop bjL))) (sq bjU .ret))))
def bjV:List Nat:=[3,24]
def a4U:aW:=⟨3,27,a4V,[.tmp 6]⟩
def bcW:Rg:=[iA 3 (.box true (Tm 0)),iZ 6,iI 7 0]
def bcX:Rg:=[iO 13 7 3,iM 14 1,iM 15 2,iA 16 (.call 266 [(Tm 13),(Tm 14),(Tm 15)]),iM 8 16]
def bcY:Rg:=[iM 17 8,iC 18 .neq 17 0]
def bcZ:Rg:=[iM 19 8,iZ 6,iM 7 19]
def bdA:Rg:=[iZ 9]
def bdB:Rg:=[iI 10 0]
def bdC:Rg:=[iM 20 10,iF 21 4 3,iL 22 21,iN 23 22,iB 24 .lss 20 23]
def bdD:Rg:=[iI 11 (-1)]
def bdE:Rg:=[iI 12 0]
def bdF:Rg:=[iM 27 12,iM 28 9,iN 29 28,iB 30 .lss 27 29,iM 31 30,gM 32 11 31 true,gC 33 .lss 32 0 31 true,iP 34 31 33]
def a5S:Rd:=[(iO 37 7 3,true),(iM 38 1,true),(iM 39 2,true),(iM 40 9,false),(iM 41 12,false),(iX 42 1 40 41,false),(iL 43 42,false),(iA 44 (.append 1 8 (.const .aB) (Tm 43)),true),(iM 45 10,true),(iA 46 (.bIK true 1 1 [(.int .i64 0)] [(0,(Tm 45))]),true),(iA 47 (.append 1 8 (Tm 44) (Tm 46)),true),(iA 48 (.call 255 [(Tm 37),(Tm 38),(Tm 39),(Tm 47)]),true)]
def a5T:Rg:=[iM 49 12,iM 11 49]
def a5U:Rg:=[iM 35 12,iC 36 .add 35 1,iM 12 36]
def a5Q:aC:=(.seq (sq bdF (.cond (Tm 34) .skip (.exit 2))) (.seq (.block 3 (dq a5S (.cond (Tm 48) (.region a5T) .skip))) (.region a5U)))
def a5V:Rg:=[iM 50 11,iC 51 .lss 50 0]
def a5W:Rg:=[iM 52 9,iA 53 (.bIK true 1 1 [.aB] [(0,(.const .aB))]),iA 54 (.append 1 24 (Tm 52) (Tm 53)),iM 9 54]
def a5X:Rg:=[iM 55 9,iN 56 55,iC 57 .sub 56 1,iM 11 57]
def a5Y:Rg:=[iM 58 9,iM 59 11,iM 60 9,iM 61 11,iX 62 1 60 61,iL 63 62,iM 64 10,iA 65 (.bIK true 1 1 [(.int .i64 0)] [(0,(Tm 64))]),iA 66 (.append 1 8 (Tm 63) (Tm 65)),iX 67 1 58 59,iS 1 67 66]
def a5Z:Rg:=[iM 25 10,iC 26 .add 25 1,iM 10 26]
def a5R:aC:=(.seq (sq bdC (.cond (Tm 24) .skip (.exit 0))) (.seq (.block 1 (sq bdD (.seq (sq bdE (.block 2 (.loop a5Q))) (.seq (sq a5V (.cond (Tm 51) (sq a5W (.region a5X)) .skip)) (.region a5Y))))) (.region a5Z)))
def a6A:Rg:=[iM 68 9,iM 6 68,iI 7 0]
def aPP:aC:=(sq bcW (.seq (sq bcX (sq bcY (.cond (Tm 18) (sq bcZ .ret) .skip))) (sq bdA (.seq (sq bdB (.block 0 (.loop a5R))) (sq a6A .ret)))))
def bdG:List Nat:=[3,46,53,65]
def aNK:aW:=⟨3,69,aPP,[.tmp 6,.tmp 7]⟩
def bcB:Rg:=[iA 3 (.box true (Tm 0)),iI 6 0,iI 7 0]
def bcC:Rg:=[iO 16 7 3,iM 17 1,iM 18 2,iA 19 (.call 266 [(Tm 16),(Tm 17),(Tm 18)]),iM 8 19]
def bcD:Rg:=[iM 20 8,iC 21 .neq 20 0]
def bcE:Rg:=[iM 22 8,iI 6 0,iM 7 22]
def bcF:Rg:=[iF 23 4 3,iL 24 23,iN 25 24,iA 26 (.bJF false (Tm 25) (Ci 1)),iM 9 26]
def bcG:Rg:=[iI 10 0]
def bcH:Rg:=[iM 27 10,iM 28 1,iN 29 28,iB 30 .lss 27 29]
def bcI:Rg:=[iZ 11]
def bcJ:Rg:=[iT 12 false]
def bcK:Rg:=[iI 13 0]
def a5B:Rg:=[iM 33 13,iM 34 1,iM 35 10,iX 36 1 34 35,iL 37 36,iN 38 37,iB 39 .lss 33 38]
def a5C:Rg:=[iM 42 1,iM 43 10,iX 44 1 42 43,iL 45 44,iM 46 13,iX 47 1 45 46,iL 48 47,iC 49 .geq 48 0]
def a5D:Rg:=[iM 50 12,iM 51 50,gM 52 11 51 false,gM 53 1 51 false,gM 54 10 51 false,iG 55 (.bIZ 1 (Tm 53) (Tm 54)) 51 false,gL 56 55 51 false,gM 57 13 51 false,iG 58 (.bIZ 1 (Tm 56) (Tm 57)) 51 false,gL 59 58 51 false,gK2 60 254 52 59 51 false,iQ 61 51 60,iM 12 61]
def a5E:Rg:=[iM 62 11,iM 63 1,iM 64 10,iX 65 1 63 64,iL 66 65,iM 67 13,iX 68 1 66 67,iL 69 68,iA 70 (.bIK true 1 1 [(.int .i64 0)] [(0,(Tm 69))]),iA 71 (.append 1 8 (Tm 62) (Tm 70)),iM 11 71]
def a5F:Rg:=[iM 40 13,iC 41 .add 40 1,iM 13 41]
def a4Z:aC:=(.seq (sq a5B (.cond (Tm 39) .skip (.exit 2))) (.seq (.block 3 (sq a5C (.cond (Tm 49) (sq a5D (.region a5E)) .skip))) (.region a5F)))
def a5G:Rg:=[iM 72 11,iN 73 72,iM 14 73]
def a5H:Rg:=[iM 74 12,iM 75 74,gM 76 14 75 false,gC 77 .eql 76 0 75 false,iQ 78 75 77]
def a5I:Rg:=[iM 79 14,iO 80 7 3,iM 81 10,iK2 82 257 80 81,iB 83 .sub 79 82,iM 84 2,iB 85 .sub 83 84,iM 15 85]
def a5J:Rg:=[iM 86 9,iM 87 14,iM 88 15,iB 89 .add 87 88,iC 90 .sub 89 1,iM 91 15,iB 92 .quo 90 91,iA 93 (.bJF true (Tm 86) (Tm 92)),iM 9 93]
def a5K:Rg:=[iM 31 10,iC 32 .add 31 1,iM 10 32]
def a5A:aC:=(.seq (sq bcH (.cond (Tm 30) .skip (.exit 0))) (.seq (.block 1 (sq bcI (sq bcJ (.seq (sq bcK (.block 2 (.loop a4Z))) (sq a5G (.seq (sq a5H (.cond (Tm 78) (.exit 1) .skip)) (sq a5I (.region a5J)))))))) (.region a5K)))
def a5L:Rg:=[iM 94 9,iM 6 94,iI 7 0]
def aPO:aC:=(sq bcB (.seq (sq bcC (sq bcD (.cond (Tm 21) (sq bcE .ret) .skip))) (sq bcF (.seq (sq bcG (.block 0 (.loop a5A))) (sq a5L .ret)))))
def bcL:List Nat:=[3,70]
def aMJ:aW:=⟨3,95,aPO,[.tmp 6,.tmp 7]⟩
def auG:Rg:=[iA 4 (.box true (Tm 0)),iT 8 false]
def auH:Rg:=[iO 13 7 4,iM 14 1,iM 15 2,iA 16 (.call 253 [(Tm 13),(Tm 14),(Tm 15)]),iA 17 (.un .not (Tm 16))]
def auI:Rg:=[iT 8 false]
def auJ:Rg:=[iZ 9]
def auK:Rg:=[iI 10 0]
def auL:Rg:=[iM 18 10,iM 19 3,iN 20 19,iB 21 .lss 18 20]
def auM:Rg:=[iI 11 0]
def auN:Rg:=[iM 24 11,iM 25 3,iM 26 10,iX 27 1 25 26,iL 28 27,iN 29 28,iB 30 .lss 24 29]
def auO:Rg:=[iM 33 3,iM 34 10,iX 35 1 33 34,iL 36 35,iM 37 11,iX 38 1 36 37,iL 39 38,iM 12 39]
def auP:Rg:=[iM 40 12,iC 41 .lss 40 0,iM 42 41,gM 43 12 42 false,gF 44 4 4 42 false,gL 45 44 42 false,gN 46 45 42 false,gB 47 .geq 43 46 42 false,iQ 48 42 47,iM 49 48,gM 50 9 49 false,gM 51 12 49 false,gK2 52 254 50 51 49 false,iQ 53 49 52]
def vE:Rg:=[iT 8 false]
def ahK:Rg:=[iM 54 9,iM 55 12,iA 56 (.bIK true 1 1 [(.int .i64 0)] [(0,(Tm 55))]),iA 57 (.append 1 8 (Tm 54) (Tm 56)),iM 9 57]
def ahL:Rg:=[iM 31 11,iC 32 .add 31 1,iM 11 32]
def ahI:aC:=(.seq (sq auN (.cond (Tm 30) .skip (.exit 2))) (.seq (.block 3 (sq auO (.seq (sq auP (.cond (Tm 53) (sq vE .ret) .skip)) (.region ahK)))) (.region ahL)))
def ahM:Rd:=[(iM 58 3,false),(iM 59 10,false),(iX 60 1 58 59,false),(iL 61 60,false),(iN 62 61,false),(iC 63 .eql 62 0,false),(iM 64 63,false),(gO 65 7 4 64 false,false),(gM 66 1 64 false,false),(gM 67 2 64 false,false),(gM 68 3 64 false,false),(gM 69 10 64 false,false),(iG 70 (.bIZ 1 (Tm 68) (Tm 69)) 64 false,false),(gL 71 70 64 false,false),(iG 72 (.call 255 [(Tm 65),(Tm 66),(Tm 67),(Tm 71)]) 64 false,true),(iG 73 (.un .not (Tm 72)) 64 false,false),(iQ 74 64 73,false)]
def JH:Rg:=[iT 8 false]
def ahN:Rg:=[iM 22 10,iC 23 .add 22 1,iM 10 23]
def ahJ:aC:=(.seq (sq auL (.cond (Tm 21) .skip (.exit 0))) (.seq (.block 1 (.seq (sq auM (.block 2 (.loop ahI))) (dq ahM (.cond (Tm 74) (sq JH .ret) .skip)))) (.region ahN)))
def JI:Rg:=[iM 75 9,iN 76 75,iF 77 4 4,iL 78 77,iN 79 78,iB 80 .eql 76 79,iM 8 80]
def BS:aC:=(sq auG (.seq (sq auH (.cond (Tm 17) (sq auI .ret) .skip)) (sq auJ (.seq (sq auK (.block 0 (.loop ahJ))) (sq JI .ret)))))
def bcR:List Nat:=[4,56]
def QU:aW:=⟨4,81,BS,[.tmp 8]⟩
def bhY:Rg:=[iT 4 false]
def bhZ:Rg:=[iM 7 0,iN 8 7,iM 9 1,iN 10 9,iB 11 .neq 8 10]
def biA:Rg:=[iT 4 false]
def biB:Rg:=[iI 5 0]
def biC:Rg:=[iM 12 5,iM 13 0,iN 14 13,iB 15 .lss 12 14]
def biD:Rd:=[(iM 18 0,false),(iM 19 5,false),(iX 20 1 18 19,false),(iL 21 20,false),(iN 22 21,false),(iM 23 1,false),(iM 24 5,false),(iX 25 1 23 24,false),(iL 26 25,false),(iN 27 26,false),(iB 28 .neq 22 27,false)]
def biE:Rg:=[iT 4 false]
def biF:Rg:=[iI 6 0]
def biG:Rg:=[iM 29 6,iM 30 0,iM 31 5,iX 32 1 30 31,iL 33 32,iN 34 33,iB 35 .lss 29 34]
def biH:Rd:=[(iM 38 0,false),(iM 39 5,false),(iX 40 1 38 39,false),(iL 41 40,false),(iM 42 6,false),(iX 43 1 41 42,false),(iL 44 43,false),(iM 45 1,false),(iM 46 5,false),(iX 47 1 45 46,false),(iL 48 47,false),(iM 49 6,false),(iX 50 1 48 49,false),(iL 51 50,false),(iB 52 .neq 44 51,false)]
def baQ:Rg:=[iT 4 false]
def baR:Rg:=[iM 36 6,iC 37 .add 36 1,iM 6 37]
def baO:aC:=(.seq (sq biG (.cond (Tm 35) .skip (.exit 2))) (.seq (.block 3 (dq biH (.cond (Tm 52) (sq baQ .ret) .skip))) (.region baR)))
def baS:Rg:=[iM 16 5,iC 17 .add 16 1,iM 5 17]
def baP:aC:=(.seq (sq biC (.cond (Tm 15) .skip (.exit 0))) (.seq (.block 1 (.seq (dq biD (.cond (Tm 28) (sq biE .ret) .skip)) (sq biF (.block 2 (.loop baO))))) (.region baS)))
def baT:Rg:=[iT 4 true]
def a3Y:aC:=(sq bhY (.seq (sq bhZ (.cond (Tm 11) (sq biA .ret) .skip)) (.seq (sq biB (.block 0 (.loop baP))) (sq baT .ret))))
def biI:List Nat:=[]
def a3X:aW:=⟨2,53,a3Y,[.tmp 4]⟩
def arL:Rg:=[iZ 2]
def arM:Rg:=[iM 3 0,iA 4 (.isNil false (Tm 3))]
def a9X:Rg:=[iZ 2]
def arN:Rg:=[iA 5 (.bIK false 1 0 [(.int .i64 0)] []),iM 6 0,iA 7 (.append 1 8 (Tm 5) (Tm 6)),iM 2 7]
def AU:aC:=(sq arL (.seq (sq arM (.cond (Tm 4) (sq a9X .ret) .skip)) (sq arN .ret)))
def a9Y:List Nat:=[]
def OO:aW:=⟨1,8,AU,[.tmp 2]⟩
def aOS:Rg:=[iZ 4]
def aOT:Rg:=[iZ 5]
def aOU:Rg:=[iI 6 0]
def aOV:Rg:=[iM 7 6,iM 8 0,iN 9 8,iB 10 .lss 7 9]
def aOW:Rg:=[iM 13 0,iM 14 6,iX 15 1 13 14,iL 16 15,iM 17 1,iB 18 .neq 16 17]
def aOX:Rg:=[iM 19 5,iM 20 0,iM 21 6,iX 22 1 20 21,iL 23 22,iA 24 (.bIK true 1 1 [(.int .i64 0)] [(0,(Tm 23))]),iA 25 (.append 1 8 (Tm 19) (Tm 24)),iM 5 25]
def aOY:Rg:=[iM 11 6,iC 12 .add 11 1,iM 6 12]
def aOR:aC:=(.seq (sq aOV (.cond (Tm 10) .skip (.exit 0))) (.seq (.block 1 (sq aOW (.cond (Tm 18) (.region aOX) .skip))) (.region aOY)))
def aOZ:Rg:=[iM 26 5,iM 4 26]
def axI:aC:=(sq aOS (sq aOT (.seq (sq aOU (.block 0 (.loop aOR))) (sq aOZ .ret))))
def aPA:List Nat:=[24]
def XO:aW:=⟨2,27,axI,[.tmp 4]⟩
def aqB:Rg:=[iT 4 false]
def aqC:Rg:=[iM 14 0,iK 15 249 14,iM 13 15,iE 16 13 0,iE 17 13 1,iA 5 (.alloc [(.int .i64 0),.aB,.aB,.aB,.aB,.aB,.aB,.aB,.aB]),iS 9 5 16,iM 6 17]
def aqD:Rg:=[iM 18 1,iA 19 (.call 24 [(Tm 18),(Ci 2)]),iM 7 19]
def aqE:Rg:=[iF 21 0 5,iO 22 7 21,iF 23 7 5,iL 24 23,iM 25 7,iA 26 (.call 263 [(Tm 22),(Tm 24),(Tm 25)]),iM 20 26,iE 27 20 0,iE 28 20 1,iM 8 27,iM 9 28]
def NI:Rg:=[iM 29 9,iC 30 .neq 29 0]
def aqF:Rg:=[iA 31 (.call 26 []),iM 32 31,gM 33 9 32 true,gC 34 .eql 33 116 32 true,iP 35 32 34,iM 36 35,gM 37 8 36 true,gN 38 37 36 true,gC 39 .eql 38 0 36 true,iP 40 36 39,iM 4 40]
def aqG:Rg:=[iF 42 0 5,iO 43 7 42,iF 44 7 5,iL 45 44,iM 46 7,iA 47 (.call 264 [(Tm 43),(Tm 45),(Tm 46)]),iM 41 47,iE 48 41 0,iE 49 41 1,iM 10 48,iM 11 49]
def aqH:Rg:=[iM 50 11,iC 51 .neq 50 0,iM 52 51,gM 53 8 52 false,gN 54 53 52 false,gM 55 10 52 false,gB 56 .lss 54 55 52 false,iQ 57 52 56,iM 58 57,gF 59 0 5 58 false,gO 60 7 59 58 false,gF 61 7 5 58 false,gL 62 61 58 false,gM 63 7 58 false,gM 64 8 58 false,iG 65 (.call 265 [(Tm 60),(Tm 62),(Tm 63),(Tm 64)]) 58 false,iG 66 (.un .not (Tm 65)) 58 false,iQ 67 58 66,iM 68 67,gF 69 0 5 68 false,gO 70 7 69 68 false,gF 71 7 5 68 false,gL 72 71 68 false,gM 73 7 68 false,gM 74 8 68 false,iG 75 (.call 269 [(Tm 70),(Tm 72),(Tm 73),(Tm 74)]) 68 false,iG 76 (.un .not (Tm 75)) 68 false,iQ 77 68 76]
def a8R:Rg:=[iT 4 false]
def aqI:Rg:=[iI 12 0]
def adI:Rg:=[iM 78 12,iM 79 8,iN 80 79,iB 81 .lss 78 80]
def adJ:Rd:=[(iF 84 0 5,false),(iO 85 7 84,false),(iF 86 7 5,false),(iL 87 86,false),(iM 88 7,false),(iM 89 8,false),(iM 90 12,false),(iX 91 1 89 90,false),(iL 92 91,false),(iA 93 (.call 252 [(Tm 85),(Tm 87),(Tm 88),(Tm 92)]),true),(iA 94 (.un .not (Tm 93)),false)]
def a2O:Rg:=[iT 4 false]
def adK:Rg:=[iM 82 12,iC 83 .add 82 1,iM 12 83]
def adH:aC:=(.seq (sq adI (.cond (Tm 81) .skip (.exit 0))) (.seq (.block 1 (dq adJ (.cond (Tm 94) (sq a2O .ret) .skip))) (.region adK)))
def adL:Rg:=[iA 95 (.call 26 []),iM 4 95]
def AC:aC:=(sq aqB (sq aqC (sq aqD (sq aqE (.seq (sq NI (.cond (Tm 30) (sq aqF .ret) .skip)) (sq aqG (.seq (sq aqH (.cond (Tm 77) (sq a8R .ret) .skip)) (.seq (sq aqI (.block 0 (.loop adH))) (sq adL .ret)))))))))
def a8S:List Nat:=[]
def NH:aW:=⟨2,96,AC,[.tmp 4]⟩
open Go Go.Na
structure RZ (C:Ctx) (us ft:Nat):Prop where
 usable:∀ (f:aH) (now:List (List Int)) (r:Int),f.Ok→eX now→aE C us [.agg f.cells,lay now,.int .i64 r] .nil (aD (.bool (dQ f now r)))
 fits:∀ (f:aH) (now:List (List Int)) (r:Int) (down:List Int),dQ f now r=true→eX now→down.length≤1000000000000000→aE C ft [.agg f.cells,lay now,.int .i64 r,ints down] .nil (aD (.bool (eY f now r down)))
theorem bdJ {C:Ctx} (Lb:RZ C 250 251) (f:aH) (hf:f.Ok) (now:List (List Int)) (hl:eX now) (r:Int) :
  BY.wp C (aT RA.res (aD (.int .i64 (jG f now r)))) (PF.args [.agg f.cells,lay now,.int .i64 r]) .nil:=by
 have hE:jG f now r=if dQ f now r then (if mH f now r then 0 else 116) else 1:=rfl
 simp only[go_sem,γ,δ,ε,ζ,η,θ,ι,κ,μ,ν,ξ,ο,ρ,σ,τ,υ,reduceIte,reduceCtorEq,BY,avF,avG,RA]
 refine aA (Lb.usable f now r hf hl) Ev ?_
 cases hu:dQ f now r with
 | false =>
  rw[hu] at hE
  simp only[go_sem,γ,δ,ε,ζ,η,θ,ι,κ,μ,ν,ξ,ο,ρ,σ,τ,υ,reduceIte,reduceCtorEq,avH]
  refine aL (.inr rfl) Ev ?_
  rw[aV,hE]; rfl
 | true =>
  rw[hu,if_pos rfl] at hE
  have hV:=VF.of (jI hu).1
  have hd:=hV.small.bIE
  simp only[go_sem,γ,δ,ε,ζ,η,θ,ι,κ,μ,ν,ξ,ο,ρ,σ,τ,υ,reduceIte,reduceCtorEq,avI,bKI]
  refine wp_loop (α:=Nat) (fun k=>(((((PF.nil.set 1 (lay now)).set 2 (.int .i64 r)).set 3 (.bH f.cells)).set 15 (.int .i64 (f.bIE.length:Nat))).set 16 (.int .i64 k))) (fun _=>.nil) (fun k=>k≤f.bIE.length∧CO f now r k=true) (fun k=>f.bIE.length-k) 0 ⟨bKT _,rfl⟩ Lq PH.nil_le ?_
  rintro k ⟨hk,hok⟩
  simp only[go_sem,γ,δ,ε,ζ,η,θ,ι,κ,μ,ν,ξ,ο,ρ,σ,τ,υ,reduceIte,reduceCtorEq,avE,avJ]
  by_cases hlt:k<f.bIE.length
  ·have bIL:(k:Int)<(f.bIE.length:Nat):=by omega
   have hs:=aOF f now r k
   rw[hok,bKS] at hs
   simp only[go_sem,γ,δ,ε,ζ,η,θ,ι,κ,μ,ν,ξ,ο,ρ,σ,τ,υ,reduceIte,reduceCtorEq,bIL,avK,avL]
   refine aA (Lb.fits f now r [(k:Int)] hu hl (by simp)) Ev ?_
   cases bJT:eY f now r [(k:Int)] with
   | false =>
    simp only[go_sem,γ,δ,ε,ζ,η,θ,ι,κ,μ,ν,ξ,ο,ρ,σ,τ,υ,reduceIte,reduceCtorEq,avM]
    refine aL (.inr rfl) Ev ?_
    rw[aV,hE]
    have:=a6S hlt bJT
    rw[show mH f now r=false from this]; rfl
   | true =>
    rw[bJT] at hs
    simp only[go_sem,γ,δ,ε,ζ,η,θ,ι,κ,μ,ν,ξ,ο,ρ,σ,τ,υ,reduceIte,reduceCtorEq,avN,wZz k]
    exact aI (k+1) ⟨hlt,hs⟩ Om Lq PH.nil_le
  ·have bIL:¬ (k:Int)<(f.bIE.length:Nat):=by omega
   have:k=f.bIE.length:=by omega
   subst this
   simp only[go_sem,γ,δ,ε,ζ,η,θ,ι,κ,μ,ν,ξ,ο,ρ,σ,τ,υ,reduceIte,reduceCtorEq,bIL,aiC]
   refine aL (.inr rfl) Ev ?_
   rw[aV,hE,show mH f now r=true from hok]; rfl
def a4L (a b:Int):PV:=.tup [.int .i64 a,.int .i64 b]
theorem bdH {C:Ctx} (f:aH) (now:List (List Int)) (hl:eX now) (r:Int) (hc:aE C 262 [.agg f.cells,lay now,.int .i64 r] .nil (aD (.int .i64 (jG f now r)))) :
  BW.wp C (aT QY.res (aD (a4L (sZ f now r) (jG f now r)))) (PF.args [.agg f.cells,lay now,.int .i64 r]) .nil:=by
 have hB:sZ f now r=if jG f now r=0 then fS f now r now.length else 0:=rfl
 simp only[go_sem,γ,δ,ε,ζ,η,θ,ι,κ,μ,ν,ξ,ο,ρ,σ,τ,υ,reduceIte,reduceCtorEq,BW,auV,auW,QY]
 refine aA hc Ev ?_
 by_cases c:jG f now r≠0
 ·rw[if_neg c] at hB
  simp only[go_sem,γ,δ,ε,ζ,η,θ,ι,κ,μ,ν,ξ,ο,ρ,σ,τ,υ,reduceIte,reduceCtorEq,QZ,cQ c,auX]
  refine aL (.inr rfl) Ev ?_
  rw[hB]; rfl
 have c:jG f now r=0:=Decidable.not_not.1 c
 obtain⟨hu,ha⟩:=yC c
 rw[if_pos c] at hB
 rw[hB,c]
 have hV:=VF.of (jI hu).1
 have hd:=hV.small.bIE
 have hrows:=hl.rows
 have hvl:=(jI hu).2.1
 obtain⟨-,-,h0,h4⟩:=jI hu
 simp only[go_sem,γ,δ,ε,ζ,η,θ,ι,κ,μ,ν,ξ,ο,ρ,σ,τ,υ,reduceIte,reduceCtorEq,QZ,cA (show (0:Int)=0 from rfl),auY,auZ,bKI]
 refine wp_loop (α:=Nat) (fun v=>((((((PF.nil.set 2 (.int .i64 r)).set 3 (.bH f.cells)).set 9 (.int .i64 (fS f now r v))).set 29 (lay now)).set 30 (.int .i64 (now.length:Nat))).set 31 (.int .i64 v))) (fun _=>.nil) (fun v=>v≤now.length) (fun v=>now.length-v) 0 (bKT _) ?_ PH.nil_le ?_
 ·have:fS f now r 0=if (1:Int)<(f.bIE.length:Nat) then 1 else ((f.bIE.length:Nat):Int):=by
   unfold fS; split<;>omega
  (repeat' (first|exact PF.nil_le|refine PF.aK ?_ ?_))<;>first|(simp only[go_sem,γ,δ,ε,ζ,η,θ,ι,κ,μ,ν,ξ,ο,ρ,σ,τ,υ,reduceIte,reduceCtorEq,this,bKI]<;>rfl)|rfl
 intro v hv
 simp only[go_sem,γ,δ,ε,ζ,η,θ,ι,κ,μ,ν,ξ,ο,ρ,σ,τ,υ,reduceIte,reduceCtorEq,ahS,avA]
 by_cases hlt:v<now.length
 ·have bIL:(v:Int)<(now.length:Nat):=by omega
  have hat:(now.map fun r=>[ints r])[v]?=some [ints now[v]]:=by simp[hlt]
  have hgd:now.getD v []=now[v]:=by simp[bLC,hlt]
  have hv2:v<f.bIG.length:=by omega
  obtain⟨hp,he⟩:=nH hV hv2
  have u:=vC hu hlt
  have hskip:=TE (f:=f) (now:=now) (r:=r) (v:=v)
  have hgo:=anP (f:=f) (now:=now) (r:=r) (v:=v)
  have hpos:=aAO hu ha hlt
  have hbl:=EG hu ha (v+1) hlt
  have hbl0:=EG hu ha v Om
  have hbn:=pA f now r v
  have hbn1:=pA f now r (v+1)
  rw[hgd] at u hskip hgo hpos
  generalize now[v]=row at *
  simp only[go_sem,γ,δ,ε,ζ,η,θ,ι,κ,μ,ν,ξ,ο,ρ,σ,τ,υ,reduceIte,reduceCtorEq,bIL,avB,hat,avC]
  refine aQ fun o ho=>?_
  simp only[go_sem,γ,δ,ε,ζ,η,θ,ι,κ,μ,ν,ξ,ο,ρ,σ,τ,υ,reduceIte,reduceCtorEq,avD,ahT,bKI]
  refine wp_loop (α:=Nat) (fun k=>((((((((((((PF.nil.set 2 (.int .i64 r)).set 3 (.bH f.cells)).set 9 (.int .i64 (fS f now r v))).set 10 (.int .i64 v)).set 12 (.map o)).set 13 (.int .i64 ((bR (row.take k)).length:Nat))).set 29 (lay now)).set 30 (.int .i64 (now.length:Nat))).set 31 (.int .i64 v)).set 37 (ints row)).set 38 (.int .i64 (row.length:Nat))).set 39 (.int .i64 k)))
   (fun k=>PH.nil.set o (.map (false,[.int .i64]) (yU (bR (row.take k))))) (fun k=>k≤row.length) (fun k=>row.length-k) 0 (bKT _) (by (repeat' (first|exact PF.nil_le|refine PF.aK ?_ ?_))<;>first|(simp only[go_sem,γ,δ,ε,ζ,η,θ,ι,κ,μ,ν,ξ,ο,ρ,σ,τ,υ,reduceIte,reduceCtorEq,List.take_zero,bKI]<;>rfl)|rfl) ?_ ?_
  ·rw[List.take_zero,show bR []=[] from rfl,baX]; exact PH.le_refl
  intro k hk
  have hkl:=acZ (row.take k)
  rw[bLB] at hkl
  simp only[go_sem,γ,δ,ε,ζ,η,θ,ι,κ,μ,ν,ξ,ο,ρ,σ,τ,υ,reduceIte,reduceCtorEq,ahR,ahU]
  by_cases klt:k<row.length
  ·have klt':(k:Int)<(row.length:Nat):=by omega
   have hra:(row.map fun n=>[PV.int .i64 n])[k]?=some [.int .i64 row[k]]:=by simp[klt]
   have hs:=aOP klt
   by_cases cg:0≤row[k]
   ·rw[if_pos cg] at hs
    have hlen:(bR (row.take (k+1))).length=(bR (row.take k)).length+1:=by rw[hs,bKQ]; rfl
    simp only[go_sem,γ,δ,ε,ζ,η,θ,ι,κ,μ,ν,ξ,ο,ρ,σ,τ,υ,reduceIte,reduceCtorEq,klt',JM,hra,JN,show row[k]≥0 from cg,ahV,baY,ahW,dC (Om:(bR (row.take k)).length<9223372036854775807),JO,wZz k]
    refine aI (k+1) klt Om (by (repeat' (first|exact PF.nil_le|refine PF.aK ?_ ?_))<;>first|(simp only[go_sem,γ,δ,ε,ζ,η,θ,ι,κ,μ,ν,ξ,ο,ρ,σ,τ,υ,reduceIte,reduceCtorEq,hlen]<;>rfl)|rfl) ?_
    rw[hs]
    exact PH.aK PH.nil_le Sq
   ·rw[if_neg cg,bMF] at hs
    simp only[go_sem,γ,δ,ε,ζ,η,θ,ι,κ,μ,ν,ξ,ο,ρ,σ,τ,υ,reduceIte,reduceCtorEq,klt',JM,hra,JN,show ¬ row[k]≥0 from cg,JO,wZz k]
    refine aI (k+1) klt Om (by (repeat' (first|exact PF.nil_le|refine PF.aK ?_ ?_))<;>first|(simp only[go_sem,γ,δ,ε,ζ,η,θ,ι,κ,μ,ν,ξ,ο,ρ,σ,τ,υ,reduceIte,reduceCtorEq,hs]<;>rfl)|rfl) ?_
    rw[hs]
    exact PH.le_refl
  ·have klt':¬ (k:Int)<(row.length:Nat):=by omega
   have:k=row.length:=by omega
   subst this
   rw[bLG] at hkl
   have hfull:=agO (bR row)
   have hzero:=a4R (bR row)
   have hule:=YW (bR row)
   simp only[go_sem,γ,δ,ε,ζ,η,θ,ι,κ,μ,ν,ξ,ο,ρ,σ,τ,υ,reduceIte,reduceCtorEq,klt',bLG,ahX,a4B,ahY]
   by_cases cz:(jV (bR row)).length=0
   ·have hn:¬ ((bR row).Nodup∧bR row≠[]):=fun h=>h.2 (hzero.1 cz)
    simp only[go_sem,γ,δ,ε,ζ,η,θ,ι,κ,μ,ν,ξ,ο,ρ,σ,τ,υ,reduceIte,reduceCtorEq,bT (show (((jV (bR row)).length:Nat):Int)=0 by omega),vF,wZz v]
    exact aI (v+1) hlt Om (by (repeat' (first|exact PF.nil_le|refine PF.aK ?_ ?_))<;>first|(simp only[go_sem,γ,δ,ε,ζ,η,θ,ι,κ,μ,ν,ξ,ο,ρ,σ,τ,υ,reduceIte,reduceCtorEq,hskip hn]<;>rfl)|rfl) PH.nil_le
   ·simp only[go_sem,γ,δ,ε,ζ,η,θ,ι,κ,μ,ν,ξ,ο,ρ,σ,τ,υ,reduceIte,reduceCtorEq,bF (show (((jV (bR row)).length:Nat):Int)≠0 by omega)]
    by_cases cn:(jV (bR row)).length=(bR row).length
    ·have hy:(bR row).Nodup∧bR row≠[]:=⟨hfull.1 cn,fun e=>cz (hzero.2 e)⟩
     have h1:=hpos hy
     have h2:=hgo hy rfl rfl
     obtain⟨u1,-,u3,u4,u5,u6⟩:=u
     rw[cn]
     have w1:IntKind.i64.wrap ((((bR row).length:Nat):Int)-(dB f v).k)=(((bR row).length:Nat):Int)-(dB f v).k:=wrap_i64 Om Om
     have w2:IntKind.i64.wrap ((((bR row).length:Nat):Int)-(dB f v).k-r)=(((bR row).length:Nat):Int)-(dB f v).k-r:=wrap_i64 Om Om
     simp only[go_sem,γ,δ,ε,ζ,η,θ,ι,κ,μ,ν,ξ,ο,ρ,σ,τ,υ,reduceIte,reduceCtorEq,cA (show (((bR row).length:Nat):Int)=((bR row).length:Nat) from rfl)]
     refine bS .nil eC PH.nil_le ?_
     simp only[go_sem,γ,δ,ε,ζ,η,θ,ι,κ,μ,ν,ξ,ο,ρ,σ,τ,υ,reduceIte,reduceCtorEq,ahZ,rI hv2,hV.OW hv2,mN hp,he,w1,w2]
     have he10:(((bR row).length:Nat):Int)-(dB f v).k-r≤10:=by omega
     generalize (((bR row).length:Nat):Int)-(dB f v).k-r=e at *
     have w3:IntKind.i64.wrap ((((bR row).length:Nat):Int)+e)=(((bR row).length:Nat):Int)+e:=wrap_i64 Om Om
     have w4:IntKind.i64.wrap ((((bR row).length:Nat):Int)+e-1)=(((bR row).length:Nat):Int)+e-1:=wrap_i64 Om Om
     have he0:¬ e=0:=by omega
     have hq0:0≤bME ((((bR row).length:Nat):Int)+e-1) e:=Int.tdiv_nonneg Om Om
     have w5:IntKind.i64.wrap (bME ((((bR row).length:Nat):Int)+e-1) e)=bME ((((bR row).length:Nat):Int)+e-1) e:=wrap_i64 Om (by
      have:bME ((((bR row).length:Nat):Int)+e-1) e≤100:=by
       rw[h2] at hbl; split at hbl<;>omega
      omega)
     simp only[go_sem,γ,δ,ε,ζ,η,θ,ι,κ,μ,ν,ξ,ο,ρ,σ,τ,υ,reduceIte,reduceCtorEq,aiA,w3,w4,he0,w5,vF,wZz v]
     exact aI (v+1) hlt Om (by (repeat' (first|exact PF.nil_le|refine PF.aK ?_ ?_))<;>first|(simp only[go_sem,γ,δ,ε,ζ,η,θ,ι,κ,μ,ν,ξ,ο,ρ,σ,τ,υ,reduceIte,reduceCtorEq,h2]<;>rfl)|rfl) PH.nil_le
    ·have hn:¬ ((bR row).Nodup∧bR row≠[]):=fun h=>cn (hfull.2 h.1)
     simp only[go_sem,γ,δ,ε,ζ,η,θ,ι,κ,μ,ν,ξ,ο,ρ,σ,τ,υ,reduceIte,reduceCtorEq,cQ (show (((jV (bR row)).length:Nat):Int)≠((bR row).length:Nat) by omega),vF,wZz v]
     exact aI (v+1) hlt Om (by (repeat' (first|exact PF.nil_le|refine PF.aK ?_ ?_))<;>first|(simp only[go_sem,γ,δ,ε,ζ,η,θ,ι,κ,μ,ν,ξ,ο,ρ,σ,τ,υ,reduceIte,reduceCtorEq,hskip hn]<;>rfl)|rfl) PH.nil_le
 ·have bIL:¬ (v:Int)<(now.length:Nat):=by omega
  have:v=now.length:=by omega
  subst this
  simp only[go_sem,γ,δ,ε,ζ,η,θ,ι,κ,μ,ν,ξ,ο,ρ,σ,τ,υ,reduceIte,reduceCtorEq,bIL,aiB]
  refine aL (.inr rfl) Ev ?_
  rfl
def aAG:Rg:=[iI 4 0]
def aAH:Rg:=[iM 7 0,iA 8 (.bIT (Tm 7)),iF 9 1 8,iL 10 9,iC 11 .rem 10 3,iM 5 11]
def aAI:Rd:=[(iM 12 0,false),(iA 13 (.bIT (Tm 12)),false),(iF 14 1 13,false),(iL 15 14,false),(iM 16 0,false),(iA 17 (.bIT (Tm 16)),false),(iF 18 0 17,false),(iL 19 18,false),(iN 20 19,false),(iB 21 .lss 15 20,false)]
def aAJ:Rd:=[(iM 22 0,false),(iA 23 (.bIT (Tm 22)),false),(iF 24 0 23,false),(iL 25 24,false),(iM 26 0,false),(iA 27 (.bIT (Tm 26)),false),(iF 28 1 27,false),(iL 29 28,false),(iX 30 1 25 29,false),(iL 31 30,false),(iM 5 31,false)]
def WH:Rg:=[iM 32 0,iA 33 (.bIT (Tm 32)),iF 34 1 33,iL 35 34,iC 36 .add 35 1,iA 37 (.bIT (Tm 32)),iF 38 1 37,iS 1 38 36]
def WI:Rg:=[iM 39 1,iC 40 .lss 39 1]
def WJ:Rg:=[iI 4 0]
def WK:Rg:=[iM 41 5,iM 42 1,iB 43 .rem 41 42,iM 6 43]
def WL:Rg:=[iM 44 6,iC 45 .lss 44 0]
def WM:Rg:=[iM 46 6,iM 47 1,iB 48 .add 46 47,iM 4 48]
def LW:Rg:=[iM 49 6,iM 4 49]
def FN:aC:=(sq aAG (sq aAH (.seq (dq aAI (.cond (Tm 21) (.draw aAJ) .skip)) (sq WH (.seq (sq WI (.cond (Tm 40) (sq WJ .ret) .skip)) (sq WK (.seq (sq WL (.cond (Tm 45) (sq WM .ret) .skip)) (sq LW .ret))))))))
def bfF:List Nat:=[]
def FL:aW:=⟨2,50,FN,[.tmp 4]⟩
def azT:Rg:=[iA 4 (.alloc [(.bool false),.aB,.aB])]
def azU:Rg:=[iM 8 0,iM 9 1,iK2 10 50 8 9,iM 7 10,iE 11 7 0,iE 12 7 1,iA 5 (.alloc [(.bool false),.aB,.aB]),iS 3 5 11,iM 6 12]
def azV:Rg:=[iO 13 3 5,iS 3 4 13]
def FH:aC:=(sq azT (sq azU (sq azV .ret)))
def beW:List Nat:=[]
def abF:aW:=⟨2,14,FH,[.cell 4 (some 3)]⟩
def aAE:Rg:=[iA 4 (.mv (.const (.str [])))]
def aAF:Rg:=[iM 5 0,iM 6 1,iC 7 .quo 6 26,iC 8 .rem 7 26,iA 9 (.bin .add (Ci 97) (Tm 8)),iA 10 (.conv .u8 (Tm 9)),iM 11 1,iC 12 .rem 11 26,iA 13 (.bin .add (Ci 97) (Tm 12)),iA 14 (.conv .u8 (Tm 13)),iA 15 (.bIK true 1 3 [(.int .u8 0)] [(0,(Tm 5)),(1,(Tm 10)),(2,(Tm 14))]),iA 16 (.bIU (Tm 15)),iM 4 16]
def FK:aC:=(sq aAE (sq aAF .ret))
def bfD:List Nat:=[15]
def abR:aW:=⟨2,17,FK,[.tmp 4]⟩
def aQJ:Rg:=[iI 8 0]
def aQK:Rg:=[iM 10 0,iA 11 (.bIT (Tm 10)),iF 12 3 11,iL 13 12,iN 14 13,iM 9 14]
def aQL:Rd:=[(iM 15 0,true),(iM 16 0,true),(iA 17 (.bIT (Tm 16)),true),(iF 18 3 17,true),(iL 19 18,true),(iM 20 9,false),(iA 21 (.call 242 [(.const (.int .u8 110)),(Tm 20)]),true),(iM 22 1,true),(iM 23 2,true),(iM 24 3,true),(iA 25 (.call 241 [(Ci 0),(Ci 1)]),true),(iA 26 (.build [(.str []),(.int .i64 0),(.int .i64 0),(.int .i64 0),(.bool false),.aB,.aB] [(0,1,(Tm 21)),(1,1,(Tm 22)),(2,1,(Tm 23)),(3,1,(Tm 24)),(4,3,(Tm 25))]),false),(iA 27 (.bIK true 7 1 [(.str []),(.int .i64 0),(.int .i64 0),(.int .i64 0),(.bool false),.aB,.aB] [(0,(Tm 26))]),false),(iA 28 (.append 7 96 (Tm 19) (Tm 27)),true),(iA 29 (.bIT (Tm 15)),false),(iF 30 3 29,false)]
def aQM:Rd:=[(iS 1 30 28,true)]
def aQN:Rg:=[iM 31 9,iM 8 31]
def LQ:aC:=(sq aQJ (sq aQK (.seq (dq aQL (.draw aQM)) (sq aQN .ret))))
def blT:List Nat:=[27]
def azR:aW:=⟨4,32,LQ,[.tmp 8]⟩
def aoB:Rg:=[iA 4 (.alloc [(.int .i64 0),.aB,.aB,.aB,.aB,.aB,.aB])]
def aoC:Rg:=[iM 20 0,iA 21 (.call 240 [(Tm 20),(Ci 2)]),iA 22 (.bin .add (Ci 1) (Tm 21)),iA 23 (.build [(.int .i64 0),.aB,.aB,.aB,.aB,.aB,.aB] [(0,1,(Tm 22))]),iA 5 (.alloc [(.int .i64 0),.aB,.aB,.aB,.aB,.aB,.aB]),iS 7 5 23]
def aoD:Rg:=[iA 24 (.call 241 [(Ci 1),(Ci 1)]),iA 25 (.bIK true 3 1 [(.bool false),.aB,.aB] [(0,(Tm 24))]),iA 26 (.call 241 [(Ci 0),(Ci 1)]),iA 27 (.bIK true 3 1 [(.bool false),.aB,.aB] [(0,(Tm 26))]),iA 28 (.bIK true 1 1 [.aB] [(0,(Tm 27))]),iM 29 0,iA 30 (.call 240 [(Tm 29),(Ci 100)]),iA 31 (.bin .add (Ci 100) (Tm 30)),iA 32 (.call 241 [(Ci 1),(Tm 31)]),iA 33 (.bIK true 3 1 [(.bool false),.aB,.aB] [(0,(Tm 32))]),iA 34 (.build [(.str []),.aB,.aB,.aB] [(0,1,(.const (.str [100,105,115,107]))),(1,1,(Tm 25)),(2,1,(Tm 28)),(3,1,(Tm 33))]),iA 35 (.bIK true 4 1 [(.str []),.aB,.aB,.aB] [(0,(Tm 34))]),iF 36 1 5,iS 1 36 35]
def aoE:Rg:=[iM 37 0,iA 38 (.call 240 [(Tm 37),(Ci 2)]),iA 39 (.bin .add (Ci 3) (Tm 38)),iM 40 0,iA 41 (.call 240 [(Tm 40),(Ci 9)]),iA 42 (.bin .add (Ci 8) (Tm 41)),iA 43 (.build [(.str []),(.int .i64 0),(.int .i64 0),(.int .i64 0)] [(0,1,(.const (.str [98,105,103]))),(1,1,(Tm 39)),(2,1,(Tm 42)),(3,1,(Ci 0))]),iM 44 0,iA 45 (.call 240 [(Tm 44),(Ci 3)]),iA 46 (.bin .add (Ci 1) (Tm 45)),iM 47 0,iA 48 (.call 240 [(Tm 47),(Ci 9)]),iA 49 (.bin .add (Ci 4) (Tm 48)),iA 50 (.build [(.str []),(.int .i64 0),(.int .i64 0),(.int .i64 0)] [(0,1,(.const (.str [111,108,100]))),(1,1,(Tm 46)),(2,1,(Tm 49)),(3,1,(Ci 0))]),iA 51 (.bIK true 4 2 [(.str []),(.int .i64 0),(.int .i64 0),(.int .i64 0)] [(0,(Tm 43)),(1,(Tm 50))]),iF 52 2 5,iS 1 52 51]
def aoF:Rg:=[iA 53 (.call 241 [(Ci 0),(Ci 1)]),iA 54 (.build [(.str []),(.int .i64 0),(.int .i64 0),(.int .i64 0),(.bool false),.aB,.aB] [(2,1,(Ci (-1))),(4,3,(Tm 53))]),iA 55 (.bIK false 7 1 [(.str []),(.int .i64 0),(.int .i64 0),(.int .i64 0),(.bool false),.aB,.aB] [(0,(Tm 54))]),iF 56 3 5,iS 1 56 55]
def aoG:Rg:=[iM 57 0,iA 58 (.call 240 [(Tm 57),(Ci 3)]),iA 59 (.bin .add (Ci 3) (Tm 58)),iM 6 59]
def aoH:Rg:=[iI 7 0,iI 8 0,iI 9 0]
def aoI:Rg:=[iI 10 0]
def aoJ:Rg:=[iM 60 10,iM 61 6,iB 62 .lss 60 61]
def aoK:Rg:=[iM 65 10,iC 66 .eql 65 0,iM 67 66,gM 68 0 67 false,iG 69 (.call 240 [(Tm 68),(Ci 4)]) 67 false,gC 70 .eql 69 0 67 false,iQ 71 67 70]
def ES:Rg:=[iM 72 0,iA 73 (.call 240 [(Tm 72),(Ci 17)]),iA 74 (.bin .add (Ci 16) (Tm 73)),iA 75 (.call 243 [(Tm 5),(Ci 1),(Ci 0),(Tm 74)]),iM 7 75]
def ET:Rg:=[iM 76 7,iM 77 0,iA 78 (.call 240 [(Tm 77),(Ci 17)]),iA 79 (.bin .add (Ci 16) (Tm 78)),iA 80 (.call 243 [(Tm 5),(Ci 2),(Tm 76),(Tm 79)]),iM 8 80]
def EU:Rg:=[iM 81 8,iM 82 0,iA 83 (.call 240 [(Tm 82),(Ci 9)]),iA 84 (.bin .add (Ci 8) (Tm 83)),iA 85 (.call 243 [(Tm 5),(Ci 3),(Tm 81),(Tm 84)]),iM 9 85]
def aaK:Rg:=[iM 86 0,iA 87 (.call 240 [(Tm 86),(Ci 2)]),iC 88 .eql 87 0]
def aaL:Rg:=[iM 89 8,iM 90 0,iA 91 (.call 240 [(Tm 90),(Ci 9)]),iA 92 (.bin .add (Ci 8) (Tm 91)),iA 93 (.call 243 [(Tm 5),(Ci 3),(Tm 89),(Tm 92)]),iM 9 93]
def uI:Rg:=[iM 94 9,iM 95 0,iA 96 (.call 240 [(Tm 95),(Ci 9)]),iA 97 (.bin .add (Ci 8) (Tm 96)),iA 98 (.call 243 [(Tm 5),(Ci 4),(Tm 94),(Tm 97)]),iM 11 98]
def uJ:Rg:=[iM 99 0,iA 100 (.call 240 [(Tm 99),(Ci 2)]),iA 101 (.bin .add (Ci 1) (Tm 100)),iM 12 101]
def aaM:Rg:=[iM 102 12,iC 103 .gtr 102 0,iM 104 103,gF 105 4 5 104 true,gL 106 105 104 true,gN 107 106 104 true,gC 108 .lss 107 9 104 true,iP 109 104 108]
def aaN:Rg:=[iI 13 0]
def aaO:Rg:=[iM 112 0,iA 113 (.call 240 [(Tm 112),(Ci 4)]),iC 114 .eql 113 0]
def aaP:Rg:=[iI 13 1]
def EV:Rd:=[(iF 115 4 5,true),(iL 116 115,true),(iF 117 4 5,false),(iL 118 117,false),(iN 119 118,false),(iA 120 (.call 242 [(.const (.int .u8 100)),(Tm 119)]),true),(iM 121 13,true),(iM 122 11,true),(iA 123 (.build [(.str []),(.int .i64 0),(.int .i64 0)] [(0,1,(Tm 120)),(1,1,(Tm 121)),(2,1,(Tm 122))]),false),(iA 124 (.bIK true 3 1 [(.str []),(.int .i64 0),(.int .i64 0)] [(0,(Tm 123))]),false),(iA 125 (.append 3 32 (Tm 116) (Tm 124)),true),(iF 126 4 5,false)]
def EW:Rd:=[(iS 1 126 125,true)]
def EX:Rg:=[iM 110 12,iC 111 .sub 110 1,iM 12 111]
def qQ:aC:=(.seq (sq aaM (.cond (Tm 109) .skip (.exit 2))) (.seq (.block 3 (sq aaN (.seq (sq aaO (.cond (Tm 114) (.region aaP) .skip)) (dq EV (.draw EW))))) (.region EX)))
def EY:Rg:=[iM 63 10,iC 64 .add 63 1,iM 10 64]
def EO:aC:=(.seq (sq aoJ (.cond (Tm 62) .skip (.exit 0))) (.seq (.block 1 (.seq (sq aoK (.cond (Tm 71) (sq ES (sq ET (.region EU))) (sq aaK (.cond (Tm 88) (.region aaL) .skip)))) (sq uI (sq uJ (.block 2 (.loop qQ)))))) (.region EY)))
def aaQ:Rg:=[iM 127 0,iA 128 (.call 240 [(Tm 127),(Ci 2)]),iA 129 (.bin .add (Ci 1) (Tm 128)),iM 14 129]
def aaR:Rg:=[iM 130 14,iC 131 .gtr 130 0]
def EZ:Rg:=[iM 134 0,iA 135 (.call 240 [(Tm 134),(Ci 2)]),iA 136 (.bin .add (Ci 1) (Tm 135)),iM 15 136]
def FA:Rg:=[iM 137 0,iA 138 (.call 240 [(Tm 137),(Ci 3)]),iM 16 138]
def FB:Rg:=[iM 139 14,iA 140 (.call 242 [(.const (.int .u8 112)),(Tm 139)]),iM 141 15,iM 142 16,iM 143 15,iM 144 0,iM 145 16,iC 146 .add 145 1,iK2 147 240 144 146,iB 148 .add 143 147,iA 149 (.bIK true 1 2 [(.int .i64 0)] [(0,(Ci 0)),(1,(Ci 1))]),iA 150 (.call 241 [(Ci 1),(Ci 1000)]),iA 151 (.call 241 [(Ci 30),(Ci 1)]),iA 152 (.build [(.str []),(.int .i64 0),(.int .i64 0),(.int .i64 0),(.int .i64 0),(.int .i64 0),(.int .i64 0),(.int .i64 0),(.int .i64 0),.aB,.aB,(.bool false),.aB,.aB,(.bool false),.aB,.aB] [(0,1,(Tm 140)),(1,1,(Tm 141)),(2,1,(Tm 142)),(3,1,(Tm 148)),(9,1,(Tm 149)),(11,3,(Tm 150)),(14,3,(Tm 151))]),iA 17 (.alloc [(.str []),(.int .i64 0),(.int .i64 0),(.int .i64 0),(.int .i64 0),(.int .i64 0),(.int .i64 0),(.int .i64 0),(.int .i64 0),.aB,.aB,(.bool false),.aB,.aB,(.bool false),.aB,.aB]),iS 17 17 152]
def FC:Rg:=[iM 153 0,iA 154 (.call 240 [(Tm 153),(Ci 4)]),iF 155 4 17,iA 156 (.idxA 5 1 (Tm 155) (Ci 3)),iS 1 156 154]
def FD:Rg:=[iM 157 0,iA 158 (.call 240 [(Tm 157),(Ci 3)]),iF 159 4 17,iA 160 (.idxA 5 1 (Tm 159) (Ci 4)),iS 1 160 158]
def FF:Rg:=[iM 161 0,iA 162 (.call 240 [(Tm 161),(Ci 5)]),iC 163 .eql 162 0]
def FG:Rg:=[iA 164 (.bIK true 1 1 [(.int .i64 0)] [(0,(Ci 0))]),iF 165 9 17,iS 1 165 164]
def aaS:Rg:=[iI 18 0]
def aaT:Rg:=[iM 166 18,iM 167 16,iA 168 (.bJF true (Tm 167) (Ci 1)),iB 169 .lss 166 168]
def aaU:Rd:=[(iF 172 10 17,true),(iL 173 172,true),(iA 174 (.call 241 [(Ci 1),(Ci 2)]),true),(iA 175 (.bIK true 3 1 [(.bool false),.aB,.aB] [(0,(Tm 174))]),false),(iA 176 (.append 3 56 (Tm 173) (Tm 175)),true),(iF 177 10 17,false)]
def aaV:Rd:=[(iS 1 177 176,true)]
def aaW:Rg:=[iM 170 18,iC 171 .add 170 1,iM 18 171]
def EP:aC:=(.seq (sq aaT (.cond (Tm 169) .skip (.exit 6))) (.seq (.block 7 (dq aaU (.draw aaV))) (.region aaW)))
def aaX:Rg:=[iF 178 5 5,iL 179 178,iO 180 17 17,iA 181 (.bIK true 17 1 [(.str []),(.int .i64 0),(.int .i64 0),(.int .i64 0),(.int .i64 0),(.int .i64 0),(.int .i64 0),(.int .i64 0),(.int .i64 0),.aB,.aB,(.bool false),.aB,.aB,(.bool false),.aB,.aB] [(0,(Tm 180))]),iA 182 (.append 17 240 (Tm 179) (Tm 181)),iF 183 5 5,iS 1 183 182]
def aaY:Rg:=[iM 132 14,iC 133 .sub 132 1,iM 14 133]
def EQ:aC:=(.seq (sq aaR (.cond (Tm 131) .skip (.exit 4))) (.seq (.block 5 (sq EZ (sq FA (sq FB (sq FC (sq FD (.seq (sq FF (.cond (Tm 163) (.region FG) .skip)) (.seq (sq aaS (.block 6 (.loop EP))) (.region aaX))))))))) (.region aaY)))
def aaZ:Rg:=[iM 184 0,iM 185 1,iK2 186 240 184 185,iA 187 (.bin .add (Ci 1) (Tm 186)),iM 19 187]
def abA:Rg:=[iM 188 19,iC 189 .gtr 188 0]
def abB:Rd:=[(iF 192 6 5,true),(iL 193 192,true),(iM 194 19,false),(iA 195 (.call 242 [(.const (.int .u8 118)),(Tm 194)]),true),(iM 196 0,true),(iF 197 5 5,true),(iL 198 197,true),(iN 199 198,true),(iK2 200 240 196 199,true),(iA 201 (.build [(.str []),(.int .i64 0)] [(0,1,(Tm 195)),(1,1,(Tm 200))]),false),(iA 202 (.bIK true 2 1 [(.str []),(.int .i64 0)] [(0,(Tm 201))]),false),(iA 203 (.append 2 24 (Tm 193) (Tm 202)),true),(iF 204 6 5,false)]
def abC:Rd:=[(iS 1 204 203,true)]
def abD:Rg:=[iM 190 19,iC 191 .sub 190 1,iM 19 191]
def ER:aC:=(.seq (sq abA (.cond (Tm 189) .skip (.exit 8))) (.seq (.block 9 (dq abB (.draw abC))) (.region abD)))
def abE:Rg:=[iO 205 7 5,iS 7 4 205]
def zO:aC:=(sq aoB (sq aoC (sq aoD (sq aoE (sq aoF (sq aoG (sq aoH (.seq (sq aoI (.block 0 (.loop EO))) (.seq (sq aaQ (.block 4 (.loop EQ))) (.seq (sq aaZ (.block 8 (.loop ER))) (sq abE .ret)))))))))))
def a7F:List Nat:=[25,27,28,33,35,51,124,149,164,175,181,202]
def LS:aW:=⟨2,206,zO,[.cell 4 (some 7)]⟩
def abG:Rg:=[iA 3 (.box true (Tm 1)),iZ 4]
def abH:Rg:=[iZ 5]
def abI:Rg:=[iI 6 0]
def abJ:Rg:=[iM 11 6,iF 12 6 3,iL 13 12,iN 14 13,iB 15 .lss 11 14]
def abK:Rg:=[iA 18 (.bIK false 1 0 [(.int .i64 0)] []),iM 7 18]
def abL:Rg:=[iI 8 0]
def abM:Rg:=[iM 19 8,iO 20 7 3,iM 21 6,iK2 22 245 20 21,iB 23 .lss 19 22]
def abN:Rg:=[iM 26 0,iF 27 4 3,iL 28 27,iN 29 28,iK2 30 240 26 29,iM 9 30]
def abO:Rg:=[iI 10 0]
def abP:Rg:=[iM 31 10,iF 32 4 3,iL 33 32,iN 34 33,iB 35 .lss 31 34,iM 36 35,gM 37 7 36 true,gM 38 9 36 true,gK2 39 247 37 38 36 true,iP 40 36 39]
def TK:Rg:=[iM 43 9,iC 44 .add 43 1,iF 45 4 3,iL 46 45,iN 47 46,iB 48 .rem 44 47,iM 9 48]
def TL:Rg:=[iM 41 10,iC 42 .add 41 1,iM 10 42]
def zP:aC:=(.seq (sq abP (.cond (Tm 40) .skip (.exit 4))) (.seq (.block 5 (.region TK)) (.region TL)))
def TM:Rg:=[iM 49 7,iM 50 9,iK2 51 247 49 50,iM 52 51,gM 53 0 52 false,iG 54 (.call 240 [(Tm 53),(Ci 12)]) 52 false,gC 55 .eql 54 0 52 false,iQ 56 52 55]
def zR:Rg:=[iI 9 (-1)]
def zS:Rg:=[iM 57 7,iM 58 9,iA 59 (.bIK true 1 1 [(.int .i64 0)] [(0,(Tm 58))]),iA 60 (.append 1 8 (Tm 57) (Tm 59)),iM 7 60]
def zT:Rg:=[iM 24 8,iC 25 .add 24 1,iM 8 25]
def zQ:aC:=(.seq (sq abM (.cond (Tm 23) .skip (.exit 2))) (.seq (.block 3 (sq abN (.seq (sq abO (.block 4 (.loop zP))) (.seq (sq TM (.cond (Tm 56) (.region zR) .skip)) (.region zS))))) (.region zT)))
def TN:Rg:=[iM 61 5,iM 62 7,iA 63 (.bIK true 1 1 [.aB] [(0,(Tm 62))]),iA 64 (.append 1 24 (Tm 61) (Tm 63)),iM 5 64]
def TO:Rg:=[iM 16 6,iC 17 .add 16 1,iM 6 17]
def TJ:aC:=(.seq (sq abJ (.cond (Tm 15) .skip (.exit 0))) (.seq (.block 1 (sq abK (.seq (sq abL (.block 2 (.loop zQ))) (.region TN)))) (.region TO)))
def TP:Rg:=[iM 65 5,iM 4 65]
def wL:aC:=(sq abG (sq abH (.seq (sq abI (.block 0 (.loop TJ))) (sq TP .ret))))
def a1G:List Nat:=[3,59,63]
def CS:aW:=⟨2,66,wL,[.tmp 4]⟩
def aoM:Rg:=[iA 3 (.box true (Tm 1)),iZ 4]
def aoN:Rg:=[iO 7 7 3,iA 8 (.call 85 [(Tm 7),(.const .aB)]),iM 5 8]
def aoO:Rg:=[iI 6 0]
def aoP:Rg:=[iM 9 6,iM 10 5,iN 11 10,iB 12 .lss 9 11]
def aoQ:Rg:=[iM 15 0,iA 16 (.call 240 [(Tm 15),(Ci 9)])]
def yB:Rg:=[iC 18 .eql 16 0,iM 17 18]
def aoR:Rg:=[iM 19 5,iM 20 6,iX 21 1 19 20,⟨none,.store 1 (Tm 21) (Ci 0),none⟩]
def MA:Rg:=[iC 23 .eql 16 1,iM 22 23]
def aoS:Rg:=[iM 24 5,iM 25 6,iM 26 0,iM 27 5,iM 28 6,iX 29 1 27 28,iL 30 29,iC 31 .add 30 1,iK2 32 240 26 31,iX 33 1 24 25,iS 1 33 32]
def MB:Rg:=[iM 13 6,iC 14 .add 13 1,iM 6 14]
def abS:aC:=(.seq (sq aoP (.cond (Tm 12) .skip (.exit 0))) (.seq (.block 1 (sq aoQ (.block 2 (sq yB (.cond (Tm 17) (.region aoR) (sq MA (.cond (Tm 22) (.region aoS) .skip))))))) (.region MB)))
def FP:Rg:=[iM 34 5,iM 4 34]
def zU:aC:=(sq aoM (sq aoN (.seq (sq aoO (.block 0 (.loop abS))) (sq FP .ret))))
def a7I:List Nat:=[3]
def LZ:aW:=⟨2,35,zU,[.tmp 4]⟩
def azZ:Rg:=[iA 2 (.alloc [(.int .i64 0),.aB,.aB,.aB,.aB,.aB,.aB,.aB,.aB]),iA 3 (.mv (.const (.lit (.pointer none))))]
def aAA:Rg:=[iM 7 0,iA 8 (.build [.aB,(.int .i64 0)] [(0,1,(Tm 7))]),iA 9 (.box false (Tm 8)),iM 4 9]
def aAB:Rg:=[iM 10 4,iA 11 (.call 244 [(Tm 10),(Ci 3)]),iA 5 (.alloc [(.int .i64 0),.aB,.aB,.aB,.aB,.aB,.aB]),iS 7 5 11]
def aAC:Rg:=[iM 12 4,iO 13 7 5,iK2 14 246 12 13,iM 6 14]
def aAD:Rd:=[(iO 15 7 5,true),(iM 16 6,true),(iM 17 4,false),(iO 18 7 5,false),(iK2 19 248 17 18,true),(iA 20 (.build [(.int .i64 0),.aB,.aB,.aB,.aB,.aB,.aB,.aB,.aB] [(0,7,(Tm 15)),(7,1,(Tm 16)),(8,1,(Tm 19))]),false),(iM 21 4,true),(iS 9 2 20,true),(iM 3 21,false)]
def FJ:aC:=(sq azZ (sq aAA (sq aAB (sq aAC (dq aAD .ret)))))
def bfB:List Nat:=[]
def abQ:aW:=⟨1,22,FJ,[.cell 2 (some 9),.tmp 3]⟩
def aMC:Rg:=[iZ 2]
def aMD:Rg:=[iM 4 0,iN 5 4,iM 3 5]
def aME:Rg:=[iM 6 3,iC 7 .gtr 6 0,iM 8 7,gM 9 0 8 true,gM 10 3 8 true,gC 11 .sub 10 1 8 true,iG 12 (.bIZ 1 (Tm 9) (Tm 11)) 8 true,gL 13 12 8 true,iG 14 (.bin .eql (Tm 13) (.const (.int .u32 0))) 8 true,iP 15 8 14]
def aMF:Rg:=[iM 16 3,iC 17 .sub 16 1,iM 3 17]
def aMB:aC:=(.seq (sq aME (.cond (Tm 15) .skip (.exit 0))) (.block 1 (.region aMF)))
def ZA:Rg:=[iM 18 0,iM 19 3,iA 20 (.slice 1 (Tm 18) none (some (Tm 19)) none),iA 21 (.append 1 4 (.const .aB) (Tm 20)),iM 2 21]
def JB:aC:=(sq aMC (sq aMD (.seq (.block 0 (.loop aMB)) (sq ZA .ret))))
def bjJ:List Nat:=[]
def agU:aW:=⟨1,22,JB,[.tmp 2]⟩
def aLQ:Rg:=[iZ 2]
def aLR:Rg:=[iM 3 0,iA 4 (.conv .u32 (Tm 3)),iM 5 0,iA 6 (.bin .shr (Tm 5) (.const (.int .u64 32))),iA 7 (.conv .u32 (Tm 6)),iA 8 (.bIK true 1 2 [(.int .u32 0)] [(0,(Tm 4)),(1,(Tm 7))]),iK 9 38 8,iM 2 9]
def IS:aC:=(sq aLQ (sq aLR .ret))
def bjB:List Nat:=[8]
def agL:aW:=⟨1,10,IS,[.tmp 2]⟩
def asY:Rg:=[iT 2 false]
def asZ:Rg:=[iM 3 0,iK 4 38 3,iN 5 4,iC 6 .gtr 5 512,iM 2 6]
def BL:aC:=(sq asY (sq asZ .ret))
def bbL:List Nat:=[]
def QC:aW:=⟨1,7,BL,[.tmp 2]⟩
def aXB:Rg:=[iI 4 0]
def aXC:Rg:=[iM 6 0,iK 7 38 6,iM 8 1,iK 9 38 8,iM 0 7,iM 1 9]
def aXD:Rg:=[iM 10 0,iN 11 10,iM 12 1,iN 13 12,iB 14 .neq 11 13]
def aXE:Rg:=[iM 15 0,iN 16 15,iM 17 1,iN 18 17,iB 19 .lss 16 18]
def aXF:Rg:=[iI 4 (-1)]
def aXG:Rg:=[iI 4 1]
def aXH:Rg:=[iM 20 0,iN 21 20,iC 22 .sub 21 1,iM 5 22]
def aXI:Rg:=[iM 23 5,iC 24 .geq 23 0]
def aXJ:Rd:=[(iM 27 0,false),(iM 28 5,false),(iX 29 1 27 28,false),(iL 30 29,false),(iM 31 1,false),(iM 32 5,false),(iX 33 1 31 32,false),(iL 34 33,false),(iB 35 .lss 30 34,false)]
def aXK:Rg:=[iI 4 (-1)]
def aLC:Rd:=[(iM 36 0,false),(iM 37 5,false),(iX 38 1 36 37,false),(iL 39 38,false),(iM 40 1,false),(iM 41 5,false),(iX 42 1 40 41,false),(iL 43 42,false),(iB 44 .gtr 39 43,false)]
def aLD:Rg:=[iI 4 1]
def aLE:Rg:=[iM 25 5,iC 26 .sub 25 1,iM 5 26]
def aLB:aC:=(.seq (sq aXI (.cond (Tm 24) .skip (.exit 0))) (.seq (.block 1 (.seq (dq aXJ (.cond (Tm 35) (sq aXK .ret) .skip)) (dq aLC (.cond (Tm 44) (sq aLD .ret) .skip)))) (.region aLE)))
def aLF:Rg:=[iI 4 0]
def PX:aC:=(sq aXB (sq aXC (.seq (sq aXD (.cond (Tm 14) (.seq (sq aXE (.cond (Tm 19) (sq aXF .ret) .skip)) (sq aXG .ret)) .skip)) (.seq (sq aXH (.block 0 (.loop aLB))) (sq aLF .ret)))))
def bpT:List Nat:=[]
def aLA:aW:=⟨2,45,PX,[.tmp 4]⟩
def agD:Rg:=[iZ 4,iZ 5]
def agE:Rg:=[iM 20 0,iM 21 1,iK2 22 32 20 21,iC 23 .lss 22 0]
def agF:Rg:=[iM 24 0,iK 25 38 24,iZ 4,iM 5 25]
def agG:Rg:=[iM 26 1,iN 27 26,iC 28 .eql 27 1]
def IN:Rg:=[iM 29 0,iN 30 29,iA 31 (.bIO 1 4 [(.int .u32 0)] (Tm 30) (Tm 30)),iM 6 31]
def IP:Rg:=[iA 7 (.mv (.const (.int .u64 0)))]
def IQ:Rg:=[iM 32 0,iN 33 32,iC 34 .sub 33 1,iM 8 34]
def agH:Rg:=[iM 35 8,iC 36 .geq 35 0]
def agI:Rg:=[iM 39 7,iA 40 (.bin .shl (Tm 39) (.const (.int .u64 32))),iM 41 0,iM 42 8,iX 43 1 41 42,iL 44 43,iA 45 (.conv .u64 (Tm 44)),iB 46 .or 40 45,iM 9 46]
def agJ:Rg:=[iM 47 6,iM 48 8,iM 49 9,iM 50 1,iA 51 (.bIZ 1 (Tm 50) (Ci 0)),iL 52 51,iA 53 (.conv .u64 (Tm 52)),iB 54 .quo 49 53,iA 55 (.conv .u32 (Tm 54)),iX 56 1 47 48,iS 1 56 55]
def VB:Rg:=[iM 57 9,iM 58 1,iA 59 (.bIZ 1 (Tm 58) (Ci 0)),iL 60 59,iA 61 (.conv .u64 (Tm 60)),iB 62 .rem 57 61,iM 7 62]
def VC:Rg:=[iM 37 8,iC 38 .sub 37 1,iM 8 38]
def AZ:aC:=(.seq (sq agH (.cond (Tm 36) .skip (.exit 0))) (.seq (.block 1 (sq agI (sq agJ (.region VB)))) (.region VC)))
def BA:Rg:=[iM 63 6,iK 64 38 63,iM 65 7,iK 66 35 65,iM 4 64,iM 5 66]
def VD:Rg:=[iM 67 1,iN 68 67,iA 69 (.bin .mul (Ci 32) (Tm 68)),iM 70 1,iK 71 31 70,iB 72 .sub 69 71,iM 10 72]
def VE:Rg:=[iM 73 0,iM 74 10,iK2 75 45 73 74,iA 76 (.bIK true 1 2 [(.int .u32 0)] [(0,(.const (.int .u32 0))),(1,(.const (.int .u32 0)))]),iA 77 (.append 1 4 (Tm 75) (Tm 76)),iM 78 1,iM 79 10,iK2 80 45 78 79,iM 11 77,iM 12 80]
def BB:Rg:=[iM 81 11,iM 82 0,iM 83 10,iK2 84 45 82 83,iN 85 84,iC 86 .add 85 1,iA 87 (.slice 1 (Tm 81) none (some (Tm 86)) none),iM 11 87]
def BC:Rg:=[iM 88 12,iM 89 12,iN 90 89,iC 91 .sub 90 1,iX 92 1 88 91,iL 93 92,iA 94 (.conv .u64 (Tm 93)),iM 13 94]
def BD:Rg:=[iM 95 11,iN 96 95,iM 97 12,iN 98 97,iB 99 .sub 96 98,iA 100 (.bIO 1 4 [(.int .u32 0)] (Tm 99) (Tm 99)),iM 14 100]
def BE:Rg:=[iM 101 14,iN 102 101,iC 103 .sub 102 1,iM 15 103]
def VG:Rg:=[iM 104 15,iC 105 .geq 104 0]
def VH:Rd:=[(iM 108 11,false),(iM 109 15,false),(iM 110 12,false),(iN 111 110,false),(iB 112 .add 109 111,false),(iX 113 1 108 112,false),(iL 114 113,false),(iA 115 (.conv .u64 (Tm 114)),false),(iA 116 (.bin .shl (Tm 115) (.const (.int .u64 32))),false),(iM 117 11,false),(iM 118 15,false),(iM 119 12,false),(iN 120 119,false),(iB 121 .add 118 120,false),(iC 122 .sub 121 1,false),(iX 123 1 117 122,false),(iL 124 123,false),(iA 125 (.conv .u64 (Tm 124)),false),(iB 126 .or 116 125,false),(iM 16 126,false)]
def VI:Rg:=[iM 127 16,iM 128 13,iB 129 .quo 127 128,iM 17 129]
def VJ:Rg:=[iM 130 17,iA 131 (.bin .gtr (Tm 130) (.const (.int .u64 4294967295)))]
def VK:Rg:=[iA 17 (.mv (.const (.int .u64 4294967295)))]
def VL:Rd:=[(iM 132 12,true),(iM 133 17,false),(iK 134 35 133,true),(iK2 135 44 132 134,true),(iM 136 11,true),(iM 137 15,true),(iM 138 15,true),(iM 139 12,true),(iN 140 139,true),(iB 141 .add 138 140,true),(iC 142 .add 141 1,true),(iA 143 (.slice 1 (Tm 136) (some (Tm 137)) (some (Tm 142)) none),true),(iA 144 (.append 1 4 (.const .aB) (Tm 143)),true),(iK2 145 32 135 144,true),(iC 146 .gtr 145 0,false)]
def VM:Rg:=[iM 147 17,iA 148 (.bin .sub (Tm 147) (.const (.int .u64 1))),iM 17 148]
def sR:aC:=(.seq (dq VL (.cond (Tm 146) .skip (.exit 4))) (.block 5 (.region VM)))
def BF:Rg:=[iM 149 11,iM 150 15,iM 151 15,iM 152 12,iN 153 152,iB 154 .add 151 153,iC 155 .add 154 1,iA 156 (.slice 1 (Tm 149) (some (Tm 150)) (some (Tm 155)) none),iA 157 (.append 1 4 (.const .aB) (Tm 156)),iM 158 12,iM 159 17,iK 160 35 159,iK2 161 44 158 160,iK2 162 42 157 161,iM 18 162]
def BG:Rg:=[iI 19 0]
def VN:Rg:=[iM 163 19,iM 164 12,iN 165 164,iB 166 .leq 163 165]
def VO:Rg:=[iM 169 11,iM 170 15,iM 171 19,iB 172 .add 170 171,iX 173 1 169 172,⟨none,.store 1 (Tm 173) (.const (.int .u32 0)),none⟩]
def VP:Rg:=[iM 174 19,iM 175 18,iN 176 175,iB 177 .lss 174 176]
def VQ:Rg:=[iM 178 11,iM 179 15,iM 180 19,iB 181 .add 179 180,iM 182 18,iM 183 19,iX 184 1 182 183,iL 185 184,iX 186 1 178 181,iS 1 186 185]
def BH:Rg:=[iM 167 19,iC 168 .add 167 1,iM 19 168]
def sS:aC:=(.seq (sq VN (.cond (Tm 166) .skip (.exit 6))) (.seq (.block 7 (sq VO (sq VP (.cond (Tm 177) (.region VQ) .skip)))) (.region BH)))
def BI:Rg:=[iM 187 14,iM 188 15,iM 189 17,iA 190 (.conv .u32 (Tm 189)),iX 191 1 187 188,iS 1 191 190]
def BJ:Rg:=[iM 106 15,iC 107 .sub 106 1,iM 15 107]
def sT:aC:=(.seq (sq VG (.cond (Tm 105) .skip (.exit 2))) (.seq (.block 3 (dq VH (sq VI (.seq (sq VJ (.cond (Tm 131) (.region VK) .skip)) (.seq (.block 4 (.loop sR)) (sq BF (.seq (sq BG (.block 6 (.loop sS))) (.region BI)))))))) (.region BJ)))
def BK:Rg:=[iM 192 14,iK 193 38 192,iM 194 11,iK 195 38 194,iM 196 10,iK2 197 40 195 196,iM 4 193,iM 5 197]
def xL:aC:=(sq agD (.seq (sq agE (.cond (Tm 23) (sq agF .ret) .skip)) (.seq (sq agG (.cond (Tm 28) (sq IN (sq IP (.seq (sq IQ (.block 0 (.loop AZ))) (sq BA .ret)))) .skip)) (sq VD (sq VE (sq BB (sq BC (sq BD (.seq (sq BE (.block 2 (.loop sT))) (sq BK .ret))))))))))
def a4P:List Nat:=[76]
def DQ:aW:=⟨2,198,xL,[.tmp 4,.tmp 5]⟩
def aXL:Rg:=[iZ 4,iZ 5,iI 6 0]
def aXM:Rg:=[iM 9 0,iK 10 41 9,iM 11 10,gM 12 1 11 false,gK 13 41 12 11 false,iQ 14 11 13]
def anC:Rg:=[iZ 4,iZ 5,iI 6 2]
def aXN:Rg:=[iM 15 1,iK 16 38 15,iN 17 16,iC 18 .eql 17 0]
def aXO:Rg:=[iZ 4,iZ 5,iI 6 3]
def aXP:Rg:=[iM 20 0,iK 21 38 20,iM 22 1,iK 23 38 22,iK2 24 39 21 23,iM 19 24,iE 25 19 0,iE 26 19 1,iM 7 25,iM 8 26]
def aXQ:Rg:=[iM 27 7,iM 28 8,iM 4 27,iM 5 28,iI 6 0]
def PY:aC:=(sq aXL (.seq (sq aXM (.cond (Tm 14) (sq anC .ret) .skip)) (.seq (sq aXN (.cond (Tm 18) (sq aXO .ret) .skip)) (sq aXP (sq aXQ .ret)))))
def bpV:List Nat:=[]
def udiv:aW:=⟨2,29,PY,[.tmp 4,.tmp 5,.tmp 6]⟩
def aXS:Rg:=[iZ 4,iI 5 0]
def aXT:Rg:=[iM 10 0,iK 11 41 10,iM 12 11,gM 13 1 12 false,gK 14 41 13 12 false,iQ 15 12 14]
def anD:Rg:=[iZ 4,iI 5 2]
def aXU:Rg:=[iM 16 0,iK 17 38 16,iM 18 1,iK 19 38 18,iM 6 17,iM 7 19]
def aXV:Rg:=[iM 20 7,iN 21 20,iC 22 .gtr 21 0]
def aXW:Rg:=[iM 24 6,iM 25 7,iK2 26 39 24 25,iM 23 26,iE 27 23 0,iE 28 23 1,iM 8 27,iM 9 28]
def aXX:Rg:=[iM 29 7,iM 30 9,iM 6 29,iM 7 30]
def aXR:aC:=(.seq (sq aXV (.cond (Tm 22) .skip (.exit 0))) (.block 1 (sq aXW (.region aXX))))
def aXY:Rg:=[iM 31 6,iM 4 31,iI 5 0]
def QB:aC:=(sq aXS (.seq (sq aXT (.cond (Tm 15) (sq anD .ret) .skip)) (sq aXU (.seq (.block 0 (.loop aXR)) (sq aXY .ret)))))
def bpX:List Nat:=[]
def aLP:aW:=⟨2,32,QB,[.tmp 4,.tmp 5]⟩
def agY:Rg:=[iA 6 (.alloc [(.bool false),.aB,.aB])]
def agZ:Rg:=[iM 9 1,iK 10 38 9,iM 11 2,iK 12 38 11,iM 1 10,iM 2 12]
def ahA:Rg:=[iM 13 1,iN 14 13,iC 15 .eql 14 0]
def ahB:Rg:=[iA 16 (.bIK true 1 1 [(.int .u32 0)] [(0,(.const (.int .u32 1)))]),iA 17 (.build [(.bool false),.aB,.aB] [(2,1,(Tm 16))]),iS 3 6 17]
def ahC:Rg:=[iM 19 1,iM 20 2,iK2 21 34 19 20,iM 18 21,iE 22 18 0,iE 23 18 1,iM 7 22,iM 8 23]
def ahD:Rg:=[iM 24 7,iN 25 24,iC 26 .gtr 25 1,iM 27 26,gM 28 7 27 false,iG 29 (.bIZ 1 (Tm 28) (Ci 0)) 27 false,gL 30 29 27 false,iG 31 (.bin .gtr (Tm 30) (.const (.int .u32 1))) 27 false,iQ 32 27 31]
def JE:Rg:=[iM 34 1,iM 35 7,iK2 36 33 34 35,iM 33 36,iE 37 33 0,iE 38 33 1,iE 39 33 2,iM 1 37]
def JF:Rg:=[iM 41 2,iM 42 7,iK2 43 33 41 42,iM 40 43,iE 44 40 0,iE 45 40 1,iE 46 40 2,iM 2 44]
def vD:Rg:=[iM 47 0,iM 48 1,iM 49 2,iA 50 (.build [(.bool false),.aB,.aB] [(0,1,(Tm 47)),(1,1,(Tm 48)),(2,1,(Tm 49))]),iS 3 6 50]
def xN:aC:=(sq agY (sq agZ (.seq (sq ahA (.cond (Tm 15) (sq ahB .ret) .skip)) (.seq (sq ahC (sq ahD (.cond (Tm 32) (sq JE (.region JF)) .skip))) (sq vD .ret)))))
def a5N:List Nat:=[16]
def DS:aW:=⟨3,51,xN,[.cell 6 (some 3)]⟩
def aNE:Rg:=[iA 2 (.mv (.const (.int .u64 0)))]
def aNF:Rg:=[iM 3 0,iC 4 .lss 3 0]
def aNG:Rg:=[iM 5 0,iC 6 .add 5 1,iA 7 (.un .neg (Tm 6)),iA 8 (.conv .u64 (Tm 7)),iA 9 (.bin .add (Tm 8) (.const (.int .u64 1))),iM 2 9]
def aNH:Rg:=[iM 10 0,iA 11 (.conv .u64 (Tm 10)),iM 2 11]
def JL:aC:=(sq aNE (.seq (sq aNF (.cond (Tm 4) (sq aNG .ret) .skip)) (sq aNH .ret)))
def bkI:List Nat:=[]
def ahQ:aW:=⟨1,12,JL,[.tmp 2]⟩
def aMS:Rg:=[iA 4 (.alloc [(.bool false),.aB,.aB]),iI 5 0]
def aMT:Rg:=[iM 6 1,iC 7 .eql 6 0]
def aMU:Rg:=[iA 8 (.build [(.bool false),.aB,.aB] []),iS 3 4 8,iI 5 3]
def aMV:Rg:=[iM 9 0,iC 10 .lss 9 0,iM 11 1,iC 12 .lss 11 0,iA 13 (.eqb true (Tm 10) (Tm 12)),iM 14 0,iK 15 59 14,iK 16 35 15,iM 17 1,iK 18 59 17,iK 19 35 18,iA 20 (.call 58 [(Tm 13),(Tm 16),(Tm 19)]),iS 3 4 20,iI 5 0]
def JG:aC:=(sq aMS (.seq (sq aMT (.cond (Tm 7) (sq aMU .ret) .skip)) (sq aMV .ret)))
def bkC:List Nat:=[]
def TC:aW:=⟨2,21,JG,[.cell 4 (some 3),.tmp 5]⟩
def aYY:Rg:=[iA 2 (.alloc [(.bool false),.aB,.aB])]
def aYZ:Rg:=[iM 6 0,iA 7 (.call 50 [(Tm 6),(Ci 1)]),iM 5 7,iE 8 5 0,iE 9 5 1,iA 3 (.alloc [(.bool false),.aB,.aB]),iS 3 3 8,iM 4 9]
def aZA:Rg:=[iO 10 3 3,iS 3 2 10]
def QR:aC:=(sq aYY (sq aYZ (sq aZA .ret)))
def bqJ:List Nat:=[]
def aMP:aW:=⟨1,11,QR,[.cell 2 (some 3)]⟩
def utF (xs:List Nat) (n:Nat):PF:=((PF.nil.set 0 (aF xs)).set 3 (.int .i64 n))
theorem bjI {C:Ctx} (xs:List Nat) (hx:Lim xs) (hl:xs.length≤35184372087808):JB.wp C (aT agU.res (kO 1 (aJ (aG (val xs))))) (PF.args [aF xs]) .nil:=by
 simp only[go_sem,γ,reduceCtorEq,JB,aMC,aMD,agU,bKI]
 refine wp_loop (α:=Nat) (fun n=>utF xs n) (fun _=>.nil) (fun n=>n≤xs.length∧∀ j x,n≤j→xs[j]?=some x→x=0) (fun n=>n) xs.length ⟨bKK _,fun j x hj hxj=>?_⟩ ?_ PH.nil_le ?_
 ·rw[bLW hj] at hxj; cases hxj
 ·unfold utF
  exact Lq
 rintro n ⟨hn,hz⟩
 have done:(0<n→∀ h:n-1<xs.length,xs[n-1]≠0)→∀ F:PF,(utF xs n).le F→aC.wp C (.seq (.region ZA) .ret) (aT [.tmp 2] (kO 1 (aJ (aG (val xs))))) F .nil:=by
  intro h F hF
  have f0:F 0=some (aF xs):=hF 0 _ (by unfold utF; simp only[go_sem,reduceCtorEq])
  have f3:F 3=some (.int .i64 n):=hF 3 _ (by unfold utF; simp only[go_sem,reduceCtorEq])
  have ht:xs.take n=aG (val xs):=IK hx hn hz fun x h0 hxj=>by
   rw[bKU Om] at hxj
   injection hxj with hxj
   subst hxj
   exact h h0 Om
  have hc:((n:Nat):Int)≤(xs.length:Nat):=by omega
  simp only[go_sem,ν,γ,reduceCtorEq,ZA,f0,f3,bKI,hc,or_true,bLK]
  refine gD (rows:=[]) (src:=aJ (aG (val xs))) .nil ?_ ?_ fun v H' ho _=>?_
  ·simp only[go_sem]
   rw[← ht,← List.map_take]
  ·unfold roomFor
   rw[bU,← ht,bLB]
   simp only[bMW,maxLen]
   omega
  ·exact HX (.inr rfl) (by simpa using ho) rfl
 simp only[aC.wp,go_sem] at done
 simp only[go_sem,γ,reduceCtorEq,aMB,aME,utF]
 by_cases h0:0<n
 ·have h0':((n:Nat):Int)>0:=by omega
  have hlt:n-1<xs.length:=by omega
  have hat:=bK xs hlt
  have hw:IntKind.i64.wrap ((n:Int)-1)=((n-1:Nat):Int):=tU Om h0
  simp only[go_sem,γ,reduceCtorEq,h0',hw,hat]
  by_cases c:xs[n-1]=0
  ·simp only[go_sem,γ,reduceCtorEq,bT (Om:((xs[n-1]:Nat):Int)=0),aMF,hw]
   refine aI (n-1) ⟨by omega,fun j x hj hxj=>?_⟩ Om ?_ PH.nil_le
   ·by_cases e:j=n-1
    ·subst e
     rw[bKU hlt] at hxj
     injection hxj with hxj
     omega
    ·exact hz j x Om hxj
   ·exact Lq
  ·simp only[go_sem,bF (Om:((xs[n-1]:Nat):Int)≠0)]
   exact done (fun _ _=>c) _ (by unfold utF; exact Lq)
 ·have h0':¬ ((n:Nat):Int)>0:=by omega
  simp only[go_sem,γ,reduceCtorEq,h0']
  exact done (fun h=>absurd h h0) _ (by unfold utF; exact Lq)
structure nN (C:Ctx):Prop where
 trimM:∀ xs,Lim xs→xs.length≤35184372087808→aE C 38 [aF xs] .nil (kO 1 (aJ (aG (val xs))))
theorem nN.trim {C:Ctx} (L:nN C) (xs:List Nat) (hx:Lim xs) (hl:xs.length≤35184372087808):aE C 38 [aF xs] .nil (aD (aF (aG (val xs)))):=(L.trimM xs hx hl).freeze
theorem bjA {C:Ctx} (L:nN C) (v:Nat) (hv:v<18446744073709551616):IS.wp C (aT agL.res (bZ (aF (aG v)))) (PF.args [.int .u64 v]) .nil:=by
 have e1:IntKind.u32.wrap ((v:Nat):Int)=((v%4294967296:Nat):Int):=cC v
 have hd:v/4294967296<4294967296:=by omega
 have e3:IntKind.u32.wrap ((v/4294967296:Nat):Int)=((v/4294967296:Nat):Int):=by rw[cC,bLS hd]
 have hL:Lim [v%4294967296,v/4294967296]:=by
  intro x hx
  simp only[bKY,List.mem_nil_iff,or_false] at hx
  rcases hx with rfl | rfl
  ·exact bLY _ (by decide)
  ·exact hd
 have bIX:val [v%4294967296,v/4294967296]=v:=by simp only[val,Nat.mul_zero,bMB]; exact Nat.mod_add_div v 4294967296
 have hsh:shift .shr .u64 (v:Int) 32=some (.int .u64 ((v/4294967296:Nat):Int)):=uX
 have hb:(2:Nat)*1≤16777216:=by decide
 simp only[go_sem,υ,δ,γ,η,ζ,reduceCtorEq,IS,aLQ,aLR,agL,e1,hsh,e3,hb]
 have ht:=L.trim [v%4294967296,v/4294967296] hL (by simp)
 rw[bIX] at ht
 refine aA ht rfl ?_
 simp only[go_sem,γ]
 exact aX (.inr rfl) .nil rfl PH.nil_le ⟨.refl _,rfl⟩
theorem bbK {C:Ctx} (L:nN C) (xs:List Nat) (hx:Lim xs) (hl:xs.length≤35184372087808):BL.wp C (aT QC.res (bZ (.bool (decide (nl (val xs)>512))))) (PF.args [aF xs]) .nil:=by
 simp only[go_sem,reduceCtorEq,BL,asY,asZ,QC]
 refine aA (L.trim xs hx hl) rfl ?_
 simp only[go_sem,γ,bKI,aZ]
 refine bA rfl ?_
 rw[decide_eq_decide]
 omega
theorem a0Z {a b:Nat} (h:nl a<nl b):dD a b=-1:=by
 have:a<b:=by
  rcases bLD a b with h' | h'
  ·exact h'
  ·have:=fH h'; omega
 simp[dD,this]
theorem a0Y {a b:Nat} (h:nl b<nl a):dD a b=1:=by
 have:b<a:=by
  rcases bLD b a with h' | h'
  ·exact h'
  ·have:=fH h'; omega
 have h2:¬ a<b:=by omega
 simp[dD,this,h2]
def a4M (X Y:List Nat) (i:Int):PF:=(((PF.nil.set 0 (aF X)).set 1 (aF Y)).set 5 (.int .i64 i))
theorem bpS {C:Ctx} (L:nN C) (xs ys:List Nat) (hx:Lim xs) (hy:Lim ys) (lx:xs.length≤35184372087808) (ly:ys.length≤35184372087808) :
  PX.wp C (aT aLA.res (aD (.int .i64 (dD (val xs) (val ys))))) (PF.args [aF xs,aF ys]) .nil:=by
 simp only[go_sem,reduceCtorEq,PX,aXB,aXC,aLA]
 refine aA (L.trim xs hx lx) Ev ?_
 simp only[go_sem,γ]
 refine aA (L.trim ys hy ly) Ev ?_
 have bx:=eZ hx
 have by':=eZ hy
 simp only[go_sem,γ,reduceCtorEq,aXD,bKI,aZ]
 by_cases c0:nl (val xs)≠nl (val ys)
 ·simp only[go_sem,γ,reduceCtorEq,cQ (show ((nl (val xs):Nat):Int)≠(nl (val ys):Nat) by omega),aXE]
  by_cases c1:nl (val xs)<nl (val ys)
  ·simp only[go_sem,ο,bKI,aZ,show ((nl (val xs):Nat):Int)<(nl (val ys):Nat) by omega,aXF]
   refine aL (.inr rfl) Ev ?_
   rw[a0Z c1]; rfl
  ·simp only[go_sem,bKI,aZ,show ¬ ((nl (val xs):Nat):Int)<(nl (val ys):Nat) by omega,aXG]
   refine aL (.inr rfl) Ev ?_
   rw[a0Y Om]; rfl
 replace c0:=Decidable.of_not_not c0
 simp only[go_sem,γ,reduceCtorEq,cA (show ((nl (val xs):Nat):Int)=(nl (val ys):Nat) by omega),aXH,bKI,aZ]
 have ex:=aR (val xs)
 have ey:=aR (val ys)
 have LX:=aU (val xs)
 have LY:=aU (val ys)
 generalize hX:aG (val xs)=X at *
 generalize hY:aG (val ys)=Y at *
 have hlX:X.length=nl (val xs):=by rw[← hX]; rfl
 have hlY:Y.length=nl (val xs):=by rw[c0,← hY]; rfl
 refine wp_loop (α:=Nat) (fun k=>a4M X Y ((k:Int)-1)) (fun _=>.nil) (fun k=>k≤nl (val xs)∧X.drop k=Y.drop k) (fun k=>k) (nl (val xs)) ⟨bKK _,?_⟩ ?_ PH.nil_le ?_
 ·rw[bNU Om,bNU Om]
 ·unfold a4M
  (repeat' (first|exact PF.nil_le|refine PF.aK ?_ ?_))<;>first|(simp only[go_sem,γ,reduceCtorEq,wrap_i64 (show -9223372036854775808≤((nl (val xs):Nat):Int)-1 by omega) (show ((nl (val xs):Nat):Int)-1≤9223372036854775807 by omega)]<;>rfl)|rfl
 rintro k ⟨hk,hd⟩
 simp only[go_sem,γ,reduceCtorEq,aLB,aXI,a4M]
 by_cases h0:0<k
 ·obtain⟨m,rfl⟩:∃ m,k=m+1:=⟨k-1,by omega⟩
  have hz:((m+1:Nat):Int)-1=(m:Int):=by omega
  have hge:(m:Int)≥0:=by omega
  have x1:m<X.length:=by omega
  have y1:m<Y.length:=by omega
  simp only[go_sem,hz,hge]
  refine bS .nil eC PH.nil_le ?_
  simp only[go_sem,γ,reduceCtorEq,aXJ,bK X x1,bK Y y1]
  by_cases c3:X[m]<Y[m]
  ·simp only[go_sem,ο,show ((X[m]:Nat):Int)<(Y[m]:Nat) by omega,aXK]
   refine aL (.inr rfl) Ev ?_
   have:=aaG LX x1 y1 hd c3
   rw[ex,ey] at this
   simp[aV,dD,this]
  ·simp only[go_sem,show ¬ ((X[m]:Nat):Int)<(Y[m]:Nat) by omega]
   refine bS .nil eC PH.nil_le ?_
   simp only[go_sem,γ,reduceCtorEq,aLC,bK X x1,bK Y y1]
   by_cases c4:X[m]>Y[m]
   ·simp only[go_sem,show ((X[m]:Nat):Int)>(Y[m]:Nat) by omega,aLD]
    refine aL (.inr rfl) Ev ?_
    have:=aaG LY y1 x1 hd.symm c4
    rw[ex,ey] at this
    have h2:¬ val xs<val ys:=by omega
    simp[aV,dD,this,h2]
   ·simp only[go_sem,γ,reduceCtorEq,show ¬ ((X[m]:Nat):Int)>(Y[m]:Nat) by omega,aLE]
    refine aI m ⟨by omega,aoT x1 y1 hd Om⟩ Om ?_ PH.nil_le
    (repeat' (first|exact PF.nil_le|refine PF.aK ?_ ?_))<;>first|(simp only[go_sem,γ,reduceCtorEq,wrap_i64 (Om:-9223372036854775808≤(m:Int)-1) (Om:(m:Int)-1≤9223372036854775807)]<;>rfl)|rfl
 ·have:k=0:=by omega
  subst this
  have hz:¬ ((0:Nat):Int)-1≥0:=by decide
  simp only[go_sem,hz,aLF]
  refine aL (.inr rfl) Ev ?_
  rw[bLK,bLK] at hd
  have:val xs=val ys:=by rw[← ex,← ey,hd]
  simp[aV,dD,this]
theorem zB (n:Nat):(((n:Nat):Int)==0)=decide (n=0):=by
 by_cases h:n=0
 ·subst h; rfl
 ·rw[bF Om,decide_eq_false h]
structure ayJ (C:Ctx):Prop extends nN C where
 make:∀ v:Nat,v<18446744073709551616→aE C 35 [.int .u64 v] .nil (aD (aF (aG v)))
 large:∀ xs,Lim xs→xs.length≤35184372087808→aE C 41 [aF xs] .nil (aD (.bool (decide (nl (val xs)>512))))
 cmp:∀ xs ys,Lim xs→Lim ys→xs.length≤35184372087808→ys.length≤35184372087808→aE C 32 [aF xs,aF ys] .nil (aD (.int .i64 (dD (val xs) (val ys))))
def a4Q (a b:Nat):PF:=((PF.nil.set 6 (aF (aG a))).set 7 (aF (aG b)))
structure ZT (C:Ctx):Prop extends ayJ C where
 divide:∀ A B:Nat,B≠0→nl A≤512→nl B≤512→aE C 39 [aF (aG A),aF (aG B)] .nil (aD (oO A B))
def a1V (a b:Nat):PV:=if dS a b then .tup [aF [],.int .i64 2] else .tup [aF (aG (bKN a b)),.int .i64 0]
theorem bpW {C:Ctx} (L:ZT C) (a b:List Nat) (ha:Lim a) (hb:Lim b) (la:a.length≤35184372087808) (lb:b.length≤35184372087808) :
  QB.wp C (aT aLP.res (bZ (a1V (val a) (val b)))) (PF.args [aF a,aF b]) .nil:=by
 unfold a1V
 simp only[go_sem,reduceCtorEq,QB,aXS,aXT,aLP]
 refine aA (L.large a ha la) rfl ?_
 by_cases c1:nl (val a)>512
 ·simp only[go_sem,γ,c1,anD]
  rw[if_pos (by simp[dS,c1])]
  exact eF rfl
 simp only[go_sem,γ,c1]
 refine aA (L.large b hb lb) rfl ?_
 by_cases c2:nl (val b)>512
 ·simp only[go_sem,γ,reduceCtorEq,c2,anD]
  rw[if_pos (by simp[dS,c2])]
  exact eF rfl
 rw[if_neg (by simp[dS,c1,c2])]
 simp only[go_sem,γ,reduceCtorEq,c2,aXU]
 refine aA (L.trim a ha la) rfl ?_
 simp only[go_sem,γ]
 refine aA (L.trim b hb lb) rfl ?_
 simp only[go_sem,γ]
 refine wp_loop (α:=Nat × Nat) (fun t=>a4Q t.1 t.2) (fun _=>.nil) (fun t=>bKN t.1 t.2=bKN (val a) (val b)∧nl t.1≤512∧nl t.2≤512) (fun t=>t.2) (val a,val b) ⟨rfl,by simp only; omega,by simp only; omega⟩ ?_ PH.nil_le ?_
 ·unfold a4Q
  exact Lq
 rintro⟨x,y⟩ ⟨hg,hx,hy⟩
 simp only at hg hx hy
 simp only[go_sem,γ,aXR,aXV,a4Q,aZ]
 by_cases c3:y=0
 ·subst c3
  have:¬ ((nl 0:Nat):Int)>0:=by rw[wA]; decide
  simp only[go_sem,γ,this,aXY]
  refine aX (vs:=[aF (aG x),.int .i64 0]) (.inr rfl) .nil rfl PH.nil_le ⟨?_,rfl⟩
  rw[← hg,Nat.gcd_zero_right]
  exact .refl _
 ·have h0:nl y≠0:=fun h=>c3 (gP.1 h)
  have:((nl y:Nat):Int)>0:=by omega
  simp only[go_sem,γ,this,aXW]
  refine aA (L.divide x y c3 Om Om) rfl ?_
  simp only[go_sem,γ,oO,aXX]
  have hlt:x%y<y:=bLY _ (bMQ c3)
  refine aI (y,x%y) ⟨?_,hy,?_⟩ hlt ?_ PH.nil_le
  ·simp only
   rw[← hg,Nat.gcd_comm y,← Nat.gcd_rec y x,Nat.gcd_comm]
  ·have:=fH (Nat.le_of_lt hlt)
   simp only; omega
  ·exact Lq
theorem bpU {C:Ctx} (L:ZT C) (a b:List Nat) (ha:Lim a) (hb:Lim b) (la:a.length≤35184372087808) (lb:b.length≤35184372087808) :
  PY.wp C (aT udiv.res (bZ (lD (val a) (val b)))) (PF.args [aF a,aF b]) .nil:=by
 unfold lD
 simp only[go_sem,reduceCtorEq,PY,aXL,aXM,udiv]
 refine aA (L.large a ha la) rfl ?_
 by_cases c1:nl (val a)>512
 ·simp only[go_sem,γ,c1,anC]
  rw[if_pos (by simp[dS,c1])]
  exact pW rfl
 simp only[go_sem,γ,c1]
 refine aA (L.large b hb lb) rfl ?_
 by_cases c2:nl (val b)>512
 ·simp only[go_sem,γ,reduceCtorEq,c2,anC]
  rw[if_pos (by simp[dS,c2])]
  exact pW rfl
 rw[if_neg (by simp[dS,c1,c2])]
 simp only[go_sem,γ,reduceCtorEq,c2,aXN]
 refine aA (L.trim b hb lb) rfl ?_
 simp only[go_sem,γ,bKI,aZ,zB,gP]
 by_cases c3:val b=0
 ·rw[if_pos c3]
  simp only[go_sem,decide_eq_true c3,aXO]
  exact pW rfl
 rw[if_neg c3]
 simp only[go_sem,reduceCtorEq,decide_eq_false c3,aXP]
 refine aA (L.trim a ha la) rfl ?_
 simp only[go_sem,γ]
 refine aA (L.trim b hb lb) rfl ?_
 simp only[go_sem]
 refine aA (L.divide (val a) (val b) c3 Om Om) rfl ?_
 simp only[go_sem,γ,oO,aXQ]
 exact aX (.inr rfl) .nil rfl PH.nil_le ⟨.refl _,rfl⟩
def kX (neg:Bool) (a b:Nat):FV:=(neg&&decide (a/bKN a b≠0),a/bKN a b,b/bKN a b)
structure ayK (C:Ctx):Prop extends ZT C where
 gcd:∀ a b,Lim a→Lim b→a.length≤35184372087808→b.length≤35184372087808→aE C 34 [aF a,aF b] .nil (aD (a1V (val a) (val b)))
 div:∀ a b,Lim a→Lim b→a.length≤35184372087808→b.length≤35184372087808→aE C 33 [aF a,aF b] .nil (aD (lD (val a) (val b)))
theorem qZ {n:Nat} (h:nl n≤512):(aG n).length≤35184372087808:=by rw[aZ]; omega
theorem tH:aG 1=[1]:=mK (by decide) (by decide)
theorem acX {n:Nat} (h:n≠0):aG n=n%4294967296::aG (n/4294967296):=pV h
theorem wR {n:Nat} (h:n≠0):(nl n>1∨n%4294967296>1)↔n≠1:=by
 constructor
 ·rintro h1 rfl
  rcases h1 with h1 | h1
  ·rw[nl,tH] at h1; simp at h1
  ·omega
 ·intro h1
  by_cases c:nl n>1
  ·exact .inl c
  ·have:n<4294967296 ^ 1:=(gV n 1).1 Om
   rw[Nat.pow_one] at this
   rw[bLS this]
   exact .inr Om
theorem a5M {C:Ctx} (L:ayK C) (neg:Bool) (a b:List Nat) (ha:Lim a) (hb:Lim b) (la:a.length≤35184372087808) (lb:b.length≤35184372087808) (na:nl (val a)≤512) (nb:nl (val b)≤512) (h0:val b≠0) :
  xN.wp C (aT DS.res (bZ (.agg (kX neg (val a) (val b)).rf.cells))) (PF.args [.bool neg,aF a,aF b]) .nil:=by
 have hg0:bKN (val a) (val b)≠0:=fun h=>h0 (Nat.eq_zero_of_gcd_eq_zero_right h)
 have hgb:bKN (val a) (val b)≤val b:=Nat.gcd_le_right _ (bMQ h0)
 have ng:nl (bKN (val a) (val b))≤512:=bNF (fH hgb) nb
 have hnb:dS (val a) (val b)=false:=gI na nb
 simp only[go_sem,δ,xN,agY,agZ,DS]
 refine aQ fun o ho=>?_
 simp only[go_sem,γ]
 refine aA (L.trim a ha la) rfl ?_
 simp only[go_sem,γ]
 refine aA (L.trim b hb lb) rfl ?_
 simp only[go_sem,γ,ahA,bKI,aZ,zB,gP]
 by_cases c1:val a=0
 ·simp only[go_sem,υ,δ,γ,η,θ,ζ,decide_eq_true c1,ahB]
  have e:(kX neg (val a) (val b)).rf=⟨false,[],[1]⟩:=by
   rw[c1]
   unfold kX FV.rf
   simp[fC,Nat.div_self (bMQ h0),tH]
  rw[e]
  refine aX (vs:=[.agg [.bool false,.aB,aF [1]]]) (.inr rfl) .nil ?_ PH.nil_le ⟨show Co (.agg _) (.agg _) from CoL.agg (CoL.cons (.refl _) (CoL.cons (.nil 1) (CoL.cons (.refl _) .nil))),rfl⟩
  simp only[go_sem,δ,γ]
  rfl
 have hgcd:=L.gcd (aG (val a)) (aG (val b)) (aU _) (aU _) (qZ na) (qZ nb)
 rw[aR,aR,a1V,hnb] at hgcd
 simp only[go_sem,γ,decide_eq_false c1,ahC]
 refine aA hgcd rfl ?_
 have fin:∀ x y:Nat,x=val a/bKN (val a) (val b)→y=val b/bKN (val a) (val b)→∀ (F:PF) (H:PH),F 0=some (.bool neg)→F 1=some (aF (aG x))→F 2=some (aF (aG y))→F 6=some (.ptr o 3 0 0)→H o=some (.rows 3 [[.bool false,.aB,.aB]]) →
   aC.wp C (.seq (.region vD) .ret) (aT [.cell 6 (some 3)] (bZ (.agg (kX neg (val a) (val b)).rf.cells))) F H:=by
  intro x y hx hy F H f0 f1 f2 f6 hH
  subst hx; subst hy
  simp only[go_sem,δ,γ,θ,vD,f0,f1,f2,f6,hH]
  have hq:val a/bKN (val a) (val b)≠0:=by
   have:=Nat.div_pos (Nat.gcd_le_left (val b) (bMQ c1)) (bMQ hg0)
   omega
  have e:(kX neg (val a) (val b)).rf=⟨neg,aG (val a/bKN (val a) (val b)),aG (val b/bKN (val a) (val b))⟩:=by
   unfold kX FV.rf
   simp only[hq,ne_eq,not_false_eq_true,decide_true,bMI]
  rw[e]
  refine aX (vs:=[.agg (eA neg (aG (val a/bKN (val a) (val b))) (aG (val b/bKN (val a) (val b))))]) (.inr rfl) .nil ?_ PH.nil_le ⟨.refl _,rfl⟩
  simp only[go_sem,δ,γ,f6]
 simp only[aC.wp,go_sem] at fin
 have hd:=fun x (hx:nl x≤512)=>L.div (aG x) (aG (bKN (val a) (val b))) (aU _) (aU _) (qZ hx) (qZ ng)
 simp only[aR,lD] at hd
 have tail:bKN (val a) (val b)≠1→∀ (F:PF) (H:PH),F 0=some (.bool neg)→F 1=some (aF (aG (val a)))→F 2=some (aF (aG (val b)))→F 6=some (.ptr o 3 0 0)→F 7=some (aF (aG (bKN (val a) (val b))))→H o=some (.rows 3 [[.bool false,.aB,.aB]]) →
   aC.wp C (.seq (.seq (.region JE) (.region JF)) (.seq (.region vD) .ret)) (aT [.cell 6 (some 3)] (bZ (.agg (kX neg (val a) (val b)).rf.cells))) F H:=by
  intro _ F H f0 f1 f2 f6 f7 hH
  have d1:=hd (val a) na
  have d2:=hd (val b) nb
  rw[gI na ng,if_neg hg0] at d1
  rw[gI nb ng,if_neg hg0] at d2
  simp only[go_sem,γ,JE,f1,f7]
  refine aA d1 rfl ?_
  simp only[go_sem,γ,bNL,JF,f2,f7]
  refine aA d2 rfl ?_
  simp only[go_sem,γ,bNL]
  exact fin _ _ rfl rfl _ _ (by simp only[go_sem,reduceCtorEq,f0]) rfl rfl (by simp only[go_sem,γ,f6]) hH
 simp only[aC.wp,go_sem] at tail
 simp only[go_sem,γ,bNL,ahD,bKI,aZ]
 by_cases c2:nl (bKN (val a) (val b))>1
 ·have c2':((nl (bKN (val a) (val b)):Nat):Int)>1:=by omega
  simp only[go_sem,γ,c2']
  exact tail ((wR hg0).1 (.inl c2)) _ _ rfl rfl rfl rfl rfl Sq
 ·have c2':¬ ((nl (bKN (val a) (val b)):Nat):Int)>1:=by omega
  simp only[go_sem,ν,γ,reduceCtorEq,c2',acX hg0]
  by_cases c3:bKN (val a) (val b)%4294967296>1
  ·have c3':((bKN (val a) (val b)%4294967296:Nat):Int)>1:=by omega
   simp only[go_sem,c3']
   exact tail ((wR hg0).1 (.inr c3)) _ _ rfl rfl rfl rfl (by simp only[go_sem,γ,acX hg0]) Sq
  ·have c3':¬ ((bKN (val a) (val b)%4294967296:Nat):Int)>1:=by omega
   have h1:bKN (val a) (val b)=1:=by
    rcases Decidable.em (bKN (val a) (val b)=1) with h | h
    ·exact h
    ·rcases (wR hg0).2 h with h | h
     ·exact absurd h c2
     ·exact absurd h c3
   simp only[go_sem,c3']
   exact fin (val a) (val b) (by rw[h1,Nat.div_one]) (by rw[h1,Nat.div_one]) _ _ rfl rfl rfl rfl Sq
theorem bkH {C:Ctx} (v:Int) (h1:-9223372036854775808≤v) (h2:v≤9223372036854775807) :
  JL.wp C (aT ahQ.res (aD (.int .u64 (v.natAbs:Nat)))) (PF.args [.int .i64 v]) .nil:=by
 simp only[go_sem,γ,reduceCtorEq,JL,aNE,aNF,ahQ]
 by_cases c:v<0
 ·have e1:IntKind.i64.wrap (v+1)=v+1:=wrap_i64 Om Om
  have e2:IntKind.i64.wrap (0-(v+1))=-(v+1):=by rw[wrap_i64 Om Om]; omega
  have e3:IntKind.u64.wrap (IntKind.u64.wrap (-(v+1))+1)=((v.natAbs:Nat):Int):=by
   rw[fI,fI]; omega
  simp only[go_sem,γ,reduceCtorEq,c,aNG,e1,e2,e3]
  refine aL (.inr rfl) rfl ?_
  rfl
 ·have e:IntKind.u64.wrap v=((v.natAbs:Nat):Int):=by
   rw[fI]; omega
  simp only[go_sem,γ,reduceCtorEq,c,aNH,e]
  refine aL (.inr rfl) rfl ?_
  rfl
structure a0I (C:Ctx):Prop extends ayK C where
 lowest:∀ neg a b,Lim a→Lim b→a.length≤35184372087808→b.length≤35184372087808→nl (val a)≤512→nl (val b)≤512→val b≠0→aE C 58 [.bool neg,aF a,aF b] .nil (aD (.agg (kX neg (val a) (val b)).rf.cells))
 size:∀ v:Int,cW v→aE C 59 [.int .i64 v] .nil (aD (.int .u64 (v.natAbs:Nat)))
def mkT (n d:Int):RF:=(kX (decide (n<0) != decide (d<0)) n.natAbs d.natAbs).rf
def DT (n d:Int):PV:=if d=0 then yF 3 else .tup [.agg (mkT n d).cells,.int .i64 0]
theorem bkB {C:Ctx} (L:a0I C) (n d:Int) (h1:cW n) (h2:cW d) :
  JG.wp C (aT TC.res (bZ (DT n d))) (PF.args [.int .i64 n,.int .i64 d]) .nil:=by
 simp only[go_sem,δ,JG,aMS,aMT]
 refine aQ fun o ho=>?_
 unfold DT
 by_cases c:d=0
 ·subst c
  simp only[go_sem,ρ,δ,γ,aMU]
  refine gJ ?_
  simp only[go_sem,δ,γ,TC]
 ·rw[if_neg c]
  simp only[go_sem,γ,reduceCtorEq,bF c,aMV]
  refine aA (L.size n h1) rfl ?_
  simp only[go_sem]
  refine aA (L.make n.natAbs Om) rfl ?_
  simp only[go_sem,γ]
  refine aA (L.size d h2) rfl ?_
  simp only[go_sem]
  refine aA (L.make d.natAbs Om) rfl ?_
  simp only[go_sem]
  have n1:nl n.natAbs≤2:=mB Om
  have n2:nl d.natAbs≤2:=mB Om
  have low:=L.lowest (decide (n<0) != decide (d<0)) (aG n.natAbs) (aG d.natAbs) (aU _) (aU _) (by rw[aZ]; omega) (by rw[aZ]; omega)
  rw[aR,aR] at low
  have low:=low Om Om Om
  refine aA low rfl ?_
  simp only[go_sem,δ,γ]
  exact aX (.inr rfl) .nil (vs:=[.agg (mkT n d).cells,.int .i64 0]) (by simp only[go_sem,δ,γ,TC]; rfl) PH.nil_le ⟨.refl _,rfl⟩
structure ayL (C:Ctx):Prop extends a0I C where
 fmk:∀ n d:Int,cW n→cW d→aE C 50 [.int .i64 n,.int .i64 d] .nil (aD (DT n d))
theorem bqI {C:Ctx} (L:ayL C) (n:Int) (h1:cW n) :
  QR.wp C (aT aMP.res (bZ (.agg (mkT n 1).cells))) (PF.args [.int .i64 n]) .nil:=by
 simp only[go_sem,δ,QR,aYY,aYZ,aMP]
 refine aQ fun o ho=>?_
 simp only[go_sem,reduceCtorEq]
 refine aA (L.fmk n 1 h1 (by unfold cW; omega)) rfl ?_
 unfold DT
 rw[if_neg (by decide)]
 simp only[go_sem,δ,γ]
 refine aQ fun p hp=>?_
 have hne:o≠p:=by
  rintro rfl
  simp only[bL,if_true] at hp
  cases hp
 have bJJ:p≠o:=fun h=>hne h.symm
 simp only[go_sem,δ,γ,hne,aZA]
 refine aX (vs:=[.agg (mkT n 1).cells]) (.inr rfl) .nil ?_ PH.nil_le ⟨.refl _,rfl⟩
 simp only[go_sem,δ,γ,bJJ]
def fG (l:List Nat) (n a:Nat):Nat × Nat:=if l.length≤a∨n<2 then (0,a) else (l.getD a 0%n,a+1)
def axU (l:List Nat) (a:Nat):RF × Nat :=
 let x:=fG l 6 a
 let y:=fG l 8 x.2
 (mkT ((1+x.1:Nat):Int) ((1+y.1:Nat):Int),y.2)
abbrev oN:RF:=mkT 0 1
def bvK (l:List Nat) (i j a:Nat):RF × Nat :=
 if j=i+1 then axU l a
 else if j=i then (oN,a)
 else let t:=fG l 3 a
  if t.1=0 then axU l t.2 else (oN,t.2)
def btB (l:List Nat) (i a:Nat):Nat→List RF × Nat
 | 0=>([],a)
 | j+1=>let s:=btB l i a j
  let z:=bvK l i j s.2
  (s.1++[z.1],z.2)
structure brE where
 start:List RF
 exit:List RF
 bIJ:List (List RF)
 left:Nat
 a:Nat
def bwC (l:List Nat) (n i:Nat) (s:brE):Nat × Nat:=if i+1<n then fG l (s.left+1) s.a else (s.left,s.a)
def bvX (l:List Nat) (n i a:Nat):RF × Nat :=
 let e:=axU l a
 if i+1<n then (let t:=fG l 3 e.2; (if t.1=0 then oN else e.1,t.2)) else e
def brT (l:List Nat) (n a:Nat):Nat→brE
 | 0=>⟨[],[],[],8,a⟩
 | i+1=>let s:=brT l n a i
  let k:=bwC l n i s
  let e:=bvX l n i k.2
  let r:=btB l i e.2 n
  ⟨s.start++[mkT (k.1:Nat) 8],s.exit++[e.1],s.bIJ++[r.1],s.left-k.1,r.2⟩
def bCN (l:List Nat) (bsK a:Nat):cK × Nat :=
 let t:=fG l bsK a
 let s:=brT l (1+t.1) t.2 (1+t.1)
 (⟨[],s.start,s.bIJ,s.exit⟩,s.a)
def bsV (l:List Nat) (a:Nat):Nat→List RF × Nat
 | 0=>([],a)
 | k+1=>let s:=bsV l a k
  let z:=axU l s.2
  (s.1++[z.1],z.2)
abbrev yL (n:Nat):List UInt8:=Lib.decDigits n
def bkY (l:List Nat) (a:Nat):Nat→List cK × Nat
 | 0=>([],a)
 | k+1=>let s:=bkY l a k
  let z:=bCN l 2 s.2
  (s.1++[{ z.1 with name:=[108,97,119]++yL k }],z.2)
def aTM (l:List Nat) (bIN a:Nat):Nat→List cV × Nat
 | 0=>([],a)
 | k+1=>let s:=aTM l bIN a k
  let x:=fG l 4 s.2
  let y:=fG l 8 x.2
  let z:=fG l bIN y.2
  (s.1++[⟨[109]++yL k,(1+x.1:Nat),(1+y.1:Nat),(z.1:Nat)⟩],z.2)
structure GS where
 bIP:List bP
 bJD:List cD
 a:Nat
def bkT (l:List Nat) (mc bIE domain:Nat) (s:GS):Nat→GS
 | 0=>s
 | i+1=>let s:=bkT l mc bIE domain s i
  if s.bJD.length<bIE then
   let t:=fG l mc s.a
   { s with bJD:=s.bJD++[⟨[100]++yL s.bJD.length,(t.1:Nat),(domain:Nat)⟩],a:=t.2 }
  else s
def aTJ (level:Nat):UInt8:=match level with
 | 0=>45
 | 1=>115
 | 2=>114
 | 3=>107
 | _=>109
def bCF (l:List Nat) (level domain:Nat) (s:GS):GS :=
 let u:=fG l 16 s.a
 let t:=fG l 3 u.2
 let k:=fG l 6 t.2
 let sh:RF × Nat:=if t.1=0 then (mkT 1 ((2+k.1:Nat):Int),k.2) else (oN,t.2)
 { s with bIP:=s.bIP++[⟨[aTJ level]++yL s.bIP.length,(level:Nat),(domain:Nat),(1+u.1:Nat),sh.1⟩],a:=sh.2 }
def bvZ (bIE:Nat) (s:GS):Bool:=decide (bIE≤s.bJD.length)||decide (35≤s.bIP.length)
def bkU (l:List Nat) (level bIE domain:Nat) (rec:Nat→GS→GS) (s:GS):Nat→GS
 | 0=>s
 | i+1=>let s:=bkU l level bIE domain rec s i
  if bvZ bIE s then s else (let s':=bCF l level domain s; rec (s'.bIP.length-1) s')
def bkW (l:List Nat) (mc bIE:Nat):Nat→Nat→GS→GS
 | 0,domain,s=>let t:=fG l 2 s.a
  bkT l mc bIE domain { s with a:=t.2 } (1+t.1)
 | k+1,domain,s=>let t:=fG l 2 s.a
  bkU l (4-k) bIE domain (bkW l mc bIE k) { s with a:=t.2 } (if 4-k=2 then 1 else 1+t.1)
def jC:bP:=⟨[],0,-1,0,oN⟩
def SU (l:List Nat) (a:Nat):Int × Nat :=
 let t:=fG l 3 a
 let k:=fG l 3 t.2
 if t.1=0 then ((1+k.1:Nat),k.2) else (0,t.2)
def boV (l:List Nat) (bIF i a:Nat):dA × Nat :=
 let k:=fG l 2 a
 let m:=fG l 3 k.2
 let h:=fG l 4 m.2
 let q:=fG l (m.1+1) h.2
 let r:=bsV l q.2 (max m.1 1)
 let g:=fG l 9 r.2
 let s1:=SU l g.2
 let s2:=SU l s1.2
 let s3:=SU l s2.2
 let s4:=SU l s3.2
 let f:=fG l bIF s4.2
 let b:=fG l 2 f.2
 let ms:List Int × Nat:=if 1<bIF then (if b.1=0 then ([(f.1:Int),1-(f.1:Int)],b.2) else ([(f.1:Int)],b.2)) else ([(f.1:Int)],f.2)
 (⟨[112]++yL i,(1+k.1:Nat),(m.1:Nat),(1+k.1+q.1:Nat),0,s1.1,s2.1,s3.1,s4.1,ms.1,r.1,mkT (g.1:Nat) 8,mkT ((1+h.1:Nat):Int) 1⟩,ms.2)
def asB (l:List Nat) (bIF a:Nat):Nat→List dA × Nat
 | 0=>([],a)
 | k+1=>let s:=asB l bIF a k
  let z:=boV l bIF k s.2
  (s.1++[z.1],z.2)
def aMZ (l:List Nat) (pols a:Nat):Nat→List eD × Nat
 | 0=>([],a)
 | k+1=>let s:=aMZ l pols a k
  let z:=fG l pols s.2
  (s.1++[⟨[118]++yL k,(z.1:Nat)⟩],z.2)
def acA (l:List Nat) (bIE bIG a:Nat):aH × Nat :=
 let e:=fG l 2 a
 let lw:=fG l 2 e.2
 let bIN:=bkY l lw.2 (1+lw.1)
 let md:=fG l 2 bIN.2
 let bIF:=aTM l (1+lw.1) md.2 (1+md.1)
 let g:=bkW l (1+md.1) bIE 4 0 ⟨[jC],[],bIF.2⟩
 let pl:=fG l 2 g.a
 let pols:=asB l (1+md.1) pl.2 (1+pl.1)
 let vo:=fG l (bIG+1) pols.2
 let vols:=aMZ l (1+pl.1) vo.2 vo.1
 (⟨(1+e.1:Nat),bIN.1,bIF.1,g.bIP,g.bJD,pols.1,vols.1⟩,vols.2)
def nxM (l:List Int) (n a:Nat):Nat:=if n=0 then 0 else ((l.getD a ((a%3:Nat):Int))%(n:Int)).toNat
theorem cM (l:List Int) {n:Nat} (h:0<n) (a:Nat):nxM l n a<n:=by
 unfold nxM
 rw[if_neg Om]
 have h1:=Int.emod_lt_of_pos (l.getD a ((a%3:Nat):Int)) (Om:(0:Int)<n)
 have h2:=Int.emod_nonneg (l.getD a ((a%3:Nat):Int)) (Om:(n:Int)≠0)
 omega
def dN (c:UInt8) (n:Nat):List UInt8:=[c,UInt8.ofNat (97+n/26%26),UInt8.ofNat (97+n%26)]
def dK (ds:List bP) (level parent bJE:Nat):List bP:=ds++[⟨dN 110 ds.length,(level:Nat),(parent:Nat),(bJE:Nat),oN⟩]
structure MS where
 bIP:List bP
 bJD:List cD
 site:Nat
 room:Nat
 rack:Nat
 a:Nat
def eK (l:List Int) (i:Nat) (s:MS):MS :=
 let new (a:Nat):MS :=
  let d1:=dK s.bIP 1 0 (16+nxM l 17 a)
  let d2:=dK d1 2 s.bIP.length (16+nxM l 17 (a+1))
  let d3:=dK d2 3 d1.length (8+nxM l 9 (a+2))
  ⟨d3,s.bJD,s.bIP.length,d1.length,d2.length,a+3⟩
 if i=0 then new s.a
 else if nxM l 4 s.a=0 then new (s.a+1)
 else if nxM l 2 (s.a+1)=0 then ⟨dK s.bIP 3 s.room (8+nxM l 9 (s.a+2)),s.bJD,s.site,s.room,s.bIP.length,s.a+3⟩
 else { s with a:=s.a+2 }
def iV (l:List Int) (m:Nat):Nat→List cD × Nat→List cD × Nat
 | 0,s=>s
 | k+1,s=>if s.1.length<9 then iV l m k (s.1++[⟨dN 100 s.1.length,((if nxM l 4 s.2=0 then 1 else 0:Nat):Int),(m:Nat)⟩],s.2+1) else s
def yO (l:List Int) (i:Nat) (s:MS):MS :=
 let p:=eK l i s
 let ds:=dK p.bIP 4 p.rack (8+nxM l 9 p.a)
 let d:=iV l p.bIP.length (1+nxM l 2 (p.a+1)) (p.bJD,p.a+2)
 { p with bIP:=ds,bJD:=d.1,a:=d.2 }
def eH (l:List Int) (s:MS):Nat→MS
 | 0=>s
 | i+1=>yO l i (eH l s i)
def oP (l:List Int) (n a:Nat):dA :=
 let k:=1+nxM l 2 a
 let m:=nxM l 3 (a+1)
 ⟨dN 112 n,(k:Nat),(m:Nat),(k+nxM l (m+1) (a+2):Nat),0,0,0,(nxM l 4 (a+3):Nat),(nxM l 3 (a+4):Nat),if nxM l 5 (a+5)=0 then [0] else [0,1],bKL (max m 1) (mkT 1 2),mkT 1 1000,mkT 30 1⟩
def iD (l:List Int):Nat→Nat→List dA
 | 0,_=>[]
 | n+1,a=>oP l (n+1) a::iD l n (a+6)
def kU (l:List Int) (pols:Nat):Nat→Nat→List eD
 | 0,_=>[]
 | n+1,a=>⟨dN 118 (n+1),(nxM l pols a:Nat)⟩::kU l pols n (a+1)
def dH (l:List Int) (bIG a:Nat):aH × Nat :=
 let law:cK:=⟨[100,105,115,107],[mkT 1 1],[[mkT 0 1]],[mkT 1 ((100+nxM l 100 (a+1):Nat):Int)]⟩
 let m1:cV:=⟨[98,105,103],(3+nxM l 2 (a+2):Nat),(8+nxM l 9 (a+3):Nat),0⟩
 let m2:cV:=⟨[111,108,100],(1+nxM l 3 (a+4):Nat),(4+nxM l 9 (a+5):Nat),0⟩
 let s:=eH l ⟨[jC],[],0,0,0,a+7⟩ (3+nxM l 3 (a+6))
 let np:=1+nxM l 2 s.a
 let nv:=1+nxM l bIG (s.a+1+6*np)
 (⟨(1+nxM l 2 a:Nat),[law],[m1,m2],s.bIP,s.bJD,iD l np (s.a+1),kU l np nv (s.a+2+6*np)⟩,s.a+2+6*np+nv)
def pB (row:List Int) (n:Nat):Nat→Nat→Nat
 | 0,d=>d
 | k+1,d=>if row.contains (d:Int) then pB row n k ((d+1)%n) else d
def uS (l:List Int) (row:List Int) (n a:Nat):Int × Nat :=
 let d:=pB row n n (nxM l n a)
 if row.contains (d:Int) then (-1,a+1) else if nxM l 12 (a+1)=0 then (-1,a+2) else ((d:Int),a+2)
def jU (l:List Int) (n a:Nat):Nat→List Int × Nat
 | 0=>([],a)
 | i+1=>let s:=jU l n a i
  let z:=uS l s.1 n s.2
  (s.1++[z.1],z.2)
def cZ (l:List Int) (f:aH) (a:Nat):Nat→List (List Int) × Nat
 | 0=>([],a)
 | v+1=>let s:=cZ l f a v
  let r:=jU l f.bIE.length s.2 (fB f v).toNat
  (s.1++[r.1],r.2)
def wK (l:List Int) (x:Int) (a:Nat):Int × Nat :=
 if nxM l 9 a=0 then (0,a+1) else if nxM l 9 a=1 then ((nxM l (x+1).toNat (a+1):Nat),a+2) else (x,a+1)
def fF (l:List Int):List Int→Nat→List Int × Nat
 | [],a=>([],a)
 | x::xs,a=>let z:=wK l x a
  let r:=fF l xs z.2
  (z.1::r.1,r.2)
theorem aQR (l:List Int) (m:Nat):∀ (k:Nat) (s:List cD × Nat),s.1.length≤9→(iV l m k s).1.length≤9∧s.2≤(iV l m k s).2∧(iV l m k s).2≤s.2+k
 | 0,s,h=>⟨h,bKK _,bKK _⟩
 | k+1,s,h=>by
  rw[iV]
  split
  ·have:=aQR l m k (s.1++[⟨dN 100 s.1.length,((if nxM l 4 s.2=0 then 1 else 0:Nat):Int),(m:Nat)⟩],s.2+1) (by simp; omega)
   simp only at this
   omega
  ·exact⟨h,bKK _,by omega⟩
theorem aTL (a b:Nat):mkT (a:Int) (b:Int)=⟨false,aG (a/bKN a b),aG (b/bKN a b)⟩:=by
 have h1:decide ((a:Int)<0)=false:=decide_eq_false Om
 have h2:decide ((b:Int)<0)=false:=decide_eq_false Om
 unfold mkT kX FV.rf
 rw[h1,h2,Int.natAbs_natCast,Int.natAbs_natCast]
 rfl
structure SmF (x:RF) (p q:Nat):Prop where
 eq:x=⟨false,aG (p/bKN p q),aG (q/bKN p q)⟩
 a:p≤64
 b:q≤64
 pos:0<q
theorem SmF.mk' {a b:Nat} (ha:a≤64) (hb:b≤64) (h:0<b):SmF (mkT (a:Int) (b:Int)) a b:=⟨aTL a b,ha,hb,h⟩
theorem SmF.num {x:RF} {a b:Nat} (h:SmF x a b):val x.num=a/bKN a b:=by rw[h.eq,aR]
theorem SmF.den {x:RF} {a b:Nat} (h:SmF x a b):val x.den=b/bKN a b:=by rw[h.eq,aR]
theorem SmF.v {x:RF} {a b:Nat} (h:SmF x a b):x.v=(false,a/bKN a b,b/bKN a b):=by
 unfold RF.v
 rw[h.num,h.den,h.eq]
theorem SmF.aHI {x:RF} {a b:Nat} (_:SmF x a b):a/bKN a b≤a:=Nat.div_le_self ..
theorem SmF.azS {x:RF} {a b:Nat} (_:SmF x a b):b/bKN a b≤b:=Nat.div_le_self ..
theorem SmF.den_pos {x:RF} {a b:Nat} (h:SmF x a b):0<b/bKN a b:=Nat.div_pos (Nat.le_of_dvd h.pos (Nat.gcd_dvd_right a b)) (Nat.gcd_pos_of_pos_right a h.pos)
theorem vM {n:Nat} (h:n≤4096):cE n≤32:=(kL n 32).2 Om
theorem aOG {n:Nat} (h:0<n):0<cE n:=by
 rcases bNK (cE n) with e | e
 ·rw[jF] at e; omega
 ·exact e
theorem QQ {a b:Nat} (ha:a≤4096) (hb:b≤4096) (h:0<b):cN a b=true:=by
 have h1:=vM ha
 have h2:=vM hb
 have h3:=aOG h
 unfold cN
 rw[decide_eq_true h3,decide_eq_true (Om:cE b≤4096),decide_eq_true (Om:cE a≤4096)]
 rfl
theorem bnW {n:Bool} {a b:Nat} (ha:a≤4096) (hb:b≤4096):gQ n a b=.ok (n&&decide (a/bKN a b≠0),a/bKN a b,b/bKN a b):=by
 have h1:=vM (bNF (Nat.div_le_self a (bKN a b)) ha)
 have h2:=vM (bNF (Nat.div_le_self b (bKN a b)) hb)
 unfold gQ
 rw[if_neg Om]
theorem SmF.lim {x:RF} {a b:Nat} (h:SmF x a b):cI x=true:=by
 have h1:=h.aHI
 have h2:=h.azS
 have h3:=h.den_pos
 have:=h.a
 have:=h.b
 have hn:x.neg=false:=by rw[h.eq]
 unfold cI mP
 rw[h.num,h.den,hn,QQ Om Om h3,if_pos rfl,bnW Om Om]
 have e1:=Nat.div_le_self (a/bKN a b) (bKN (a/bKN a b) (b/bKN a b))
 have e2:=Nat.div_le_self (b/bKN a b) (bKN (a/bKN a b) (b/bKN a b))
 simp only[bKO,bKW,bKS,bLF,decide_eq_true_eq]
 exact⟨vM Om,vM Om⟩
theorem SmF.uF {x:RF} {a b:Nat} (h:SmF x a b) (ha:0<a):cB x=true:=by
 unfold cB
 rw[h.num]
 exact decide_eq_true (Nat.ne_of_gt (Nat.div_pos (Nat.le_of_dvd ha (Nat.gcd_dvd_left a b)) (Nat.gcd_pos_of_pos_right a h.pos)))
theorem SmF.zero {x:RF} {b:Nat} (h:SmF x 0 b):cB x=false:=by
 unfold cB
 rw[h.num,Nat.zero_div]
 rfl
theorem SmF.one {x:RF} {a b:Nat} (h:SmF x a b) (hab:a≤b):sB x=true:=by
 have h1:=h.aHI
 have h2:=h.azS
 have h3:=h.den_pos
 have:=h.a
 have:=h.b
 have hn:x.neg=false:=by rw[h.eq]
 unfold sB
 rw[h.num,h.den,hn,QQ Om Om h3]
 have:a/bKN a b≤b/bKN a b:=Nat.div_le_div_right hab
 show (true&&decide (dD (a/bKN a b*1) (1*(b/bKN a b))≤0))=true
 rw[Nat.mul_one,Nat.one_mul,bKS]
 refine decide_eq_true ?_
 unfold dD
 split
 ·decide
 ·split
  ·omega
  ·decide
theorem SmF.ok {x:RF} {a b:Nat} (h:SmF x a b):x.Ok:=by
 have h1:=h.aHI
 have h2:=h.azS
 have:=h.a
 have:=h.b
 have k1:nl (a/bKN a b)≤1:=(gV _ _).2 Om
 have k2:nl (b/bKN a b)≤1:=(gV _ _).2 Om
 rw[h.eq]
 refine⟨aU _,aU _,?_,?_⟩
 ·show (aG _).length≤_
  rw[aZ]; omega
 ·show (aG _).length≤_
  rw[aZ]; omega
theorem TI {l:List (List UInt8)} (h1:∀ x∈l,isName x=true) (h2:l.Nodup):distinct l=true:=by
 unfold distinct
 rw[bLA]
 intro i hi
 rw[bLL] at hi
 have e:l.getD i []=l[i]:=by simp[bLC,hi]
 rw[e,h1 _ (bKM hi),bKS]
 have:¬ l[i]∈l.take i:=by
  intro hm
  obtain⟨j,hj,e⟩:=bMP hm
  rw[bLB] at hj
  rw[List.getElem_take] at e
  have:=(List.nodup_iff_pairwise_ne.1 h2)
  rw[List.pairwise_iff_getElem] at this
  exact this j i Om hi Om e
 simp[this]
theorem NS {l:List (List UInt8)} {g:List UInt8→Nat} (h:∀ i (hi:i<l.length),g l[i]=i):l.Nodup:=by
 rw[List.nodup_iff_pairwise_ne,List.pairwise_iff_getElem]
 intro i j hi hj hlt e
 have h1:=h i hi
 have h2:=h j hj
 rw[e] at h1
 omega
theorem nE (a b:Nat) (ha:a<4294967296) (hb:b<4294967296):(mkT (a:Int) (b:Int)).Ok:=by
 rw[aTL]
 have h1:=Nat.div_le_self a (bKN a b)
 have h2:=Nat.div_le_self b (bKN a b)
 have k1:nl (a/bKN a b)≤1:=(gV _ _).2 Om
 have k2:nl (b/bKN a b)≤1:=(gV _ _).2 Om
 refine⟨aU _,aU _,?_,?_⟩
 ·show (aG _).length≤_
  rw[aZ]; omega
 ·show (aG _).length≤_
  rw[aZ]; omega
theorem kC {n:Nat} (h:n≤1000000):cW (n:Int):=by unfold cW; omega
def LE (ds:List bP):Prop:=∀ x∈ds,x.bIW.Ok∧cW x.level∧cW x.parent
def ZO (ds:List cD):Prop:=∀ x∈ds,cW x.model∧cW x.machine
theorem LE.dom {ds:List bP} (h:LE ds) {level parent bJE:Nat} (h1:level≤1000) (h2:parent≤1000):LE (dK ds level parent bJE):=fun x hx=>by
 unfold dK at hx
 rw[bLV,bLR] at hx
 rcases hx with hx | rfl
 ·exact h x hx
 ·exact⟨nE 0 1 (by decide) (by decide),kC Om,kC Om⟩
structure MOk (k:Nat) (a0:Nat) (s:MS):Prop where
 len:s.bIP.length≤1+4*k
 bIP:LE s.bIP
 dlen:s.bJD.length≤9
 bJD:ZO s.bJD
 room:s.room≤4*k
 rack:s.rack≤4*k
 lo:a0≤s.a
 hi:s.a≤a0+8*k
structure POk (k:Nat) (a0:Nat) (s:MS):Prop where
 len:s.bIP.length≤4+4*k
 bIP:LE s.bIP
 dlen:s.bJD.length≤9
 bJD:ZO s.bJD
 room:s.room≤3+4*k
 rack:s.rack≤3+4*k
 lo:a0≤s.a
 hi:s.a≤a0+8*k+4
theorem nD (ds:List bP) (a b c:Nat):(dK ds a b c).length=ds.length+1:=by simp[dK]
theorem UW (l:List Int) (i:Nat) {k a0:Nat} {s:MS} (hk:k≤100) (h:MOk k a0 s):POk k a0 (eK l i s):=by
 obtain⟨h1,h2,h3,h4,h5,h6,h7,h8⟩:=h
 have key:∀ a,s.a≤a→a≤s.a+1→POk k a0 ⟨dK (dK (dK s.bIP 1 0 (16+nxM l 17 a)) 2 s.bIP.length (16+nxM l 17 (a+1))) 3 (dK s.bIP 1 0 (16+nxM l 17 a)).length (8+nxM l 9 (a+2)),s.bJD,s.bIP.length,(dK s.bIP 1 0 (16+nxM l 17 a)).length,(dK (dK s.bIP 1 0 (16+nxM l 17 a)) 2 s.bIP.length (16+nxM l 17 (a+1))).length,a+3⟩:=fun a g1 g2 =>
  ⟨by simp only[nD]; omega,((h2.dom Om Om).dom Om Om).dom Om (by rw[nD]; omega),h3,h4,by simp only[nD]; omega,by simp only[nD]; omega,by simp only; omega,by simp only; omega⟩
 unfold eK
 simp only
 split
 ·exact key _ (bKK _) Om
 ·split
  ·exact key _ Om (bKK _)
  ·split
   ·exact⟨by simp only[nD]; omega,h2.dom Om Om,h3,h4,by simp only; omega,by simp only; omega,by simp only; omega,by simp only; omega⟩
   ·exact⟨by simp only; omega,h2,h3,h4,by simp only; omega,by simp only; omega,by simp only; omega,by simp only; omega⟩
theorem aoV (l:List Int) {m:Nat} (hm:m≤1000):∀ (k:Nat) (s:List cD × Nat),ZO s.1→ZO (iV l m k s).1
 | 0,s,h=>h
 | k+1,s,h=>by
  rw[iV]
  split
  ·refine aoV l hm k _ fun x hx=>?_
   rw[bLV,bLR] at hx
   rcases hx with hx | rfl
   ·exact h x hx
   ·refine⟨kC ?_,kC Om⟩
    split<;>omega
  ·exact h
theorem a2R (l:List Int) (i:Nat) {k a0:Nat} {s:MS} (hk:k≤100) (h:MOk k a0 s):MOk (k+1) a0 (yO l i s):=by
 obtain⟨h1,h2,h3,h4,h5,h6,h7,h8⟩:=UW l i hk h
 have n2:=cM l (show 0<2 by decide) ((eK l i s).a+1)
 unfold yO
 simp only
 obtain⟨g1,g2,g3⟩:=aQR l (eK l i s).bIP.length (1+nxM l 2 ((eK l i s).a+1)) ((eK l i s).bJD,(eK l i s).a+2) h3
 have g4:=aoV l (m:=(eK l i s).bIP.length) Om (1+nxM l 2 ((eK l i s).a+1)) ((eK l i s).bJD,(eK l i s).a+2) h4
 simp only at g2 g3
 exact⟨by simp only[nD]; omega,h2.dom Om Om,g1,g4,by simp only; omega,by simp only; omega,by simp only; omega,by simp only; omega⟩
theorem oW (l:List Int) {a0:Nat} {s:MS} (h:MOk 0 a0 s):∀ k,k≤100→MOk k a0 (eH l s k)
 | 0,_=>h
 | k+1,hk=>a2R l k Om (oW l h k Om)
theorem adT (a:Nat):MOk 0 a ⟨[jC],[],0,0,0,a⟩ :=
 ⟨by simp,fun x hx=>by
  rw[bLR] at hx
  subst hx
  exact⟨nE 0 1 (by decide) (by decide),by unfold cW jC; simp,by unfold cW jC; simp⟩,by simp,(fun x hx=>by cases hx),by simp,by simp,bKK _,by simp only; omega⟩
theorem pY (l:List Int):∀ n a,(iD l n a).length=n
 | 0,_=>rfl
 | n+1,a=>by rw[iD,bLX,pY l n]
theorem zG (l:List Int) (p:Nat):∀ n a,(kU l p n a).length=n
 | 0,_=>rfl
 | n+1,a=>by rw[kU,bLX,zG l p n]
theorem bnI:(mkT 1 2).Ok:=nE 1 2 (by decide) (by decide)
theorem boS (l:List Int) (n a:Nat):(oP l n a).Ok:=by
 have n1:=cM l (show 0<2 by decide) a
 have n2:=cM l (show 0<3 by decide) (a+1)
 have n3:=cM l (Om:0<nxM l 3 (a+1)+1) (a+2)
 unfold oP
 refine⟨kC Om,kC Om,kC Om,?_,?_,⟨?_,?_⟩,nE 1 1000 (by decide) (by decide),nE 30 1 (by decide) (by decide)⟩
 ·simp only; split<;>decide
 ·simp only
  intro m hm
  split at hm
  ·rw[bLR] at hm; subst hm; exact kC (n:=0) (by decide)
  ·rw[bKY,bLR] at hm
   rcases hm with rfl | rfl
   ·exact kC (n:=0) (by decide)
   ·exact kC (n:=1) (by decide)
 ·show (bKL _ _).length≤_
  rw[bNW]; omega
 ·intro x hx
  rw[List.eq_of_mem_replicate hx]; exact bnI
theorem aII (l:List Int):∀ n a,∀ p∈iD l n a,p.Ok
 | 0,_,p,h=>by cases h
 | n+1,a,p,h=>by
  rw[iD,bKY] at h
  rcases h with rfl | h
  ·exact boS l _ _
  ·exact aII l n _ p h
theorem aMY (l:List Int) {p:Nat} (hp:0<p) (hp2:p≤1000):∀ n a,∀ x∈kU l p n a,0≤x.bIS∧x.bIS<p∧cW x.bIS
 | 0,_,x,h=>by cases h
 | n+1,a,x,h=>by
  rw[kU,bKY] at h
  rcases h with rfl | h
  ·have:=cM l hp a
   exact⟨by simp only; omega,by simp only; omega,kC Om⟩
  ·exact aMY l hp hp2 n _ x h
theorem aIH (l:List Int):∀ n a,∀ p∈iD l n a,1≤p.k∧p.k≤2∧0≤p.m∧p.m≤2
 | 0,_,p,h=>by cases h
 | n+1,a,p,h=>by
  rw[iD,bKY] at h
  rcases h with rfl | h
  ·have n1:=cM l (show 0<2 by decide) a
   have n2:=cM l (show 0<3 by decide) (a+1)
   unfold oP
   simp only
   omega
  ·exact aIH l n _ p h
structure FM (f:aH):Prop where
 ok:f.Ok
 km:∀ p∈f.bII,1≤p.k∧p.k≤2∧0≤p.m∧p.m≤2
 bIE:f.bIE.length≤9
 pols:1≤f.bII.length∧f.bII.length≤2
 vols:∀ x∈f.bIG,0≤x.bIS∧x.bIS<f.bII.length
theorem yE (l:List Int) {bIG:Nat} (hv:bIG≤1000) (a:Nat):FM (dH l bIG a).1∧(dH l bIG a).1.bIG.length≤1+bIG∧a≤(dH l bIG a).2∧(dH l bIG a).2≤a+100+bIG:=by
 have n3:=cM l (show 0<3 by decide) (a+6)
 obtain⟨h1,h2,h3,h4,-,-,h7,h8⟩:=oW l (adT (a+7)) (3+nxM l 3 (a+6)) Om
 unfold dH
 simp only
 generalize eH l ⟨[jC],[],0,0,0,a+7⟩ (3+nxM l 3 (a+6))=s at *
 have n2:=cM l (show 0<2 by decide) s.a
 have nv:nxM l bIG (s.a+1+6*(1+nxM l 2 s.a))≤bIG:=by
  rcases bNK bIG with e | e
  ·subst e; unfold nxM; simp
  ·exact Nat.le_of_lt (cM l e _)
 have n100:=cM l (show 0<100 by decide) (a+1)
 have hvo:=aMY l (p:=1+nxM l 2 s.a) Om Om (1+nxM l bIG (s.a+1+6*(1+nxM l 2 s.a))) (s.a+2+6*(1+nxM l 2 s.a))
 refine⟨⟨⟨by simp,by simp,by unfold Fits; simp only; omega,by unfold Fits; simp only; omega,by unfold Fits; rw[pY]; omega,by unfold Fits; rw[zG]; omega,?_,h2,h4,fun p hp=>aII l _ _ p hp,fun x hx=>(hvo x hx).2.2⟩,fun p hp=>aIH l _ _ p hp,h3,by rw[pY]; omega,fun x hx=>by rw[pY]; exact⟨(hvo x hx).1,by have:=(hvo x hx).2.1; omega⟩⟩,by rw[zG]; omega,by omega,by omega⟩
 intro x hx
 rw[bLR] at hx
 subst hx
 refine⟨⟨by simp,fun x hx=>?_⟩,⟨by simp,fun x hx=>?_⟩,by simp,fun r hr=>?_⟩
 ·rw[bLR] at hx; subst hx; exact nE 1 1 (by decide) (by decide)
 ·rw[bLR] at hx; subst hx; exact nE 1 _ (by decide) Om
 ·rw[bLR] at hr
  subst hr
  refine⟨by simp,fun x hx=>?_⟩
  rw[bLR] at hx; subst hx; exact nE 0 1 (by decide) (by decide)
theorem FM.pol {f:aH} (h:FM f) {v:Nat} (hv:v<f.bIG.length):uD f v<f.bII.length∧dB f v∈f.bII:=by
 have h1:=h.vols _ (bKM hv)
 have h2:uD f v=(f.bIG[v]).bIS.toNat:=by rw[uD,nU hv]
 have h3:uD f v<f.bII.length:=by omega
 refine⟨h3,?_⟩
 unfold dB
 rw[bLC,bKU h3,bNE]
 exact bKM h3
theorem FM.WQ {f:aH} (h:FM f) {v:Nat} (hv:v<f.bIG.length):1≤fB f v∧fB f v≤4:=by
 have:=h.km _ (h.pol hv).2
 unfold fB
 omega
theorem DK (l:List Int) (n a:Nat):∀ k,(jU l n a k).1.length=k∧a≤(jU l n a k).2∧(jU l n a k).2≤a+2*k
 | 0=>⟨rfl,bKK _,bKK _⟩
 | k+1=>by
  obtain⟨h1,h2,h3⟩:=DK l n a k
  rw[jU]
  simp only[bKQ,bKX,h1,true_and]
  unfold uS
  simp only
  split
  ·simp only; omega
  ·split<;>simp only<;>omega
theorem qU (l:List Int) {f:aH} (hf:FM f) (a:Nat):∀ k,k≤f.bIG.length→(cZ l f a k).1.length=k∧(∀ r∈(cZ l f a k).1,r.length≤4)∧a≤(cZ l f a k).2∧(cZ l f a k).2≤a+8*k
 | 0,_=>⟨rfl,(fun r h=>by cases h),bKK _,bKK _⟩
 | k+1,hk=>by
  obtain⟨h1,h2,h3,h4⟩:=qU l hf a k Om
  have hfr:=hf.WQ (v:=k) Om
  obtain⟨r1,r2,r3⟩:=DK l f.bIE.length (cZ l f a k).2 (fB f k).toNat
  rw[cZ]
  simp only[bKQ,bKX,h1,true_and]
  refine⟨fun r hr=>?_,by omega,by omega⟩
  rw[bLV,bLR] at hr
  rcases hr with hr | rfl
  ·exact h2 r hr
  ·rw[r1]; omega
def aJM:Rg:=[iA 2 (.box true (Tm 0)),iI 4 0]
def aJN:Rd:=[(iF 6 5 2,false),(iL 7 6,false),(iF 8 6 2,false),(iL 9 8,false),(iM 10 1,false),(iX 11 2 9 10,false),(iF 12 1 11,false),(iL 13 12,false),(iX 14 17 7 13,false),(iO 15 17 14,false),(iA 5 (.alloc [(.str []),(.int .i64 0),(.int .i64 0),(.int .i64 0),(.int .i64 0),(.int .i64 0),(.int .i64 0),(.int .i64 0),(.int .i64 0),.aB,.aB,(.bool false),.aB,.aB,(.bool false),.aB,.aB]),true),(iS 17 5 15,true)]
def aJO:Rg:=[iF 16 1 5,iL 17 16,iF 18 2 5,iL 19 18,iB 20 .add 17 19,iM 4 20]
def IB:aC:=(sq aJM (dq aJN (sq aJO .ret)))
def biM:List Nat:=[2]
def afG:aW:=⟨2,21,IB,[.tmp 4]⟩
abbrev bwP (l:List Nat):List (List PV):=l.map fun (n:Nat)=>[PV.int .u8 (n:Int)]
abbrev axX (v:PV) (a:Nat):cS:=.rows 2 [[v,.int .i64 a]]
structure Tp (l:List Nat) (v:PV):Prop where
 seen:Seen 1 v (bwP l)
 byte:∀ x∈l,x<256
 len:l.length≤400
section
variable {C:Ctx} {F:PF} {H:PH} {l:List Nat} {v:PV} {o a:Nat}
end
abbrev SL (l:List RF):List (List PV):=l.map RF.cells
theorem a1T (l:List RF) (x:RF):SL l++[x.cells]=SL (l++[x]):=by simp[SL]
theorem MO (l:List RF):(SL l).length=l.length:=by simp[SL]
theorem Tp.frz {l:List Nat} {v:PV} (T:Tp l v) (q s:Nat) (rs:List (List PV)):PV.dE q s rs v=v:=by
 rcases T.seen with ⟨_,rfl⟩ | rfl<;>rfl



section
variable {C:Ctx} {F:PF} {H Hs:PH} {l:List Nat} {v:PV} {o a:Nat}
end
theorem bJ.uB {H:PH} {s:Nat} {v:PV} {rows:List (List PV)} (h:bJ H s v rows):PV.uB v=some (.int .i64 (rows.length:Nat)):=by
 rcases h with ⟨rfl,rfl⟩ | ⟨q,rs,rfl,_⟩<;>rfl
abbrev dL (l:List bP):List (List PV):=l.map bP.cells
abbrev eE (l:List cD):List (List PV):=l.map cD.cells
abbrev flB (ext wl wm wd wr wp wv:PV):cS:=.rows 7 [[ext,wl,wm,wd,wr,wp,wv]]
structure GE where
 o:Nat
 fo:Nat
 qm:Nat
 ext:PV
 wl:PV
 wp:PV
 wv:PV
abbrev GE.boxes (G:GE) (v:PV) (mc:Nat) (wd wr:PV) (a:Nat):List BX:=[(G.o,axX v a),(G.fo,flB G.ext G.wl (.osl G.qm 4 0 mc) wd wr G.wp G.wv)]
theorem bJ.one {H:PH} {s:Nat} {v:PV} {rows:List (List PV)} (h:bJ H s v rows) (hn:0<rows.length):∃ q,v=.osl q s 0 rows.length:=by
 rcases h with ⟨rfl,_⟩ | ⟨q,rs,rfl,_⟩
 ·simp at hn
 ·exact⟨q,rfl⟩


structure FE where
 o:Nat
 o6:Nat
 o7:Nat
 bIE:Nat
 bIG:Nat
abbrev flZ:cS:=flB (.int .i64 0) .aB .aB .aB .aB .aB .aB
abbrev FE.boxes (E:FE) (v ext w1 w2 w3 w4 w5 w6:PV) (a:Nat):List BX:=[(E.o,axX v a),(E.o7,flB ext w1 w2 w3 w4 w5 w6),(E.o6,flZ)]
abbrev aEY (l:List cK):List (List PV):=l.map cK.cells
abbrev a8V (l:List cV):List (List PV):=l.map cV.cells


abbrev FE.lists (w1 w2 w3 w4 w5:PV) (lw:List cK) (md:List cV) (dm:List bP) (dv:List cD) (pr:List (List PV)):List LI:=[(w1,4,aEY lw),(w2,4,a8V md),(w3,7,dL dm),(w4,3,eE dv),(w5,17,pr)]
abbrev lE (l:List dA):List (List PV):=l.map dA.cells
abbrev oX (l:List eD):List (List PV):=l.map eD.cells
theorem rC {rows:List (List PV)} (h:∀ r∈rows,∀ c∈r,c.oid=none):Flat rows:=Flat.of fun r hr c hc q s rs=>uR (h r hr c hc) q s rs
theorem aQQ (l:List bP):Flat (dL l):=rC fun r hr c hc=>by
 obtain⟨x,_,rfl⟩:=bLP.1 hr
 simp only[bP.cells,bKY,bLZ,or_false] at hc
 rcases hc with rfl | rfl | rfl | rfl | rfl | rfl | rfl<;>rfl
theorem aQS (l:List cD):Flat (eE l):=rC fun r hr c hc=>by
 obtain⟨x,_,rfl⟩:=bLP.1 hr
 simp only[cD.cells,bKY,bLZ,or_false] at hc
 rcases hc with rfl | rfl | rfl<;>rfl
theorem bqK (l:List eD):Flat (oX l):=rC fun r hr c hc=>by
 obtain⟨x,_,rfl⟩:=bLP.1 hr
 simp only[eD.cells,bKY,bLZ,or_false] at hc
 rcases hc with rfl | rfl<;>rfl
theorem aVG (l:List dA):Flat (lE l):=rC fun r hr c hc=>by
 obtain⟨x,_,rfl⟩:=bLP.1 hr
 simp only[dA.cells,bKY,bLZ,or_false] at hc
 rcases hc with rfl | rfl | rfl | rfl | rfl | rfl | rfl | rfl | rfl | rfl | rfl | rfl | rfl | rfl | rfl | rfl | rfl<;>rfl
def a6N (l:List Nat) (v:PV) (o bIE bIG a:Nat) (r:PV) (H:PH):Prop:=Co r (.agg (acA l bIE bIG a).1.cells)∧H=PH.nil.set o (axX v (acA l bIE bIG a).2)
theorem a6N.exact {C:Ctx} {name:Nat} {args:List PV} {H:PH} {l:List Nat} {v:PV} {o bIE bIG a:Nat} (h:aE C name args H (a6N l v o bIE bIG a)):aE C name args H (fun r H=>r=.agg (acA l bIE bIG a).1.cells∧H=PH.nil.set o (axX v (acA l bIE bIG a).2)) :=
 h.post fun r H' hr=>⟨_,hr.1,rfl,hr.2⟩
theorem bwN (x:Int) {n:Int} (h:0<n):(if Int.tmod x n<0 then Int.tmod x n+n else Int.tmod x n)=x%n:=by
 rcases Int.le_total 0 x with c | c
 ·have e:=Int.tmod_eq_emod_of_nonneg c (b:=n)
  have h1:=Int.emod_nonneg x (Om:n≠0)
  rw[e,if_neg Om]
 ·have e:Int.tmod x n=-((-x)%n):=by rw[← Int.tmod_eq_emod_of_nonneg (Om:0≤-x),Int.neg_tmod,Int.neg_neg]
  have h1:=Int.emod_nonneg (-x) (Om:n≠0)
  have h2:=Int.neg_emod (a:=-x) (b:=n)
  rw[Int.neg_neg] at h2
  rw[e,h2]
  by_cases d:n ∣ -x
  ·rw[if_pos d,Int.emod_eq_zero_of_dvd d]
   simp
  ·have h3:(-x)%n≠0:=fun h=>d (Int.dvd_of_emod_eq_zero h)
   rw[if_neg d,if_pos Om]
   omega
abbrev bG (l:List Int) (a:Nat):cS:=.rows 2 [[ints l,.int .i64 (a:Nat)]]
def ZR (l:List Int) (o n a:Nat) (r:PV) (H:PH):Prop:=r=.int .i64 (nxM l n a:Nat)∧H=PH.nil.set o (bG l (a+1))
theorem bfE {C:Ctx} (l:List Int) (hl:l.length≤9223372036854775807) (h64:∀ x∈l,cW x) (o n a:Nat) (hn:n≤1000000) (ha:a≤1000000):FN.wp C (aT FL.res (ZR l o n a)) (PF.args [.ptr o 2 0 0,.int .i64 n]) (PH.nil.set o (bG l a)):=by
 have ew:IntKind.i64.wrap ((a:Int)+1)=((a+1:Nat):Int):=dC Om
 have e3:Int.tmod ((a:Nat):Int) 3=((a%3:Nat):Int):=rfl
 have rest:∀ (x:Int) (F:PF),cW x→x=l.getD a ((a%3:Nat):Int)→F 0=some (.ptr o 2 0 0)→F 1=some (.int .i64 n)→F 5=some (.int .i64 x) →
   aC.wp C (.seq (.region WH) (.seq (.seq (.region WI) (.cond (.tmp 40) (.seq (.region WJ) .ret) .skip)) (.seq (.region WK) (.seq (.seq (.region WL) (.cond (.tmp 45) (.seq (.region WM) .ret) .skip)) (.seq (.region LW) .ret))))) (aT FL.res (ZR l o n a)) F (PH.nil.set o (bG l a)):=by
  intro x F hx he f0 f1 f5
  simp only[go_sem,γ,δ,ε,ζ,η,θ,ι,κ,μ,ν,ξ,ο,ρ,σ,τ,υ,reduceIte,reduceCtorEq,WH,f0,ew,WI,f1,FL]
  by_cases c:n=0
  ·have c':((n:Nat):Int)<1:=by omega
   simp only[go_sem,γ,δ,ε,ζ,η,θ,ι,κ,μ,ν,ξ,ο,ρ,σ,τ,υ,reduceIte,reduceCtorEq,c',WJ]
   refine aX (vs:=[.int .i64 0]) (.inr rfl) _ rfl PH.le_refl ⟨?_,rfl⟩
   unfold nxM
   rw[if_pos c]; rfl
  ·have c':¬ ((n:Nat):Int)<1:=by omega
   have hn0:¬ ((n:Nat):Int)=0:=by omega
   have hm:=bwN x (Om:(0:Int)<n)
   have h1:=Int.emod_nonneg x (Om:(n:Int)≠0)
   have h2:=Int.emod_lt_of_pos x (Om:(0:Int)<n)
   have hT:nxM l n a=(x%(n:Int)).toNat:=by unfold nxM; rw[if_neg c,he]
   simp only[go_sem,γ,δ,ε,ζ,η,θ,ι,κ,μ,ν,ξ,ο,ρ,σ,τ,υ,reduceIte,reduceCtorEq,c',WK,f5,f1,hn0,WL]
   by_cases d:Int.tmod x n<0
   ·rw[if_pos d] at hm
    have e4:IntKind.i64.wrap (Int.tmod x n+n)=((nxM l n a:Nat):Int):=by rw[hm,wrap_i64 Om Om,hT]; omega
    simp only[go_sem,γ,δ,ε,ζ,η,θ,ι,κ,μ,ν,ξ,ο,ρ,σ,τ,υ,reduceIte,reduceCtorEq,d,WM,f1,e4]
    exact aX (vs:=[.int .i64 (nxM l n a:Nat)]) (.inr rfl) _ rfl PH.le_refl ⟨rfl,rfl⟩
   ·rw[if_neg d] at hm
    have e4:Int.tmod x n=((nxM l n a:Nat):Int):=by rw[hm,hT]; omega
    have d':¬ ((nxM l n a:Nat):Int)<0:=by omega
    simp only[go_sem,γ,δ,ε,ζ,η,θ,ι,κ,μ,ν,ξ,ο,ρ,σ,τ,υ,reduceIte,reduceCtorEq,e4,d',LW]
    exact aX (vs:=[.int .i64 (nxM l n a:Nat)]) (.inr rfl) _ rfl PH.le_refl ⟨rfl,rfl⟩
 simp only[aC.wp,go_sem] at rest
 simp only[go_sem,γ,δ,ε,ζ,η,θ,ι,κ,μ,ν,ξ,ο,ρ,σ,τ,υ,reduceIte,reduceCtorEq,FN,aAG,aAH,FL,e3]
 refine bS .nil eC PH.nil_le ?_
 simp only[go_sem,γ,δ,ε,ζ,η,θ,ι,κ,μ,ν,ξ,ο,ρ,σ,τ,υ,reduceIte,reduceCtorEq,aAI,bKI]
 by_cases c:a<l.length
 ·have c':(a:Int)<(l.length:Nat):=by omega
  have hat:(l.map fun n=>[PV.int .i64 n])[a]?=some [.int .i64 l[a]]:=by simp[c]
  simp only[go_sem,γ,δ,ε,ζ,η,θ,ι,κ,μ,ν,ξ,ο,ρ,σ,τ,υ,reduceIte,reduceCtorEq,c']
  refine bS .nil eC PH.nil_le ?_
  simp only[go_sem,γ,δ,ε,ζ,η,θ,ι,κ,μ,ν,ξ,ο,ρ,σ,τ,υ,reduceIte,reduceCtorEq,aAJ,hat]
  refine rest l[a] _ (h64 _ (bKM c)) (by simp[bLC,c]) ?_ ?_ ?_
  all_goals exact rfl
 ·have c':¬ (a:Int)<(l.length:Nat):=by omega
  simp only[go_sem,γ,δ,ε,ζ,η,θ,ι,κ,μ,ν,ξ,ο,ρ,σ,τ,υ,reduceIte,reduceCtorEq,c']
  refine rest ((a%3:Nat):Int) _ (by unfold cW; omega) (by simp[bLC,bLW (Om:l.length≤a)]) ?_ ?_ ?_
  all_goals exact rfl
def TpM (l:List Int):Prop:=l.length≤9223372036854775807∧∀ x∈l,cW x
structure EB (C:Ctx):Prop where
 fmk:∀ n d:Int,cW n→cW d→aE C 50 [.int .i64 n,.int .i64 d] .nil (aD (DT n d))
 next:∀ l:List Int,TpM l→∀ o n a:Nat,n≤1000000→a≤1000000→aE C 240 [.ptr o 2 0 0,.int .i64 n] (PH.nil.set o (bG l a)) (ZR l o n a)
theorem cH {C:Ctx} {F:PF} {H:PH} {l:List Int} {o a:Nat} (Lb:EB C) (T:TpM l) {n:Nat} {args:List aP} {d:Option Nat} {K:PF→PH→Prop} (hn:n≤1000000) (ha:a≤1000000) (bJX:aP.evs F args=some [.ptr o 2 0 0,.int .i64 n]) (ho:H o=some (bG l a))
  (hk:K (F.put d (.int .i64 (nxM l n a:Nat))) (H.set o (bG l (a+1)))):fU C 240 args [] d K F H :=
 CB (Lb.next l T o n a hn ha) ho bJX hk
theorem beV {C:Ctx} (Lb:EB C) (n d:Int) (h1:cW n) (h2:cW d) (hd:d≠0):FH.wp C (aT abF.res (aD (.agg (mkT n d).cells))) (PF.args [.int .i64 n,.int .i64 d]) .nil:=by
 simp only[go_sem,γ,δ,ε,ζ,η,θ,ι,κ,μ,ν,ξ,ο,ρ,σ,τ,υ,reduceIte,reduceCtorEq,FH,azT,abF]
 refine aQ fun p hp=>?_
 simp only[go_sem,γ,δ,ε,ζ,η,θ,ι,κ,μ,ν,ξ,ο,ρ,σ,τ,υ,reduceIte,reduceCtorEq,azU]
 refine aA (Lb.fmk n d h1 h2) rfl ?_
 unfold DT
 rw[if_neg hd]
 simp only[go_sem,γ,δ,ε,ζ,η,θ,ι,κ,μ,ν,ξ,ο,ρ,σ,τ,υ,reduceIte,reduceCtorEq]
 refine aQ fun q hq=>?_
 have n3:¬ q=p:=(cX.1 hq).1
 have n3':¬ p=q:=fun h=>n3 h.symm
 simp only[go_sem,γ,δ,ε,ζ,η,θ,ι,κ,μ,ν,ξ,ο,ρ,σ,τ,υ,reduceIte,reduceCtorEq,azV,n3,n3']
 refine aL (vs:=[.agg (mkT n d).cells]) (.inr rfl) ?_ rfl
 simp only[go_sem,γ,δ,ε,ζ,η,θ,ι,κ,μ,ν,ξ,ο,ρ,σ,τ,υ,reduceIte,reduceCtorEq]
theorem bfC {C:Ctx} (c:UInt8) (n:Nat) (hn:n<100):FK.wp C (aT abR.res (aD (.str (dN c n)))) (PF.args [.int .u8 c.toNat,.int .i64 n]) .nil:=by
 have e1:bME ((n:Nat):Int) 26=((n/26:Nat):Int):=rfl
 have e2:Int.tmod ((n/26:Nat):Int) 26=((n/26%26:Nat):Int):=rfl
 have e3:Int.tmod ((n:Nat):Int) 26=((n%26:Nat):Int):=rfl
 have w1:IntKind.i64.wrap (97+((n/26%26:Nat):Int))=((97+n/26%26:Nat):Int):=by rw[wrap_i64 Om Om]; omega
 have w2:IntKind.i64.wrap (97+((n%26:Nat):Int))=((97+n%26:Nat):Int):=by rw[wrap_i64 Om Om]; omega
 have w3:IntKind.u8.wrap ((97+n/26%26:Nat):Int)=((97+n/26%26:Nat):Int):=wrap_u8 Om Om
 have w4:IntKind.u8.wrap ((97+n%26:Nat):Int)=((97+n%26:Nat):Int):=wrap_u8 Om Om
 have w0:IntKind.i64.wrap ((n/26:Nat):Int)=((n/26:Nat):Int):=xV Om
 have hbr:pG [[PV.int .u8 ((c.toNat:Nat):Int)],[PV.int .u8 ((97+n/26%26:Nat):Int)],[PV.int .u8 ((97+n%26:Nat):Int)]]=some (dN c n):=by
  show some [UInt8.ofNat c.toNat,_,_]=_
  rw[UInt8.ofNat_toNat]
  rfl
 have h13:(1:Nat)*3≤16777216:=by decide
 simp only[go_sem,γ,δ,ε,ζ,η,θ,ι,κ,μ,ν,ξ,ο,ρ,σ,τ,υ,reduceIte,reduceCtorEq,FK,aAE,aAF,abR,e1,w0,e2,e3,w1,w2,w3,w4,h13,hbr]
 refine aL (.inr rfl) rfl ?_
 rfl
structure oQ (C:Ctx):Prop extends EB C where
 frac:∀ n d:Int,cW n→cW d→d≠0→aE C 241 [.int .i64 n,.int .i64 d] .nil (aD (.agg (mkT n d).cells))
 name:∀ (c:UInt8) (n:Nat),n<100→aE C 242 [.int .u8 c.toNat,.int .i64 n] .nil (aD (.str (dN c n)))
def mdS (l:List Int):Spec:=fun name vs=>match name,vs with
 | 242,[.int _ c,.int _ i]=>some ([],fun _=>aD (.str (dN (UInt8.ofNat c.toNat) i.toNat)))
 | 241,[.int _ n,.int _ d]=>some ([],fun _=>aD (.agg (mkT n d).cells))
 | 240,[.ptr o _ _ _,.int _ n]=>some ([o],fun H0 r H'=>∀ a,H0 o=some (bG l a)→ZR l o n.toNat a r H')
 | _,_=>none
section
variable {C:Ctx} {F:PF} {H Hs:PH} {l:List Int} {o a:Nat}
theorem a7B (Lb:EB C) (T:TpM l) {n:Nat} {st:Bool} {args:List aP} {d:Option Nat} {K:PF→PH→Prop} (hn:n≤1000000) (ha:a≤1000000) (bJX:aP.evs F args=some [.ptr o 2 0 0,.int .i64 n]) (ho:H o=some (bG l a))
  (hle:Hs.le (H.set o (bG l (a+1)))) (hk:K (F.put d (.int .i64 (nxM l n a:Nat))) (H.set o (bG l (a+1)))):dOp C Hs (mdS l) st (.call 240 args) d K F H:=by
 refine azQ (x:=bG l a) (y:=bG l (a+1)) (r:=.int .i64 (nxM l n a:Nat)) (R:=fun H0 r H'=>∀ a,H0 o=some (bG l a)→ZR l o n a r H') rfl ho (Lb.next l T o n a hn ha) ?_ ?_ bJX hle hk
 ·intro b hb
  rw[eS] at hb
  injection hb with hb
  injection hb with _ hb
  injection hb with hb _
  injection hb with _ hb
  injection hb with hb _
  injection hb with _ hb
  have:a=b:=by omega
  subst this
  exact⟨rfl,rfl⟩
 ·intro r' H' hr
  exact hr a (by rw[eS])
theorem LP (Lb:oQ C) {c:UInt8} {n:Nat} {st:Bool} {args:List aP} {d:Option Nat} {K:PF→PH→Prop} (hn:n<100) (bJX:aP.evs F args=some [.int .u8 c.toNat,.int .i64 n]) (hle:Hs.le H) (hk:K (F.put d (.str (dN c n))) H):dOp C Hs (mdS l) st (.call 242 args) d K F H :=
 bQ (v:=.str (dN c n)) (by show some _=_; rw[bNO,UInt8.ofNat_toNat]; rfl) (Lb.name c n hn) bJX hle hk
theorem aoA (Lb:oQ C) {n m:Int} {st:Bool} {args:List aP} {d:Option Nat} {K:PF→PH→Prop} (hn:cW n) (hm:cW m) (h0:m≠0) (bJX:aP.evs F args=some [.int .i64 n,.int .i64 m]) (hle:Hs.le H) (hk:K (F.put d (.agg (mkT n m).cells)) H):dOp C Hs (mdS l) st (.call 241 args) d K F H :=
 bQ (v:=.agg (mkT n m).cells) rfl (Lb.frac n m hn hm h0) bJX hle hk
end
def brD (o7:Nat) (ext w1 w2 w4 w5 w6:PV) (ds:List bP) (lev par up:Nat) (r:PV) (B':List BX) (L':List LI):Prop:=r=.int .i64 (ds.length:Nat)∧∃ w',B'=[(o7,flB ext w1 w2 w' w4 w5 w6)]∧L'=[(w',7,dL (dK ds lev par up))]
theorem blS {C:Ctx} (Lb:oQ C) (o7:Nat) (ext w1 w2 wd w4 w5 w6:PV) (ds:List bP) (hds:ds.length≤90) (lev par up:Nat) (H0:PH) (hH:aS H0 [(o7,flB ext w1 w2 wd w4 w5 w6)] [(wd,7,dL ds)]) :
  LQ.wp C (aT azR.res (fun r H'=>∃ B' L',brD o7 ext w1 w2 w4 w5 w6 ds lev par up r B' L'∧aS H' B' L')) (PF.args [.ptr o7 7 0 0,.int .i64 lev,.int .i64 par,.int .i64 up]) H0:=by
 have b:=hH.at 0 rfl
 have lw:=(hH.own 0 rfl).uB
 rw[bKI] at lw
 simp only[go_sem,γ,δ,ε,ζ,η,θ,ι,κ,μ,ν,ξ,ο,ρ,σ,τ,υ,reduceIte,reduceCtorEq,LQ,aQJ,aQK,azR,b,lw]
 refine bS (PH.nil.set o7 (flB ext w1 w2 wd w4 w5 w6)) (mdS []) (PH.aK PH.nil_le b) ?_
 simp only[go_sem,γ,δ,ε,ζ,η,θ,ι,κ,μ,ν,ξ,ο,ρ,σ,τ,υ,reduceIte,reduceCtorEq,aQL]
 refine LP Lb (c:=110) (n:=ds.length) Om rfl (PH.aK PH.nil_le b) ?_
 simp only[go_sem,γ,δ,ε,ζ,η,θ,ι,κ,μ,ν,ξ,ο,ρ,σ,τ,υ,reduceIte,reduceCtorEq]
 refine aoA Lb (n:=0) (m:=1) (by unfold cW; omega) (by unfold cW; omega) (by decide) rfl (PH.aK PH.nil_le b) ?_
 have h17:(1:Nat)*7≤16777216:=by decide
 simp only[go_sem,γ,δ,ε,ζ,η,θ,ι,κ,μ,ν,ξ,ο,ρ,σ,τ,υ,reduceIte,reduceCtorEq,h17]
 refine hH.append 0 (src:=[(⟨dN 110 ds.length,(lev:Nat),(par:Nat),(up:Nat),oN⟩:bP).cells]) rfl rfl (by unfold roomFor; rw[bKI]; simp only[bKX,maxLen]; omega) fun w' H2 h5 hw=>?_
 obtain⟨q,rfl⟩:=hw (by simp)
 have b2:=h5.at 0 rfl
 refine⟨PH.aK PH.nil_le b2,?_⟩
 refine bS .nil eC PH.nil_le ?_
 simp only[go_sem,γ,δ,ε,ζ,η,θ,ι,κ,μ,ν,ξ,ο,ρ,σ,τ,υ,reduceIte,reduceCtorEq,aQM,b2,bKY,bLZ,or_false,forall_eq]
 have h6:=h5.set 0 rfl (flB ext w1 w2 (.osl q 7 0 (dL ds++[(⟨dN 110 ds.length,(lev:Nat),(par:Nat),(up:Nat),oN⟩:bP).cells]).length) w4 w5 w6)
 refine⟨PH.nil_le,?_⟩
 simp only[go_sem,γ,δ,ε,ζ,η,θ,ι,κ,μ,ν,ξ,ο,ρ,σ,τ,υ,reduceIte,reduceCtorEq,aQN]
 have e:dL (dK ds lev par up)=dL ds++[(⟨dN 110 ds.length,(lev:Nat),(par:Nat),(up:Nat),oN⟩:bP).cells]:=by simp[dL,dK]
 refine aX (vs:=[.int .i64 (ds.length:Nat)]) (.inr rfl) _ rfl PH.le_refl ⟨_,_,⟨rfl,.osl q 7 0 (dL ds++[(⟨dN 110 ds.length,(lev:Nat),(par:Nat),(up:Nat),oN⟩:bP).cells]).length,rfl,rfl⟩,?_⟩
 rw[e]
 exact h6
structure CK (C:Ctx):Prop extends oQ C where
 dom:∀ (o7:Nat) (ext w1 w2 wd w4 w5 w6:PV) (ds:List bP),ds.length≤90→∀ (lev par up:Nat) (H0:PH),aS H0 [(o7,flB ext w1 w2 wd w4 w5 w6)] [(wd,7,dL ds)] →
  aE C 243 [.ptr o7 7 0 0,.int .i64 lev,.int .i64 par,.int .i64 up] H0 (fun r H'=>∃ B' L',brD o7 ext w1 w2 w4 w5 w6 ds lev par up r B' L'∧aS H' B' L')
theorem rJ {C:Ctx} {F:PF} {H:PH} (Lb:CK C) {o7:Nat} {ext w1 w2 wd w4 w5 w6:PV} {ds:List bP} {B2:List BX} {L2:List LI} {lev par up:Nat} {args:List aP} {d:Option Nat} {K:PF→PH→Prop}
  (h:aS H ((o7,flB ext w1 w2 wd w4 w5 w6)::B2) ((wd,7,dL ds)::L2)) (hds:ds.length≤90) (bJX:aP.evs F args=some [.ptr o7 7 0 0,.int .i64 lev,.int .i64 par,.int .i64 up])
  (hk:∀ wd' H',aS H' ((o7,flB ext w1 w2 wd' w4 w5 w6)::B2) ((wd',7,dL (dK ds lev par up))::L2)→K (F.put d (.int .i64 (ds.length:Nat))) H'):fU C 243 args [] d K F H:=by
 refine VS (B1:=[(o7,flB ext w1 w2 wd w4 w5 w6)]) (L1:=[(wd,7,dL ds)]) h (fun H0 hH0=>Lb.dom o7 ext w1 w2 wd w4 w5 w6 ds hds lev par up H0 hH0) bJX ?_
 rintro r B' L' H' ⟨rfl,wd',rfl,rfl⟩ h'
 exact hk wd' H' h'
structure ME where
 o:Nat
 o4:Nat
 o5:Nat
 vols:Nat
abbrev ME.boxes (E:ME) (l:List Int) (ext w1 w2 wd wr wp wv:PV) (a:Nat):List BX:=[(E.o5,flB ext w1 w2 wd wr wp wv),(E.o,bG l a),(E.o4,flZ)]
def tX (E:ME):PF:=((((PF.nil.set 0 (.ptr E.o 2 0 0)).set 1 (.int .i64 E.vols)).set 4 (.ptr E.o4 7 0 0)).set 5 (.ptr E.o5 7 0 0))
def eU (E:ME) (n room rack i:Nat):PF:=((((((((PF.nil.set 0 (.ptr E.o 2 0 0)).set 1 (.int .i64 E.vols)).set 4 (.ptr E.o4 7 0 0)).set 5 (.ptr E.o5 7 0 0)).set 6 (.int .i64 n)).set 8 (.int .i64 room)).set 9 (.int .i64 rack)).set 10 (.int .i64 i))
def jR (E:ME) (n room rack i m k:Nat):PF:=((((((((((PF.nil.set 0 (.ptr E.o 2 0 0)).set 1 (.int .i64 E.vols)).set 4 (.ptr E.o4 7 0 0)).set 5 (.ptr E.o5 7 0 0)).set 6 (.int .i64 n)).set 8 (.int .i64 room)).set 9 (.int .i64 rack)).set 10 (.int .i64 i)).set 11 (.int .i64 m)).set 12 (.int .i64 k))
theorem blU {C:Ctx} (Lb:oQ C) {l:List Int} (T:TpM l) (E:ME) (n room rack i m:Nat) (ext w1 w2 wd:PV) (ds:List bP) (k0:Nat) (s0:List cD × Nat) (wr0:PV) (h0:s0.1.length≤9) (ha:s0.2+k0≤100000) (K:cO) (F:PF) (H:PH)
  (hF:(jR E n room rack i m k0).le F) (hH:aS H (E.boxes l ext w1 w2 wd wr0 .aB .aB s0.2) [(wd,7,dL ds),(wr0,3,eE s0.1)])
  (hK:∀ wr F' H',(eU E n room rack i).le F'→aS H' (E.boxes l ext w1 w2 wd wr .aB .aB (iV l m k0 s0).2) [(wd,7,dL ds),(wr,3,eE (iV l m k0 s0).1)]→K (.exit 2) F' H') :
  aC.wp C (.loop qQ) K F H:=by
 refine wp_loop (α:=Nat × (List cD × Nat) × PV × PH) (fun t=>jR E n room rack i m t.1) (fun t=>t.2.2.2)
  (fun t=>iV l m t.1 t.2.1=iV l m k0 s0∧t.2.1.1.length≤9∧t.2.1.2+t.1≤100000∧aS t.2.2.2 (E.boxes l ext w1 w2 wd t.2.2.1 .aB .aB t.2.1.2) [(wd,7,dL ds),(t.2.2.1,3,eE t.2.1.1)]) (fun t=>t.1) (k0,s0,wr0,H) ⟨rfl,h0,ha,hH⟩ hF PH.le_refl ?_
 rintro⟨k,s,wr,H0⟩ ⟨hE,hl,hb,hH⟩
 simp only at hE hl hb hH ⊢
 have b5:=hH.at 0 rfl
 have lw:=(hH.own 1 rfl).uB
 rw[bKI] at lw
 simp only[go_sem,γ,δ,ε,ζ,η,θ,ι,κ,μ,ν,ξ,ο,ρ,σ,τ,υ,reduceIte,reduceCtorEq,qQ,aaM,jR]
 have out:∀ F',(jR E n room rack i m k).le F'→iV l m k s=s→K (.exit 2) F' H0:=fun F' hF' e=>by
  refine hK wr F' H0 ?_ (by rw[← hE,e]; exact hH)
  have h1:(eU E n room rack i).le (jR E n room rack i m k):=by
   unfold eU jR
   exact Lq
  exact fun j u hj=>hF' j u (h1 j u hj)
 cases k with
 | zero =>
  have hc:¬ (((0:Nat):Int)>0):=by omega
  simp only[go_sem,γ,δ,ε,ζ,η,θ,ι,κ,μ,ν,ξ,ο,ρ,σ,τ,υ,reduceIte,reduceCtorEq,hc]
  refine out _ ?_ rfl
  unfold jR
  exact Lq
 | succ k =>
  have hc:(((k+1:Nat):Int)>0):=by omega
  by_cases c:s.1.length<9
  ·have c':((s.1.length:Nat):Int)<9:=by omega
   have e1:IntKind.i64.wrap (((k+1:Nat):Int)-1)=((k:Nat):Int):=by rw[wrap_i64 Om Om]; omega
   simp only[go_sem,γ,δ,ε,ζ,η,θ,ι,κ,μ,ν,ξ,ο,ρ,σ,τ,υ,reduceIte,reduceCtorEq,hc,b5,lw,c',aaN,aaO]
   refine cH Lb.toEB T (o:=E.o) (n:=4) (a:=s.2) (by decide) Om rfl (hH.at 1 rfl) ?_
   have h1:=hH.set 1 rfl (bG l (s.2+1))
   have b1:=h1.at 0 rfl
   have go:∀ (x:Nat) (F':PF),x=(if nxM l 4 s.2=0 then 1 else 0)→(jR E n room rack i m (k+1)).le F'→F' 13=some (.int .i64 x) →
     aC.wp C (.seq (.seq (.draw EV) (.draw EW)) (.region EX)) (eI (fun t:Nat × (List cD × Nat) × PV × PH=>jR E n room rack i m t.1) (fun t=>t.2.2.2)
      (fun t=>iV l m t.1 t.2.1=iV l m k0 s0∧t.2.1.1.length≤9∧t.2.1.2+t.1≤100000∧aS t.2.2.2 (E.boxes l ext w1 w2 wd t.2.2.1 .aB .aB t.2.1.2) [(wd,7,dL ds),(t.2.2.1,3,eE t.2.1.1)]) (fun t=>t.1) (k+1) K) F' (H0.set E.o (bG l (s.2+1))):=by
    intro x F' hx hF' f13
    have f0:F' 0=some (.ptr E.o 2 0 0):=hF' 0 _ (by unfold jR; simp only[go_sem,γ,δ,ε,ζ,η,θ,ι,κ,μ,ν,ξ,ο,ρ,σ,τ,υ,reduceIte,reduceCtorEq])
    have f1:F' 1=some (.int .i64 E.vols):=hF' 1 _ (by unfold jR; simp only[go_sem,γ,δ,ε,ζ,η,θ,ι,κ,μ,ν,ξ,ο,ρ,σ,τ,υ,reduceIte,reduceCtorEq])
    have f4:F' 4=some (.ptr E.o4 7 0 0):=hF' 4 _ (by unfold jR; simp only[go_sem,γ,δ,ε,ζ,η,θ,ι,κ,μ,ν,ξ,ο,ρ,σ,τ,υ,reduceIte,reduceCtorEq])
    have f5:F' 5=some (.ptr E.o5 7 0 0):=hF' 5 _ (by unfold jR; simp only[go_sem,γ,δ,ε,ζ,η,θ,ι,κ,μ,ν,ξ,ο,ρ,σ,τ,υ,reduceIte,reduceCtorEq])
    have f6:F' 6=some (.int .i64 n):=hF' 6 _ (by unfold jR; simp only[go_sem,γ,δ,ε,ζ,η,θ,ι,κ,μ,ν,ξ,ο,ρ,σ,τ,υ,reduceIte,reduceCtorEq])
    have f8:F' 8=some (.int .i64 room):=hF' 8 _ (by unfold jR; simp only[go_sem,γ,δ,ε,ζ,η,θ,ι,κ,μ,ν,ξ,ο,ρ,σ,τ,υ,reduceIte,reduceCtorEq])
    have f9:F' 9=some (.int .i64 rack):=hF' 9 _ (by unfold jR; simp only[go_sem,γ,δ,ε,ζ,η,θ,ι,κ,μ,ν,ξ,ο,ρ,σ,τ,υ,reduceIte,reduceCtorEq])
    have f10:F' 10=some (.int .i64 i):=hF' 10 _ (by unfold jR; simp only[go_sem,γ,δ,ε,ζ,η,θ,ι,κ,μ,ν,ξ,ο,ρ,σ,τ,υ,reduceIte,reduceCtorEq])
    have f11:F' 11=some (.int .i64 m):=hF' 11 _ (by unfold jR; simp only[go_sem,γ,δ,ε,ζ,η,θ,ι,κ,μ,ν,ξ,ο,ρ,σ,τ,υ,reduceIte,reduceCtorEq])
    have f12:F' 12=some (.int .i64 (k+1:Nat)):=hF' 12 _ (by unfold jR; simp only[go_sem,γ,δ,ε,ζ,η,θ,ι,κ,μ,ν,ξ,ο,ρ,σ,τ,υ,reduceIte,reduceCtorEq])
    simp only[go_sem,γ,δ,ε,ζ,η,θ,ι,κ,μ,ν,ξ,ο,ρ,σ,τ,υ,reduceIte,reduceCtorEq]
    refine bS (PH.nil.set E.o5 (flB ext w1 w2 wd wr .aB .aB)) (mdS l) (PH.aK PH.nil_le b1) ?_
    have h13:(1:Nat)*3≤16777216:=by decide
    simp only[go_sem,γ,δ,ε,ζ,η,θ,ι,κ,μ,ν,ξ,ο,ρ,σ,τ,υ,reduceIte,reduceCtorEq,EV,f5,b1,lw]
    refine LP Lb (c:=100) (n:=s.1.length) Om rfl (PH.aK PH.nil_le b1) ?_
    simp only[go_sem,γ,δ,ε,ζ,η,θ,ι,κ,μ,ν,ξ,ο,ρ,σ,τ,υ,reduceIte,reduceCtorEq,f13,f11,h13]
    refine h1.append 1 (src:=[(⟨dN 100 s.1.length,(x:Nat),(m:Nat)⟩:cD).cells]) rfl rfl (by unfold roomFor; rw[bKI]; simp only[bKX,maxLen]; omega) fun w' H2 h5 hw=>?_
    obtain⟨q,rfl⟩:=hw (by simp)
    have b2:=h5.at 0 rfl
    simp only[go_sem,γ,δ,ε,ζ,η,θ,ι,κ,μ,ν,ξ,ο,ρ,σ,τ,υ,reduceIte,reduceCtorEq,f5]
    refine⟨PH.aK PH.nil_le b2,?_⟩
    refine bS .nil eC PH.nil_le ?_
    simp only[go_sem,γ,δ,ε,ζ,η,θ,ι,κ,μ,ν,ξ,ο,ρ,σ,τ,υ,reduceIte,reduceCtorEq,EW,f5,b2,bKY,bLZ,or_false,forall_eq]
    have h6:=h5.set 0 rfl (flB ext w1 w2 wd (.osl q 3 0 (eE s.1++[(⟨dN 100 s.1.length,(x:Nat),(m:Nat)⟩:cD).cells]).length) .aB .aB)
    refine⟨PH.nil_le,?_⟩
    simp only[go_sem,γ,δ,ε,ζ,η,θ,ι,κ,μ,ν,ξ,ο,ρ,σ,τ,υ,reduceIte,reduceCtorEq,EX,f12,e1]
    refine aI (k,(s.1++[⟨dN 100 s.1.length,(x:Nat),(m:Nat)⟩],s.2+1),.osl q 3 0 (eE s.1++[(⟨dN 100 s.1.length,(x:Nat),(m:Nat)⟩:cD).cells]).length,_) ⟨?_,by simp only[bKQ,bKX]; omega,by simp only; omega,?_⟩ (by simp only; omega) ?_ PH.le_refl
    ·simp only
     rw[← hE,iV,if_pos c,hx]
    ·have e:eE (s.1++[⟨dN 100 s.1.length,(x:Nat),(m:Nat)⟩])=eE s.1++[(⟨dN 100 s.1.length,(x:Nat),(m:Nat)⟩:cD).cells]:=by simp[eE]
     simp only
     rw[e]
     exact h6
    ·unfold jR
     exact Lq
   simp only[aC.wp,go_sem] at go
   by_cases d:nxM l 4 s.2=0
   ·simp only[go_sem,γ,δ,ε,ζ,η,θ,ι,κ,μ,ν,ξ,ο,ρ,σ,τ,υ,reduceIte,reduceCtorEq,bT (Om:((nxM l 4 s.2:Nat):Int)=0),aaP]
    refine go 1 _ (by rw[if_pos d]) ?_ rfl
    unfold jR
    exact Lq
   ·simp only[go_sem,γ,δ,ε,ζ,η,θ,ι,κ,μ,ν,ξ,ο,ρ,σ,τ,υ,reduceIte,reduceCtorEq,bF (Om:((nxM l 4 s.2:Nat):Int)≠0)]
    refine go 0 _ (by rw[if_neg d]) ?_ rfl
    unfold jR
    exact Lq
  ·have c':¬ ((s.1.length:Nat):Int)<9:=by omega
   simp only[go_sem,γ,δ,ε,ζ,η,θ,ι,κ,μ,ν,ξ,ο,ρ,σ,τ,υ,reduceIte,reduceCtorEq,hc,b5,lw,c']
   refine out _ ?_ (by rw[iV,if_neg c])
   unfold jR
   exact Lq
theorem gT {a b:Nat} (h:a+b≤1000000):IntKind.i64.wrap ((a:Int)+(b:Int))=((a+b:Nat):Int):=xV Om
theorem aQO {C:Ctx} (Lb:CK C) {l:List Int} (T:TpM l) (E:ME) (n room rack i a:Nat) (ha:a≤100000) (ext w1 w2 wd wr:PV) (ds:List bP) (hds:ds.length≤60) (L2:List LI) (K:cO) (F:PF) (H:PH)
  (hF:(eU E n room rack i).le F) (hH:aS H (E.boxes l ext w1 w2 wd wr .aB .aB a) ((wd,7,dL ds)::L2))
  (hK:∀ wd' F' H',(eU E n (dK ds 1 0 (16+nxM l 17 a)).length (dK (dK ds 1 0 (16+nxM l 17 a)) 2 ds.length (16+nxM l 17 (a+1))).length i).le F' →
   aS H' (E.boxes l ext w1 w2 wd' wr .aB .aB (a+3)) ((wd',7,dL (dK (dK (dK ds 1 0 (16+nxM l 17 a)) 2 ds.length (16+nxM l 17 (a+1))) 3 (dK ds 1 0 (16+nxM l 17 a)).length (8+nxM l 9 (a+2))))::L2)→K .normal F' H') :
  aC.wp C (.seq (.region ES) (.seq (.region ET) (.region EU))) K F H:=by
 have f0:F 0=some (.ptr E.o 2 0 0):=hF 0 _ (by unfold eU; simp only[go_sem,γ,δ,ε,ζ,η,θ,ι,κ,μ,ν,ξ,ο,ρ,σ,τ,υ,reduceIte,reduceCtorEq])
 have f1:F 1=some (.int .i64 E.vols):=hF 1 _ (by unfold eU; simp only[go_sem,γ,δ,ε,ζ,η,θ,ι,κ,μ,ν,ξ,ο,ρ,σ,τ,υ,reduceIte,reduceCtorEq])
 have f4:F 4=some (.ptr E.o4 7 0 0):=hF 4 _ (by unfold eU; simp only[go_sem,γ,δ,ε,ζ,η,θ,ι,κ,μ,ν,ξ,ο,ρ,σ,τ,υ,reduceIte,reduceCtorEq])
 have f5:F 5=some (.ptr E.o5 7 0 0):=hF 5 _ (by unfold eU; simp only[go_sem,γ,δ,ε,ζ,η,θ,ι,κ,μ,ν,ξ,ο,ρ,σ,τ,υ,reduceIte,reduceCtorEq])
 have f6:F 6=some (.int .i64 n):=hF 6 _ (by unfold eU; simp only[go_sem,γ,δ,ε,ζ,η,θ,ι,κ,μ,ν,ξ,ο,ρ,σ,τ,υ,reduceIte,reduceCtorEq])
 have f10:F 10=some (.int .i64 i):=hF 10 _ (by unfold eU; simp only[go_sem,γ,δ,ε,ζ,η,θ,ι,κ,μ,ν,ξ,ο,ρ,σ,τ,υ,reduceIte,reduceCtorEq])
 have n1:=cM l (show 0<17 by decide) a
 have n2:=cM l (show 0<17 by decide) (a+1)
 have n3:=cM l (show 0<9 by decide) (a+2)
 have e1:IntKind.i64.wrap (16+((nxM l 17 a:Nat):Int))=((16+nxM l 17 a:Nat):Int):=gT (a:=16) Om
 have e2:IntKind.i64.wrap (16+((nxM l 17 (a+1):Nat):Int))=((16+nxM l 17 (a+1):Nat):Int):=gT (a:=16) Om
 have e3:IntKind.i64.wrap (8+((nxM l 9 (a+2):Nat):Int))=((8+nxM l 9 (a+2):Nat):Int):=gT (a:=8) Om
 have c1:=nD ds 1 0 (16+nxM l 17 a)
 have c2:=nD (dK ds 1 0 (16+nxM l 17 a)) 2 ds.length (16+nxM l 17 (a+1))
 simp only[go_sem,γ,δ,ε,ζ,η,θ,ι,κ,μ,ν,ξ,ο,ρ,σ,τ,υ,reduceIte,reduceCtorEq,ES,f0]
 refine cH Lb.toEB T (o:=E.o) (n:=17) (a:=a) (by decide) Om rfl (hH.at 1 rfl) ?_
 have h1:=hH.set 1 rfl (bG l (a+1))
 simp only[go_sem,γ,δ,ε,ζ,η,θ,ι,κ,μ,ν,ξ,ο,ρ,σ,τ,υ,reduceIte,reduceCtorEq,e1,f5]
 refine rJ Lb (lev:=1) (par:=0) (up:=16+nxM l 17 a) h1 Om (by simp only[go_sem,γ,δ,ε,ζ,η,θ,ι,κ,μ,ν,ξ,ο,ρ,σ,τ,υ,reduceIte,reduceCtorEq,f5]; rfl) fun wd1 H1 h2=>?_
 simp only[go_sem,γ,δ,ε,ζ,η,θ,ι,κ,μ,ν,ξ,ο,ρ,σ,τ,υ,reduceIte,reduceCtorEq,ET,f0]
 refine cH Lb.toEB T (o:=E.o) (n:=17) (a:=a+1) (by decide) Om rfl (h2.at 1 rfl) ?_
 have h3:=h2.set 1 rfl (bG l (a+1+1))
 simp only[go_sem,γ,δ,ε,ζ,η,θ,ι,κ,μ,ν,ξ,ο,ρ,σ,τ,υ,reduceIte,reduceCtorEq,e2,f5]
 refine rJ Lb (lev:=2) (par:=ds.length) (up:=16+nxM l 17 (a+1)) h3 Om (by simp only[go_sem,γ,δ,ε,ζ,η,θ,ι,κ,μ,ν,ξ,ο,ρ,σ,τ,υ,reduceIte,reduceCtorEq,f5]; rfl) fun wd2 H2 h4=>?_
 simp only[go_sem,γ,δ,ε,ζ,η,θ,ι,κ,μ,ν,ξ,ο,ρ,σ,τ,υ,reduceIte,reduceCtorEq,EU,f0]
 refine cH Lb.toEB T (o:=E.o) (n:=9) (a:=a+2) (by decide) Om rfl (h4.at 1 rfl) ?_
 have h5:=h4.set 1 rfl (bG l (a+2+1))
 simp only[go_sem,γ,δ,ε,ζ,η,θ,ι,κ,μ,ν,ξ,ο,ρ,σ,τ,υ,reduceIte,reduceCtorEq,e3,f5]
 refine rJ Lb (lev:=3) (par:=(dK ds 1 0 (16+nxM l 17 a)).length) (up:=8+nxM l 9 (a+2)) h5 Om (by simp only[go_sem,γ,δ,ε,ζ,η,θ,ι,κ,μ,ν,ξ,ο,ρ,σ,τ,υ,reduceIte,reduceCtorEq,f5]; rfl) fun wd3 H3 h6=>?_
 simp only[go_sem,γ,δ,ε,ζ,η,θ,ι,κ,μ,ν,ξ,ο,ρ,σ,τ,υ,reduceIte,reduceCtorEq]
 refine hK wd3 _ _ ?_ h6
 unfold eU
 exact Lq
theorem beT {C:Ctx} (Lb:CK C) {l:List Int} (T:TpM l) (E:ME) (n i:Nat) (p:MS) (hp:p.a≤50000) (hl:p.bIP.length≤60) (hd:p.bJD.length≤9) (ext w1 w2 wd wr:PV) (K:cO) (F:PF) (H:PH)
  (hF:(eU E n p.room p.rack i).le F) (hH:aS H (E.boxes l ext w1 w2 wd wr .aB .aB p.a) [(wd,7,dL p.bIP),(wr,3,eE p.bJD)])
  (hK:∀ wd' wr' F' H',(eU E n p.room p.rack i).le F'→aS H' (E.boxes l ext w1 w2 wd' wr' .aB .aB (iV l p.bIP.length (1+nxM l 2 (p.a+1)) (p.bJD,p.a+2)).2) [(wd',7,dL (dK p.bIP 4 p.rack (8+nxM l 9 p.a))),(wr',3,eE (iV l p.bIP.length (1+nxM l 2 (p.a+1)) (p.bJD,p.a+2)).1)]→K .normal F' H') :
  aC.wp C (.seq (.region uI) (.seq (.region uJ) (.block 2 (.loop qQ)))) K F H:=by
 have f0:F 0=some (.ptr E.o 2 0 0):=hF 0 _ (by unfold eU; simp only[go_sem,γ,δ,ε,ζ,η,θ,ι,κ,μ,ν,ξ,ο,ρ,σ,τ,υ,reduceIte,reduceCtorEq])
 have f1:F 1=some (.int .i64 E.vols):=hF 1 _ (by unfold eU; simp only[go_sem,γ,δ,ε,ζ,η,θ,ι,κ,μ,ν,ξ,ο,ρ,σ,τ,υ,reduceIte,reduceCtorEq])
 have f4:F 4=some (.ptr E.o4 7 0 0):=hF 4 _ (by unfold eU; simp only[go_sem,γ,δ,ε,ζ,η,θ,ι,κ,μ,ν,ξ,ο,ρ,σ,τ,υ,reduceIte,reduceCtorEq])
 have f5:F 5=some (.ptr E.o5 7 0 0):=hF 5 _ (by unfold eU; simp only[go_sem,γ,δ,ε,ζ,η,θ,ι,κ,μ,ν,ξ,ο,ρ,σ,τ,υ,reduceIte,reduceCtorEq])
 have f6:F 6=some (.int .i64 n):=hF 6 _ (by unfold eU; simp only[go_sem,γ,δ,ε,ζ,η,θ,ι,κ,μ,ν,ξ,ο,ρ,σ,τ,υ,reduceIte,reduceCtorEq])
 have f8:F 8=some (.int .i64 p.room):=hF 8 _ (by unfold eU; simp only[go_sem,γ,δ,ε,ζ,η,θ,ι,κ,μ,ν,ξ,ο,ρ,σ,τ,υ,reduceIte,reduceCtorEq])
 have f9:F 9=some (.int .i64 p.rack):=hF 9 _ (by unfold eU; simp only[go_sem,γ,δ,ε,ζ,η,θ,ι,κ,μ,ν,ξ,ο,ρ,σ,τ,υ,reduceIte,reduceCtorEq])
 have f10:F 10=some (.int .i64 i):=hF 10 _ (by unfold eU; simp only[go_sem,γ,δ,ε,ζ,η,θ,ι,κ,μ,ν,ξ,ο,ρ,σ,τ,υ,reduceIte,reduceCtorEq])
 have n1:=cM l (show 0<9 by decide) p.a
 have n2:=cM l (show 0<2 by decide) (p.a+1)
 have e1:IntKind.i64.wrap (8+((nxM l 9 p.a:Nat):Int))=((8+nxM l 9 p.a:Nat):Int):=gT (a:=8) Om
 have e2:IntKind.i64.wrap (1+((nxM l 2 (p.a+1):Nat):Int))=((1+nxM l 2 (p.a+1):Nat):Int):=gT (a:=1) Om
 simp only[go_sem,γ,δ,ε,ζ,η,θ,ι,κ,μ,ν,ξ,ο,ρ,σ,τ,υ,reduceIte,reduceCtorEq,uI,f0,f9]
 refine cH Lb.toEB T (o:=E.o) (n:=9) (a:=p.a) (by decide) Om rfl (hH.at 1 rfl) ?_
 have h1:=hH.set 1 rfl (bG l (p.a+1))
 simp only[go_sem,γ,δ,ε,ζ,η,θ,ι,κ,μ,ν,ξ,ο,ρ,σ,τ,υ,reduceIte,reduceCtorEq,e1,f5,f9]
 refine rJ Lb (lev:=4) (par:=p.rack) (up:=8+nxM l 9 p.a) h1 Om (by simp only[go_sem,γ,δ,ε,ζ,η,θ,ι,κ,μ,ν,ξ,ο,ρ,σ,τ,υ,reduceIte,reduceCtorEq,f5,f9]; rfl) fun wd1 H1 h2=>?_
 simp only[go_sem,γ,δ,ε,ζ,η,θ,ι,κ,μ,ν,ξ,ο,ρ,σ,τ,υ,reduceIte,reduceCtorEq,uJ,f0]
 refine cH Lb.toEB T (o:=E.o) (n:=2) (a:=p.a+1) (by decide) Om rfl (h2.at 1 rfl) ?_
 have h3:=h2.set 1 rfl (bG l (p.a+1+1))
 simp only[go_sem,γ,δ,ε,ζ,η,θ,ι,κ,μ,ν,ξ,ο,ρ,σ,τ,υ,reduceIte,reduceCtorEq,e2]
 refine blU Lb.tooQ T E n p.room p.rack i p.bIP.length ext w1 w2 wd1 _ (1+nxM l 2 (p.a+1)) (p.bJD,p.a+2) wr hd (by simp only; omega) _ _ _ ?_ h3 ?_
 ·unfold jR
  exact Lq
 ·intro wr' F' H' hF' h'
  exact hK wd1 wr' F' H' hF' h'
theorem a7D {C:Ctx} (Lb:CK C) {l:List Int} (T:TpM l) (E:ME) (n a0:Nat) (hn:n≤10) (ha:a0≤10000) (ext w1 w2 wd0:PV) (K:cO) (F:PF) (H:PH)
  (hF:(eU E n 0 0 0).le F) (hH:aS H (E.boxes l ext w1 w2 wd0 .aB .aB .aB a0) [(wd0,7,dL [jC]),(.aB,3,eE [])])
  (hK:∀ wd wr F' H',(tX E).le F'→aS H' (E.boxes l ext w1 w2 wd wr .aB .aB (eH l ⟨[jC],[],0,0,0,a0⟩ n).a) [(wd,7,dL (eH l ⟨[jC],[],0,0,0,a0⟩ n).bIP),(wr,3,eE (eH l ⟨[jC],[],0,0,0,a0⟩ n).bJD)]→K (.exit 0) F' H') :
  aC.wp C (.loop EO) K F H:=by
 generalize hs0:(⟨[jC],[],0,0,0,a0⟩:MS)=s0 at *
 have hM0:MOk 0 a0 s0:=by rw[← hs0]; exact adT a0
 refine wp_loop (α:=Nat × PV × PV × PH) (fun t=>eU E n (eH l s0 t.1).room (eH l s0 t.1).rack t.1) (fun t=>t.2.2.2)
  (fun t=>t.1≤n∧aS t.2.2.2 (E.boxes l ext w1 w2 t.2.1 t.2.2.1 .aB .aB (eH l s0 t.1).a) [(t.2.1,7,dL (eH l s0 t.1).bIP),(t.2.2.1,3,eE (eH l s0 t.1).bJD)]) (fun t=>n-t.1) (0,wd0,.aB,H) ⟨bKT _,by rw[← hs0]; exact hH⟩ (by rw[← hs0]; exact hF) PH.le_refl ?_
 rintro⟨i,wd,wr,H0⟩ ⟨hi,hH⟩
 simp only at hi hH ⊢
 have hM:=oW l hM0 i Om
 have bIM:eH l s0 (i+1)=yO l i (eH l s0 i):=rfl
 generalize hs:eH l s0 i=s at *
 obtain⟨m1,m2,m3,m4,m5,m6,m7,m8⟩:=hM
 simp only[go_sem,γ,δ,ε,ζ,η,θ,ι,κ,μ,ν,ξ,ο,ρ,σ,τ,υ,reduceIte,reduceCtorEq,EO,aoJ,eU]
 by_cases hlt:i<n
 ·have bIL:(i:Int)<(n:Nat):=by omega
  have rest:∀ (p:MS) (wd':PV) (F':PF) (H':PH),eK l i s=p→(eU E n p.room p.rack i).le F'→aS H' (E.boxes l ext w1 w2 wd' wr .aB .aB p.a) [(wd',7,dL p.bIP),(wr,3,eE p.bJD)] →
    aC.wp C (.seq (.region uI) (.seq (.region uJ) (.block 2 (.loop qQ)))) (dZ 1 (jB C (aC.wp C (.region EY)) (eI (fun t:Nat × PV × PV × PH=>eU E n (eH l s0 t.1).room (eH l s0 t.1).rack t.1) (fun t=>t.2.2.2)
     (fun t=>t.1≤n∧aS t.2.2.2 (E.boxes l ext w1 w2 t.2.1 t.2.2.1 .aB .aB (eH l s0 t.1).a) [(t.2.1,7,dL (eH l s0 t.1).bIP),(t.2.2.1,3,eE (eH l s0 t.1).bJD)]) (fun t=>n-t.1) (n-i) K))) F' H':=by
   intro p wd' F' H' hp hF' h'
   obtain⟨p1,p2,p3,p4,p5,p6,p7,p8⟩:=UW l i (k:=i) (a0:=a0) Om (⟨m1,m2,m3,m4,m5,m6,m7,m8⟩:MOk i a0 s)
   rw[hp] at p1 p3 p7 p8
   refine beT Lb T E n i p Om Om p3 ext w1 w2 wd' wr _ _ _ hF' h' ?_
   intro wd2 wr2 F2 H2 hF2 h2
   have f0:F2 0=some (.ptr E.o 2 0 0):=hF2 0 _ (by unfold eU; simp only[go_sem,γ,δ,ε,ζ,η,θ,ι,κ,μ,ν,ξ,ο,ρ,σ,τ,υ,reduceIte,reduceCtorEq])
   have f1:F2 1=some (.int .i64 E.vols):=hF2 1 _ (by unfold eU; simp only[go_sem,γ,δ,ε,ζ,η,θ,ι,κ,μ,ν,ξ,ο,ρ,σ,τ,υ,reduceIte,reduceCtorEq])
   have f4:F2 4=some (.ptr E.o4 7 0 0):=hF2 4 _ (by unfold eU; simp only[go_sem,γ,δ,ε,ζ,η,θ,ι,κ,μ,ν,ξ,ο,ρ,σ,τ,υ,reduceIte,reduceCtorEq])
   have f5:F2 5=some (.ptr E.o5 7 0 0):=hF2 5 _ (by unfold eU; simp only[go_sem,γ,δ,ε,ζ,η,θ,ι,κ,μ,ν,ξ,ο,ρ,σ,τ,υ,reduceIte,reduceCtorEq])
   have f6:F2 6=some (.int .i64 n):=hF2 6 _ (by unfold eU; simp only[go_sem,γ,δ,ε,ζ,η,θ,ι,κ,μ,ν,ξ,ο,ρ,σ,τ,υ,reduceIte,reduceCtorEq])
   have f8:F2 8=some (.int .i64 p.room):=hF2 8 _ (by unfold eU; simp only[go_sem,γ,δ,ε,ζ,η,θ,ι,κ,μ,ν,ξ,ο,ρ,σ,τ,υ,reduceIte,reduceCtorEq])
   have f9:F2 9=some (.int .i64 p.rack):=hF2 9 _ (by unfold eU; simp only[go_sem,γ,δ,ε,ζ,η,θ,ι,κ,μ,ν,ξ,ο,ρ,σ,τ,υ,reduceIte,reduceCtorEq])
   have f10:F2 10=some (.int .i64 i):=hF2 10 _ (by unfold eU; simp only[go_sem,γ,δ,ε,ζ,η,θ,ι,κ,μ,ν,ξ,ο,ρ,σ,τ,υ,reduceIte,reduceCtorEq])
   have hnew:eH l s0 (i+1)={ p with bIP:=dK p.bIP 4 p.rack (8+nxM l 9 p.a),bJD:=(iV l p.bIP.length (1+nxM l 2 (p.a+1)) (p.bJD,p.a+2)).1,a:=(iV l p.bIP.length (1+nxM l 2 (p.a+1)) (p.bJD,p.a+2)).2 }:=by
    rw[bIM]; unfold yO; rw[hp]
   simp only[go_sem,γ,δ,ε,ζ,η,θ,ι,κ,μ,ν,ξ,ο,ρ,σ,τ,υ,reduceIte,reduceCtorEq,EY,f10,wZz i]
   refine aI (i+1,wd2,wr2,H2) ⟨hlt,?_⟩ (by simp only; omega) ?_ PH.le_refl
   ·simp only
    rw[hnew]
    exact h2
   ·simp only
    rw[hnew]
    unfold eU
    exact Lq
  have hp0:=fun p (h:eK l i s=p)=>h
  simp only[go_sem,γ,δ,ε,ζ,η,θ,ι,κ,μ,ν,ξ,ο,ρ,σ,τ,υ,reduceIte,reduceCtorEq,bIL,aoK]
  by_cases c0:i=0
  ·simp only[go_sem,γ,δ,ε,ζ,η,θ,ι,κ,μ,ν,ξ,ο,ρ,σ,τ,υ,reduceIte,reduceCtorEq,bT (Om:((i:Nat):Int)=0)]
   refine aQO Lb T E n s.room s.rack i s.a Om ext w1 w2 wd wr s.bIP Om [(wr,3,eE s.bJD)] _ _ _ (by unfold eU; exact Lq) hH ?_
   intro wd' F' H' hF' h'
   have hp:eK l i s=⟨dK (dK (dK s.bIP 1 0 (16+nxM l 17 s.a)) 2 s.bIP.length (16+nxM l 17 (s.a+1))) 3 (dK s.bIP 1 0 (16+nxM l 17 s.a)).length (8+nxM l 9 (s.a+2)),s.bJD,s.bIP.length,(dK s.bIP 1 0 (16+nxM l 17 s.a)).length,(dK (dK s.bIP 1 0 (16+nxM l 17 s.a)) 2 s.bIP.length (16+nxM l 17 (s.a+1))).length,s.a+3⟩:=by
    unfold eK
    simp only
    rw[if_pos c0]
   exact rest _ wd' F' H' hp hF' h'
  simp only[go_sem,γ,δ,ε,ζ,η,θ,ι,κ,μ,ν,ξ,ο,ρ,σ,τ,υ,reduceIte,reduceCtorEq,bF (Om:((i:Nat):Int)≠0)]
  refine cH Lb.toEB T (o:=E.o) (n:=4) (a:=s.a) (by decide) Om rfl (hH.at 1 rfl) ?_
  have h1:=hH.set 1 rfl (bG l (s.a+1))
  by_cases c1:nxM l 4 s.a=0
  ·simp only[go_sem,γ,δ,ε,ζ,η,θ,ι,κ,μ,ν,ξ,ο,ρ,σ,τ,υ,reduceIte,reduceCtorEq,bT (Om:((nxM l 4 s.a:Nat):Int)=0)]
   refine aQO Lb T E n s.room s.rack i (s.a+1) Om ext w1 w2 wd wr s.bIP Om [(wr,3,eE s.bJD)] _ _ _ (by unfold eU; exact Lq) h1 ?_
   intro wd' F' H' hF' h'
   have hp:eK l i s=⟨dK (dK (dK s.bIP 1 0 (16+nxM l 17 (s.a+1))) 2 s.bIP.length (16+nxM l 17 (s.a+1+1))) 3 (dK s.bIP 1 0 (16+nxM l 17 (s.a+1))).length (8+nxM l 9 (s.a+1+2)),s.bJD,s.bIP.length,(dK s.bIP 1 0 (16+nxM l 17 (s.a+1))).length,(dK (dK s.bIP 1 0 (16+nxM l 17 (s.a+1))) 2 s.bIP.length (16+nxM l 17 (s.a+1+1))).length,s.a+1+3⟩:=by
    unfold eK
    simp only
    rw[if_neg c0,if_pos c1]
   exact rest _ wd' F' H' hp hF' h'
  simp only[go_sem,γ,δ,ε,ζ,η,θ,ι,κ,μ,ν,ξ,ο,ρ,σ,τ,υ,reduceIte,reduceCtorEq,bF (Om:((nxM l 4 s.a:Nat):Int)≠0),aaK]
  refine cH Lb.toEB T (o:=E.o) (n:=2) (a:=s.a+1) (by decide) Om rfl (h1.at 1 rfl) ?_
  have h2:=h1.set 1 rfl (bG l (s.a+1+1))
  rw[PH.set_set] at h2
  by_cases c2:nxM l 2 (s.a+1)=0
  ·have n3:=cM l (show 0<9 by decide) (s.a+2)
   have e3:IntKind.i64.wrap (8+((nxM l 9 (s.a+2):Nat):Int))=((8+nxM l 9 (s.a+2):Nat):Int):=gT (a:=8) Om
   simp only[go_sem,γ,δ,ε,ζ,η,θ,ι,κ,μ,ν,ξ,ο,ρ,σ,τ,υ,reduceIte,reduceCtorEq,bT (show ((nxM l 2 (s.a+1):Nat):Int)=0 by omega),aaL]
   refine cH Lb.toEB T (o:=E.o) (n:=9) (a:=s.a+2) (by decide) Om rfl (h2.at 1 rfl) ?_
   have h3:=h2.set 1 rfl (bG l (s.a+2+1))
   rw[PH.set_set] at h3
   simp only[go_sem,γ,δ,ε,ζ,η,θ,ι,κ,μ,ν,ξ,ο,ρ,σ,τ,υ,reduceIte,reduceCtorEq,e3]
   refine rJ Lb (lev:=3) (par:=s.room) (up:=8+nxM l 9 (s.a+2)) h3 Om rfl fun wd3 H3 h4=>?_
   have hp:eK l i s=⟨dK s.bIP 3 s.room (8+nxM l 9 (s.a+2)),s.bJD,s.site,s.room,s.bIP.length,s.a+3⟩:=by
    unfold eK
    simp only
    rw[if_neg c0,if_neg c1,if_pos c2]
   simp only[go_sem,γ,δ,ε,ζ,η,θ,ι,κ,μ,ν,ξ,ο,ρ,σ,τ,υ,reduceIte,reduceCtorEq]
   exact rest _ wd3 _ _ hp (by unfold eU; exact Lq) h4
  ·have hp:eK l i s={ s with a:=s.a+2 }:=by
    unfold eK
    simp only
    rw[if_neg c0,if_neg c1,if_neg c2]
   simp only[go_sem,γ,δ,ε,ζ,η,θ,ι,κ,μ,ν,ξ,ο,ρ,σ,τ,υ,reduceIte,reduceCtorEq,bF (show ((nxM l 2 (s.a+1):Nat):Int)≠0 by omega)]
   exact rest _ wd _ _ hp (by unfold eU; exact Lq) h2
 ·have bIL:¬ (i:Int)<(n:Nat):=by omega
  have:i=n:=by omega
  subst this
  simp only[go_sem,γ,δ,ε,ζ,η,θ,ι,κ,μ,ν,ξ,ο,ρ,σ,τ,υ,reduceIte,reduceCtorEq,bIL]
  refine hK wd wr _ _ ?_ ?_
  ·unfold tX
   exact Lq
  ·rw[hs]; exact hH
abbrev mC (P:dA) (w:PV):List PV:=[.str P.name,.int .i64 P.k,.int .i64 P.m,.int .i64 P.bJI,.int .i64 P.s0,.int .i64 P.s1,.int .i64 P.s2,.int .i64 P.s3,.int .i64 P.s4,ints P.bIF,w,
 .bool P.target.neg,aF P.target.num,aF P.target.den,.bool P.bIQ.neg,aF P.bIQ.num,aF P.bIQ.den]
def tY (E:ME) (t m q j:Nat):PF:=((((((((PF.nil.set 0 (.ptr E.o 2 0 0)).set 1 (.int .i64 E.vols)).set 4 (.ptr E.o4 7 0 0)).set 5 (.ptr E.o5 7 0 0)).set 14 (.int .i64 t)).set 16 (.int .i64 m)).set 17 (.ptr q 17 0 0)).set 18 (.int .i64 j))
def zN (E:ME) (t m q:Nat):PF:=(((((((PF.nil.set 0 (.ptr E.o 2 0 0)).set 1 (.int .i64 E.vols)).set 4 (.ptr E.o4 7 0 0)).set 5 (.ptr E.o5 7 0 0)).set 14 (.int .i64 t)).set 16 (.int .i64 m)).set 17 (.ptr q 17 0 0))
abbrev tE (n:Nat):List (List PV):=SL (bKL n (mkT 1 2))
theorem aOO (n:Nat):tE n++[(mkT 1 2).cells]=tE (n+1):=by
 unfold tE
 rw[List.replicate_succ',a1T]
theorem blW {C:Ctx} (Lb:oQ C) (E:ME) (t m q:Nat) (P:dA) (B:List BX) (L:List LI) (hm:m≤100) (K:cO) (F:PF) (H:PH)
  (hF:(tY E t m q 0).le F) (hH:aS H ((q,.rows 17 [mC P .aB])::B) L)
  (hK:∀ w F' H',(tY E t m q (max m 1)).le F'→aS H' ((q,.rows 17 [mC P w])::B) (L++[(w,3,tE (max m 1))])→K (.exit 6) F' H') :
  aC.wp C (.loop EP) K F H:=by
 refine wp_loop (α:=Nat × PV × PH) (fun s=>tY E t m q s.1) (fun s=>s.2.2) (fun s=>s.1≤max m 1∧aS s.2.2 ((q,.rows 17 [mC P s.2.1])::B) (L++[(s.2.1,3,tE s.1)])) (fun s=>max m 1-s.1) (0,.aB,H) ⟨bKT _,hH.pJ 3⟩ hF PH.le_refl ?_
 rintro⟨j,w,H0⟩ ⟨hj,hH⟩
 simp only at hj hH ⊢
 have emax:max ((m:Nat):Int) 1=((max m 1:Nat):Int):=by omega
 simp only[go_sem,γ,δ,ε,ζ,η,θ,ι,κ,μ,ν,ξ,ο,ρ,σ,τ,υ,reduceIte,reduceCtorEq,EP,aaT,tY,max_eq,emax]
 by_cases hlt:j<max m 1
 ·have bIL:(j:Int)<((max m 1:Nat):Int):=by omega
  have b:=hH.at 0 rfl
  simp only[go_sem,γ,δ,ε,ζ,η,θ,ι,κ,μ,ν,ξ,ο,ρ,σ,τ,υ,reduceIte,reduceCtorEq,bIL]
  refine bS (PH.nil.set q (.rows 17 [mC P w])) (mdS []) (PH.aK PH.nil_le b) ?_
  simp only[go_sem,γ,δ,ε,ζ,η,θ,ι,κ,μ,ν,ξ,ο,ρ,σ,τ,υ,reduceIte,reduceCtorEq,aaU,b]
  refine aoA Lb (n:=1) (m:=2) (by unfold cW; omega) (by unfold cW; omega) (by decide) rfl (PH.aK PH.nil_le b) ?_
  have h13:(1:Nat)*3≤16777216:=by decide
  simp only[go_sem,γ,δ,ε,ζ,η,θ,ι,κ,μ,ν,ξ,ο,ρ,σ,τ,υ,reduceIte,reduceCtorEq,h13]
  refine hH.append (v:=w) (s:=3) (rows:=tE j) L.length (src:=[(mkT 1 2).cells]) (by simp) rfl (by unfold roomFor; rw[MO,bNW]; simp only[bKX,maxLen]; omega) fun w' H2 h5 hw=>?_
  obtain⟨z,rfl⟩:=hw (by simp)
  rw[bNX _ _ (bKK _),bNG] at h5
  have b2:=h5.at 0 rfl
  refine⟨PH.aK PH.nil_le b2,?_⟩
  refine bS .nil eC PH.nil_le ?_
  simp only[go_sem,γ,δ,ε,ζ,η,θ,ι,κ,μ,ν,ξ,ο,ρ,σ,τ,υ,reduceIte,reduceCtorEq,aaV,b2,bKY,bLZ,or_false,forall_eq]
  have h6:=h5.set 0 rfl (.rows 17 [mC P (.osl z 3 0 (tE j++[(mkT 1 2).cells]).length)])
  refine⟨PH.nil_le,?_⟩
  simp only[go_sem,γ,δ,ε,ζ,η,θ,ι,κ,μ,ν,ξ,ο,ρ,σ,τ,υ,reduceIte,reduceCtorEq,aaW,wZz j]
  refine aI (j+1,.osl z 3 0 (tE j++[(mkT 1 2).cells]).length,_) ⟨hlt,?_⟩ (by simp only; omega) ?_ PH.le_refl
  ·simp only
   rw[← aOO]
   exact h6
  ·exact Lq
 ·have bIL:¬ (j:Int)<((max m 1:Nat):Int):=by omega
  have:j=max m 1:=by omega
  subst this
  simp only[go_sem,γ,δ,ε,ζ,η,θ,ι,κ,μ,ν,ξ,ο,ρ,σ,τ,υ,reduceIte,reduceCtorEq,bIL]
  refine hK w _ _ ?_ hH
  unfold tY
  exact Lq
theorem blV {C:Ctx} (Lb:oQ C) {l:List Int} (T:TpM l) (E:ME) (t a:Nat) (ht:t<100) (ha:a≤50000) (ext w1 w2 wd wr wp:PV) (L:List LI) (X:aC) (K:cO) (F:PF) (H:PH)
  (f0:F 0=some (.ptr E.o 2 0 0)) (f1:F 1=some (.int .i64 E.vols)) (f4:F 4=some (.ptr E.o4 7 0 0)) (f5:F 5=some (.ptr E.o5 7 0 0)) (f14:F 14=some (.int .i64 t))
  (hH:aS H (E.boxes l ext w1 w2 wd wr wp .aB a) L)
  (hK:∀ q F' H',(zN E t (nxM l 3 (a+1)) q).le F'→aS H' ((q,.rows 17 [mC (oP l t a) .aB])::E.boxes l ext w1 w2 wd wr wp .aB (a+6)) L→aC.wp C X K F' H') :
  aC.wp C (.seq (.region EZ) (.seq (.region FA) (.seq (.region FB) (.seq (.region FC) (.seq (.region FD) (.seq (.seq (.region FF) (.cond (.tmp 163) (.region FG) .skip)) X)))))) K F H:=by
 have n1:=cM l (show 0<2 by decide) a
 have n2:=cM l (show 0<3 by decide) (a+1)
 have n3:=cM l (Om:0<nxM l 3 (a+1)+1) (a+2)
 have e1:IntKind.i64.wrap (1+((nxM l 2 a:Nat):Int))=((1+nxM l 2 a:Nat):Int):=gT (a:=1) Om
 have e2:IntKind.i64.wrap (((nxM l 3 (a+1):Nat):Int)+1)=((nxM l 3 (a+1)+1:Nat):Int):=dC Om
 have e3:IntKind.i64.wrap (((1+nxM l 2 a:Nat):Int)+((nxM l (nxM l 3 (a+1)+1) (a+2):Nat):Int))=((1+nxM l 2 a+nxM l (nxM l 3 (a+1)+1) (a+2):Nat):Int):=gT Om
 have h12:(2:Nat)*1≤16777216:=by decide
 have h35:(3:Int)<((5:Nat):Int):=by decide
 have h45:(4:Int)<((5:Nat):Int):=by decide
 have h11:(1:Nat)*1≤16777216:=by decide
 simp only[go_sem,γ,δ,ε,ζ,η,θ,ι,κ,μ,ν,ξ,ο,ρ,σ,τ,υ,reduceIte,reduceCtorEq,EZ,f0]
 refine cH Lb.toEB T (o:=E.o) (n:=2) (a:=a) (by decide) Om rfl (hH.at 1 rfl) ?_
 have h1:=hH.set 1 rfl (bG l (a+1))
 simp only[go_sem,γ,δ,ε,ζ,η,θ,ι,κ,μ,ν,ξ,ο,ρ,σ,τ,υ,reduceIte,reduceCtorEq,e1,FA,f0]
 refine cH Lb.toEB T (o:=E.o) (n:=3) (a:=a+1) (by decide) Om rfl (h1.at 1 rfl) ?_
 have h2:=h1.set 1 rfl (bG l (a+2))
 rw[PH.set_set] at h2
 simp only[go_sem,γ,δ,ε,ζ,η,θ,ι,κ,μ,ν,ξ,ο,ρ,σ,τ,υ,reduceIte,reduceCtorEq,FB,f14]
 refine aA (Lb.name 112 t ht) rfl ?_
 simp only[go_sem,γ,δ,ε,ζ,η,θ,ι,κ,μ,ν,ξ,ο,ρ,σ,τ,υ,reduceIte,reduceCtorEq,f0,e2]
 refine cH Lb.toEB T (o:=E.o) (n:=nxM l 3 (a+1)+1) (a:=a+2) Om Om rfl (h2.at 1 rfl) ?_
 have h3:=h2.set 1 rfl (bG l (a+3))
 rw[PH.set_set] at h3
 simp only[go_sem,γ,δ,ε,ζ,η,θ,ι,κ,μ,ν,ξ,ο,ρ,σ,τ,υ,reduceIte,reduceCtorEq,e3,h12]
 refine aA (Lb.frac 1 1000 (by unfold cW; omega) (by unfold cW; omega) (by decide)) rfl ?_
 simp only[go_sem,γ,δ,ε,ζ,η,θ,ι,κ,μ,ν,ξ,ο,ρ,σ,τ,υ,reduceIte,reduceCtorEq]
 refine aA (Lb.frac 30 1 (by unfold cW; omega) (by unfold cW; omega) (by decide)) rfl ?_
 simp only[go_sem,γ,δ,ε,ζ,η,θ,ι,κ,μ,ν,ξ,ο,ρ,σ,τ,υ,reduceIte,reduceCtorEq,bKY,bLZ,or_false,forall_eq,forall_eq_or_imp]
 refine aQ fun q hq=>?_
 have h4:=h3.new hq (.rows 17 [[.str (dN 112 t),.int .i64 (1+nxM l 2 a:Nat),.int .i64 (nxM l 3 (a+1):Nat),.int .i64 (1+nxM l 2 a+nxM l (nxM l 3 (a+1)+1) (a+2):Nat),.int .i64 0,.int .i64 0,.int .i64 0,.int .i64 0,.int .i64 0,ints [0,1],.aB,.bool (mkT 1 1000).neg,aF (mkT 1 1000).num,aF (mkT 1 1000).den,.bool (mkT 30 1).neg,aF (mkT 30 1).num,aF (mkT 30 1).den]])
 have nq:¬ E.o=q:=h4.ne 1 3 rfl rfl (by decide)
 have nq':¬ q=E.o:=fun h=>nq h.symm
 simp only[go_sem,γ,δ,ε,ζ,η,θ,ι,κ,μ,ν,ξ,ο,ρ,σ,τ,υ,reduceIte,reduceCtorEq,bKY,bLZ,or_false,forall_eq,forall_eq_or_imp,FC,f0]
 refine cH Lb.toEB T (o:=E.o) (n:=4) (a:=a+3) (by decide) Om rfl (h4.at 1 rfl) ?_
 have h5:=h4.set 1 rfl (bG l (a+4))
 have h6:=h5.set 3 rfl (.rows 17 [[.str (dN 112 t),.int .i64 (1+nxM l 2 a:Nat),.int .i64 (nxM l 3 (a+1):Nat),.int .i64 (1+nxM l 2 a+nxM l (nxM l 3 (a+1)+1) (a+2):Nat),.int .i64 0,.int .i64 0,.int .i64 0,.int .i64 (nxM l 4 (a+3):Nat),.int .i64 0,ints [0,1],.aB,.bool (mkT 1 1000).neg,aF (mkT 1 1000).num,aF (mkT 1 1000).den,.bool (mkT 30 1).neg,aF (mkT 30 1).num,aF (mkT 30 1).den]])
 simp only[go_sem,γ,δ,ε,ζ,η,θ,ι,κ,μ,ν,ξ,ο,ρ,σ,τ,υ,reduceIte,reduceCtorEq,h35,nq,nq',bKY,bLZ,or_false,forall_eq,FD,f0]
 refine cH Lb.toEB T (o:=E.o) (n:=3) (a:=a+4) (by decide) Om rfl (h6.at 1 rfl) ?_
 have h7:=h6.set 1 rfl (bG l (a+5))
 have h8:=h7.set 3 rfl (.rows 17 [[.str (dN 112 t),.int .i64 (1+nxM l 2 a:Nat),.int .i64 (nxM l 3 (a+1):Nat),.int .i64 (1+nxM l 2 a+nxM l (nxM l 3 (a+1)+1) (a+2):Nat),.int .i64 0,.int .i64 0,.int .i64 0,.int .i64 (nxM l 4 (a+3):Nat),.int .i64 (nxM l 3 (a+4):Nat),ints [0,1],.aB,.bool (mkT 1 1000).neg,aF (mkT 1 1000).num,aF (mkT 1 1000).den,.bool (mkT 30 1).neg,aF (mkT 30 1).num,aF (mkT 30 1).den]])
 simp only[go_sem,γ,δ,ε,ζ,η,θ,ι,κ,μ,ν,ξ,ο,ρ,σ,τ,υ,reduceIte,reduceCtorEq,h45,nq,nq',bKY,bLZ,or_false,forall_eq,FF,f0]
 refine cH Lb.toEB T (o:=E.o) (n:=5) (a:=a+5) (by decide) Om rfl (h8.at 1 rfl) ?_
 have h9:=h8.set 1 rfl (bG l (a+6))
 by_cases c:nxM l 5 (a+5)=0
 ·have h10:=h9.set 3 rfl (.rows 17 [mC (oP l t a) .aB])
  have eP:mC (oP l t a) .aB=[.str (dN 112 t),.int .i64 (1+nxM l 2 a:Nat),.int .i64 (nxM l 3 (a+1):Nat),.int .i64 (1+nxM l 2 a+nxM l (nxM l 3 (a+1)+1) (a+2):Nat),.int .i64 0,.int .i64 0,.int .i64 0,.int .i64 (nxM l 4 (a+3):Nat),.int .i64 (nxM l 3 (a+4):Nat),ints [0],.aB,.bool (mkT 1 1000).neg,aF (mkT 1 1000).num,aF (mkT 1 1000).den,.bool (mkT 30 1).neg,aF (mkT 30 1).num,aF (mkT 30 1).den]:=by
   unfold oP mC
   simp only[if_pos c]
  have h11':=h10.perm (List.perm_append_comm (l₁:=E.boxes l ext w1 w2 wd wr wp .aB (a+6)) (l₂:=[(q,.rows 17 [mC (oP l t a) .aB])])) (List.Perm.refl _)
  simp only[go_sem,γ,δ,ε,ζ,η,θ,ι,κ,μ,ν,ξ,ο,ρ,σ,τ,υ,reduceIte,reduceCtorEq,bT (show ((nxM l 5 (a+5):Nat):Int)=0 by omega),FG,h11,nq,nq',bKY,bLZ,or_false,forall_eq]
  rw[eP] at h11'
  refine hK q _ _ ?_ (by rw[eP]; exact h11')
  unfold zN
  exact Lq
 ·have eP:mC (oP l t a) .aB=[.str (dN 112 t),.int .i64 (1+nxM l 2 a:Nat),.int .i64 (nxM l 3 (a+1):Nat),.int .i64 (1+nxM l 2 a+nxM l (nxM l 3 (a+1)+1) (a+2):Nat),.int .i64 0,.int .i64 0,.int .i64 0,.int .i64 (nxM l 4 (a+3):Nat),.int .i64 (nxM l 3 (a+4):Nat),ints [0,1],.aB,.bool (mkT 1 1000).neg,aF (mkT 1 1000).num,aF (mkT 1 1000).den,.bool (mkT 30 1).neg,aF (mkT 30 1).num,aF (mkT 30 1).den]:=by
   unfold oP mC
   simp only[if_neg c]
  simp only[go_sem,γ,δ,ε,ζ,η,θ,ι,κ,μ,ν,ξ,ο,ρ,σ,τ,υ,reduceIte,reduceCtorEq,bF (show ((nxM l 5 (a+5):Nat):Int)≠0 by omega)]
  refine hK q _ _ ?_ ?_
  ·unfold zN
   exact Lq
  ·rw[eP]
   exact h9.perm (List.perm_append_comm (l₁:=E.boxes l ext w1 w2 wd wr wp .aB (a+6)) (l₂:=[(q,.rows 17 [_])])) (List.Perm.refl _)
def a1D (E:ME) (t:Nat):PF:=(((((PF.nil.set 0 (.ptr E.o 2 0 0)).set 1 (.int .i64 E.vols)).set 4 (.ptr E.o4 7 0 0)).set 5 (.ptr E.o5 7 0 0)).set 14 (.int .i64 t))
theorem beS {C:Ctx} (Lb:oQ C) {l:List Int} (T:TpM l) (E:ME) (n a0:Nat) (hn:n≤10) (ha:a0≤10000) (x0:Int) (w1 w2 wd wr:PV) (o1:w1.oid=none) (o2:w2.oid=none) (dm:List bP) (dv:List cD) (K:cO) (F:PF) (H:PH)
  (hF:(a1D E n).le F) (hH:aS H (E.boxes l (.int .i64 x0) w1 w2 wd wr .aB .aB a0) [(wd,7,dL dm),(wr,3,eE dv)])
  (hK:∀ wp F' H',(tX E).le F'→aS H' (E.boxes l (.int .i64 x0) w1 w2 wd wr wp .aB (a0+6*n)) [(wd,7,dL dm),(wr,3,eE dv),(wp,17,lE (iD l n a0))]→K (.exit 4) F' H') :
  aC.wp C (.loop EQ) K F H:=by
 refine wp_loop (α:=Nat × List dA × PV × PH) (fun s=>a1D E s.1) (fun s=>s.2.2.2)
  (fun s=>s.1≤n∧s.2.1.length=n-s.1∧s.2.1++iD l s.1 (a0+6*(n-s.1))=iD l n a0∧aS s.2.2.2 (E.boxes l (.int .i64 x0) w1 w2 wd wr s.2.2.1 .aB (a0+6*(n-s.1))) [(wd,7,dL dm),(wr,3,eE dv),(s.2.2.1,17,lE s.2.1)]) (fun s=>s.1) (n,[],.aB,H)
  ⟨bKK _,by simp,by simp,by simp only[bNG,Nat.mul_zero,bMB]; exact hH.pJ 17⟩ hF PH.le_refl ?_
 rintro⟨t,done,wp,H0⟩ ⟨ht,hdl,hE,hH⟩
 simp only at ht hdl hE hH ⊢
 simp only[go_sem,γ,δ,ε,ζ,η,θ,ι,κ,μ,ν,ξ,ο,ρ,σ,τ,υ,reduceIte,reduceCtorEq,EQ,aaR,a1D]
 cases t with
 | zero =>
  have hc:¬ (((0:Nat):Int)>0):=by omega
  have e:done=iD l n a0:=by rw[← hE,iD,bMF]
  rw[Nat.sub_zero,e] at hH
  simp only[go_sem,γ,δ,ε,ζ,η,θ,ι,κ,μ,ν,ξ,ο,ρ,σ,τ,υ,reduceIte,reduceCtorEq,hc]
  refine hK wp _ _ ?_ hH
  unfold tX
  exact Lq
 | succ t =>
  have hc:(((t+1:Nat):Int)>0):=by omega
  obtain⟨a,hae⟩:∃ a,a=a0+6*(n-(t+1)):=⟨_,rfl⟩
  have ha6:a0+6*(n-t)=a+6:=by omega
  rw[← hae] at hE hH
  simp only[go_sem,γ,δ,ε,ζ,η,θ,ι,κ,μ,ν,ξ,ο,ρ,σ,τ,υ,reduceIte,reduceCtorEq,hc]
  refine blV Lb T E (t+1) a Om Om (.int .i64 x0) w1 w2 wd wr wp _ _ _ _ _ Ev Ev Ev Ev Ev hH ?_
  intro q F1 H1 hF1 h1
  have f0:F1 0=some (.ptr E.o 2 0 0):=hF1 0 _ (by unfold zN; simp only[go_sem,γ,δ,ε,ζ,η,θ,ι,κ,μ,ν,ξ,ο,ρ,σ,τ,υ,reduceIte,reduceCtorEq])
  have f1:F1 1=some (.int .i64 E.vols):=hF1 1 _ (by unfold zN; simp only[go_sem,γ,δ,ε,ζ,η,θ,ι,κ,μ,ν,ξ,ο,ρ,σ,τ,υ,reduceIte,reduceCtorEq])
  have f4:F1 4=some (.ptr E.o4 7 0 0):=hF1 4 _ (by unfold zN; simp only[go_sem,γ,δ,ε,ζ,η,θ,ι,κ,μ,ν,ξ,ο,ρ,σ,τ,υ,reduceIte,reduceCtorEq])
  have f5:F1 5=some (.ptr E.o5 7 0 0):=hF1 5 _ (by unfold zN; simp only[go_sem,γ,δ,ε,ζ,η,θ,ι,κ,μ,ν,ξ,ο,ρ,σ,τ,υ,reduceIte,reduceCtorEq])
  have f14:F1 14=some (.int .i64 (t+1:Nat)):=hF1 14 _ (by unfold zN; simp only[go_sem,γ,δ,ε,ζ,η,θ,ι,κ,μ,ν,ξ,ο,ρ,σ,τ,υ,reduceIte,reduceCtorEq])
  have f16:F1 16=some (.int .i64 (nxM l 3 (a+1):Nat)):=hF1 16 _ (by unfold zN; simp only[go_sem,γ,δ,ε,ζ,η,θ,ι,κ,μ,ν,ξ,ο,ρ,σ,τ,υ,reduceIte,reduceCtorEq])
  have f17:F1 17=some (.ptr q 17 0 0):=hF1 17 _ (by unfold zN; simp only[go_sem,γ,δ,ε,ζ,η,θ,ι,κ,μ,ν,ξ,ο,ρ,σ,τ,υ,reduceIte,reduceCtorEq])
  have n3:=cM l (show 0<3 by decide) (a+1)
  have hPr:(oP l (t+1) a).repair=bKL (max (nxM l 3 (a+1)) 1) (mkT 1 2):=rfl
  have hE2:(done++[oP l (t+1) a])++iD l t (a+6)=iD l n a0:=by rw[← hE,iD,bLI]; rfl
  generalize oP l (t+1) a=P at *
  simp only[go_sem,γ,δ,ε,ζ,η,θ,ι,κ,μ,ν,ξ,ο,ρ,σ,τ,υ,reduceIte,reduceCtorEq,aaS]
  refine blW Lb E (t+1) (nxM l 3 (a+1)) q P _ _ Om _ _ _ (by unfold tY; (repeat' (first|exact PF.nil_le|refine PF.aK ?_ ?_))<;>first|(simp only[go_sem,γ,δ,ε,ζ,η,θ,ι,κ,μ,ν,ξ,ο,ρ,σ,τ,υ,reduceIte,reduceCtorEq,f0,f1,f4,f5,f14,f16,f17]<;>rfl)|rfl) h1 ?_
  intro w F2 H2 hF2 h2
  have g0:F2 0=some (.ptr E.o 2 0 0):=hF2 0 _ (by unfold tY; simp only[go_sem,γ,δ,ε,ζ,η,θ,ι,κ,μ,ν,ξ,ο,ρ,σ,τ,υ,reduceIte,reduceCtorEq])
  have g1:F2 1=some (.int .i64 E.vols):=hF2 1 _ (by unfold tY; simp only[go_sem,γ,δ,ε,ζ,η,θ,ι,κ,μ,ν,ξ,ο,ρ,σ,τ,υ,reduceIte,reduceCtorEq])
  have g4:F2 4=some (.ptr E.o4 7 0 0):=hF2 4 _ (by unfold tY; simp only[go_sem,γ,δ,ε,ζ,η,θ,ι,κ,μ,ν,ξ,ο,ρ,σ,τ,υ,reduceIte,reduceCtorEq])
  have g5:F2 5=some (.ptr E.o5 7 0 0):=hF2 5 _ (by unfold tY; simp only[go_sem,γ,δ,ε,ζ,η,θ,ι,κ,μ,ν,ξ,ο,ρ,σ,τ,υ,reduceIte,reduceCtorEq])
  have g14:F2 14=some (.int .i64 (t+1:Nat)):=hF2 14 _ (by unfold tY; simp only[go_sem,γ,δ,ε,ζ,η,θ,ι,κ,μ,ν,ξ,ο,ρ,σ,τ,υ,reduceIte,reduceCtorEq])
  have g17:F2 17=some (.ptr q 17 0 0):=hF2 17 _ (by unfold tY; simp only[go_sem,γ,δ,ε,ζ,η,θ,ι,κ,μ,ν,ξ,ο,ρ,σ,τ,υ,reduceIte,reduceCtorEq])
  obtain⟨o,hw⟩:=(h2.own 3 rfl).one (by rw[MO,bNW]; omega)
  rw[MO,bNW] at hw
  subst hw
  have bq:=h2.at 0 rfl
  have b5:=h2.at 1 rfl
  have h17:(1:Nat)*17≤16777216:=by decide
  have e1:IntKind.i64.wrap (((t+1:Nat):Int)-1)=((t:Nat):Int):=by rw[wrap_i64 Om Om]; omega
  simp only[go_sem,γ,δ,ε,ζ,η,θ,ι,κ,μ,ν,ξ,ο,ρ,σ,τ,υ,reduceIte,reduceCtorEq,aaX,g5,g17,bq,b5,h17]
  refine h2.append (v:=wp) (s:=17) (rows:=lE done) 2 (src:=[mC P (.osl o 3 0 (max (nxM l 3 (a+1)) 1))]) rfl Sq (by unfold roomFor; rw[bKI,hdl]; simp only[bKX,maxLen]; omega) fun wp' H3 h3 hw=>?_
  obtain⟨z,rfl⟩:=hw (by simp)
  have b3:=h3.at 1 rfl
  simp only[go_sem,γ,δ,ε,ζ,η,θ,ι,κ,μ,ν,ξ,ο,ρ,σ,τ,υ,reduceIte,reduceCtorEq,g5,b3,bKY,bLZ,or_false,forall_eq]
  have h4:=h3.set 1 rfl (flB (.int .i64 x0) w1 w2 wd wr (.osl z 17 0 (lE done++[mC P (.osl o 3 0 (max (nxM l 3 (a+1)) 1))]).length) .aB)
  simp only[go_sem,γ,δ,ε,ζ,η,θ,ι,κ,μ,ν,ξ,ο,ρ,σ,τ,υ,reduceIte,reduceCtorEq,aaY,g14,e1]
  generalize hwp:(PV.osl z 17 0 (lE done++[mC P (.osl o 3 0 (max (nxM l 3 (a+1)) 1))]).length)=wp' at *
  obtain⟨rs,z1,z2,z3,z4,z5⟩:=h4.frz 3 rfl
  have y1:=z4 0 _ (by decide) rfl
  have y2:=z4 1 _ (by decide) rfl
  have y3:=z4 2 _ (by decide) rfl
  simp only at y1 y2 y3
  have y4:=uR o1 o 3 rs
  have y5:=uR o2 o 3 rs
  refine aqA (t,done++[P],wp',(H3.set E.o5 (flB (.int .i64 x0) w1 w2 wd wr wp' .aB)).frz o 3 rs) z1 ⟨by omega,by simp only[bKQ,bKX,hdl]; omega,by simp only; rw[ha6]; exact hE2,?_⟩ (by simp only; omega) ?_ PH.le_refl
  ·simp only
   rw[ha6]
   have eB:(E.boxes l (.int .i64 x0) w1 w2 wd wr wp' .aB (a+6)).map (fun b=>(b.1,b.2.frz o 3 rs))=E.boxes l (.int .i64 x0) w1 w2 wd wr wp' .aB (a+6):=by
    show [(E.o5,cS.rows 7 [[.int .i64 x0,PV.dE o 3 rs w1,PV.dE o 3 rs w2,PV.dE o 3 rs wd,PV.dE o 3 rs wr,PV.dE o 3 rs wp',.aB]]),(E.o,bG l (a+6)),(E.o4,flZ)]=_
    rw[y1,y2,y3,y4,y5]
   have e5:(lE done++[mC P (.osl o 3 0 (max (nxM l 3 (a+1)) 1))]).map (fun r=>r.map (PV.dE o 3 rs))=lE (done++[P]):=by
    rw[bMM,aVG]
    have:([mC P (.osl o 3 0 (max (nxM l 3 (a+1)) 1))]:List (List PV)).map (fun r=>r.map (PV.dE o 3 rs))=[P.cells]:=by
     show [[PV.str P.name,.int .i64 P.k,.int .i64 P.m,.int .i64 P.bJI,.int .i64 P.s0,.int .i64 P.s1,.int .i64 P.s2,.int .i64 P.s3,.int .i64 P.s4,ints P.bIF,PV.dE o 3 rs (.osl o 3 0 (max (nxM l 3 (a+1)) 1)),.bool P.target.neg,aF P.target.num,aF P.target.den,.bool P.bIQ.neg,aF P.bIQ.num,aF P.bIQ.den]]=_
     rw[z2]
     unfold dA.cells
     rw[hPr]
    rw[this]
    simp[lE]
   have eL:([(wd,7,dL dm),(wr,3,eE dv),(wp',17,lE done++[mC P (.osl o 3 0 (max (nxM l 3 (a+1)) 1))])]:List LI).map (fun x=>(x.1,x.2.1,x.2.2.map fun r=>r.map (PV.dE o 3 rs)))=[(wd,7,dL dm),(wr,3,eE dv),(wp',17,lE (done++[P]))]:=by
    show [(wd,7,(dL dm).map _),(wr,3,(eE dv).map _),(wp',17,(lE done++[mC P (.osl o 3 0 (max (nxM l 3 (a+1)) 1))]).map _)]=_
    rw[aQQ,aQS,e5]
   rw[← eB,← eL]
   exact z5.sub (List.sublist_cons_self ..) (bMK.refl _)
  ·(repeat' (first|exact PF.nil_le|refine PF.aK ?_ ?_))<;>first|(simp only[go_sem,γ,δ,ε,ζ,η,θ,ι,κ,μ,ν,ξ,ο,ρ,σ,τ,υ,reduceIte,reduceCtorEq,g0,g1,g4,g5]<;>rfl)|rfl
def a1E (E:ME) (t:Nat):PF:=((((PF.nil.set 0 (.ptr E.o 2 0 0)).set 4 (.ptr E.o4 7 0 0)).set 5 (.ptr E.o5 7 0 0)).set 19 (.int .i64 t))
def a1C (E:ME):PF:=(((PF.nil.set 0 (.ptr E.o 2 0 0)).set 4 (.ptr E.o4 7 0 0)).set 5 (.ptr E.o5 7 0 0))
theorem beU {C:Ctx} (Lb:oQ C) {l:List Int} (T:TpM l) (E:ME) (n a0:Nat) (hn:n≤90) (ha:a0≤10000) (ext w1 w2 wd wr wp:PV) (ps:List dA) (hps:ps.length≤1000) (dm:List bP) (dv:List cD) (K:cO) (F:PF) (H:PH)
  (hF:(a1E E n).le F) (hH:aS H (E.boxes l ext w1 w2 wd wr wp .aB a0) [(wd,7,dL dm),(wr,3,eE dv),(wp,17,lE ps)])
  (hK:∀ wv F' H',(a1C E).le F'→aS H' (E.boxes l ext w1 w2 wd wr wp wv (a0+n)) [(wd,7,dL dm),(wr,3,eE dv),(wp,17,lE ps),(wv,2,oX (kU l ps.length n a0))]→K (.exit 8) F' H') :
  aC.wp C (.loop ER) K F H:=by
 refine wp_loop (α:=Nat × List eD × PV × PH) (fun s=>a1E E s.1) (fun s=>s.2.2.2)
  (fun s=>s.1≤n∧s.2.1.length=n-s.1∧s.2.1++kU l ps.length s.1 (a0+(n-s.1))=kU l ps.length n a0∧aS s.2.2.2 (E.boxes l ext w1 w2 wd wr wp s.2.2.1 (a0+(n-s.1))) [(wd,7,dL dm),(wr,3,eE dv),(wp,17,lE ps),(s.2.2.1,2,oX s.2.1)]) (fun s=>s.1) (n,[],.aB,H)
  ⟨bKK _,by simp,by simp,by simp only[bNG,bMB]; exact hH.pJ 2⟩ hF PH.le_refl ?_
 rintro⟨t,done,wv,H0⟩ ⟨ht,hdl,hE,hH⟩
 simp only at ht hdl hE hH ⊢
 simp only[go_sem,γ,δ,ε,ζ,η,θ,ι,κ,μ,ν,ξ,ο,ρ,σ,τ,υ,reduceIte,reduceCtorEq,ER,abA,a1E]
 cases t with
 | zero =>
  have hc:¬ (((0:Nat):Int)>0):=by omega
  have e:done=kU l ps.length n a0:=by rw[← hE,kU,bMF]
  rw[Nat.sub_zero,e] at hH
  simp only[go_sem,γ,δ,ε,ζ,η,θ,ι,κ,μ,ν,ξ,ο,ρ,σ,τ,υ,reduceIte,reduceCtorEq,hc]
  refine hK wv _ _ ?_ hH
  unfold a1C
  exact Lq
 | succ t =>
  have hc:(((t+1:Nat):Int)>0):=by omega
  obtain⟨a,hae⟩:∃ a,a=a0+(n-(t+1)):=⟨_,rfl⟩
  have ha6:a0+(n-t)=a+1:=by omega
  rw[← hae] at hE hH
  have b5:=hH.at 0 rfl
  have lw:=(hH.own 2 rfl).uB
  rw[bKI] at lw
  have h1:=hH.set 1 rfl (bG l (a+1))
  have b1:=h1.at 0 rfl
  have e1:IntKind.i64.wrap (((t+1:Nat):Int)-1)=((t:Nat):Int):=by rw[wrap_i64 Om Om]; omega
  have h12:(1:Nat)*2≤16777216:=by decide
  simp only[go_sem,γ,δ,ε,ζ,η,θ,ι,κ,μ,ν,ξ,ο,ρ,σ,τ,υ,reduceIte,reduceCtorEq,hc]
  refine bS (PH.nil.set E.o5 (flB ext w1 w2 wd wr wp wv)) (mdS l) (PH.aK PH.nil_le b5) ?_
  simp only[go_sem,γ,δ,ε,ζ,η,θ,ι,κ,μ,ν,ξ,ο,ρ,σ,τ,υ,reduceIte,reduceCtorEq,abB,b5]
  refine LP Lb (c:=118) (n:=t+1) Om (by simp only[go_sem,γ,δ,ε,ζ,η,θ,ι,κ,μ,ν,ξ,ο,ρ,σ,τ,υ,reduceIte,reduceCtorEq]; rfl) (PH.aK PH.nil_le b5) ?_
  simp only[go_sem,γ,δ,ε,ζ,η,θ,ι,κ,μ,ν,ξ,ο,ρ,σ,τ,υ,reduceIte,reduceCtorEq,b5,lw]
  refine a7B Lb.toEB T (o:=E.o) (n:=ps.length) (a:=a) Om Om Sq (hH.at 1 rfl) (PH.aK PH.nil_le b1) ?_
  simp only[go_sem,γ,δ,ε,ζ,η,θ,ι,κ,μ,ν,ξ,ο,ρ,σ,τ,υ,reduceIte,reduceCtorEq,h12]
  refine h1.append (v:=wv) (s:=2) (rows:=oX done) 3 (src:=[(⟨dN 118 (t+1),(nxM l ps.length a:Nat)⟩:eD).cells]) rfl Sq (by unfold roomFor; rw[bKI,hdl]; simp only[bKX,maxLen]; omega) fun w' H2 h5 hw=>?_
  obtain⟨z,rfl⟩:=hw (by simp)
  have b2:=h5.at 0 rfl
  refine⟨PH.aK PH.nil_le b2,?_⟩
  refine bS .nil eC PH.nil_le ?_
  simp only[go_sem,γ,δ,ε,ζ,η,θ,ι,κ,μ,ν,ξ,ο,ρ,σ,τ,υ,reduceIte,reduceCtorEq,abC,b2,bKY,bLZ,or_false,forall_eq]
  have h6:=h5.set 0 rfl (flB ext w1 w2 wd wr wp (.osl z 2 0 (oX done++[(⟨dN 118 (t+1),(nxM l ps.length a:Nat)⟩:eD).cells]).length))
  refine⟨PH.nil_le,?_⟩
  simp only[go_sem,γ,δ,ε,ζ,η,θ,ι,κ,μ,ν,ξ,ο,ρ,σ,τ,υ,reduceIte,reduceCtorEq,abD,e1]
  refine aI (t,done++[⟨dN 118 (t+1),(nxM l ps.length a:Nat)⟩],.osl z 2 0 (oX done++[(⟨dN 118 (t+1),(nxM l ps.length a:Nat)⟩:eD).cells]).length,_) ⟨by omega,by simp only[bKQ,bKX,hdl]; omega,?_,?_⟩ (by simp only; omega) ?_ PH.le_refl
  ·simp only
   rw[ha6,← hE,kU,bLI]
   rfl
  ·simp only
   rw[ha6]
   have e:oX (done++[⟨dN 118 (t+1),(nxM l ps.length a:Nat)⟩])=oX done++[(⟨dN 118 (t+1),(nxM l ps.length a:Nat)⟩:eD).cells]:=by simp[oX]
   rw[e]
   exact h6
  ·exact Lq
def aPY (l:List Int) (o vols a:Nat) (r:PV) (H:PH):Prop:=Co r (.agg (dH l vols a).1.cells)∧H=PH.nil.set o (bG l (dH l vols a).2)
theorem a7E {C:Ctx} (Lb:CK C) {l:List Int} (T:TpM l) (o vols a:Nat) (hv:vols≤50) (ha:a≤1000) :
  zO.wp C (aT LS.res (aPY l o vols a)) (PF.args [.ptr o 2 0 0,.int .i64 vols]) (PH.nil.set o (bG l a)):=by
 have hR:∀ r H,aPY l o vols a r H↔Co r (.agg (dH l vols a).1.cells)∧H=PH.nil.set o (bG l (dH l vols a).2):=fun _ _=>Iff.rfl
 have hT:dH l vols a=dH l vols a:=rfl
 conv at hT=>rhs; unfold dH
 dsimp only at hT
 have n1:=cM l (show 0<2 by decide) a
 have n2:=cM l (show 0<100 by decide) (a+1)
 have n3:=cM l (show 0<2 by decide) (a+2)
 have n4:=cM l (show 0<9 by decide) (a+3)
 have n5:=cM l (show 0<3 by decide) (a+4)
 have n6:=cM l (show 0<9 by decide) (a+5)
 have n7:=cM l (show 0<3 by decide) (a+6)
 have e1:IntKind.i64.wrap (1+((nxM l 2 a:Nat):Int))=((1+nxM l 2 a:Nat):Int):=gT (a:=1) Om
 have e2:IntKind.i64.wrap (100+((nxM l 100 (a+1):Nat):Int))=((100+nxM l 100 (a+1):Nat):Int):=gT (a:=100) Om
 have e3:IntKind.i64.wrap (3+((nxM l 2 (a+2):Nat):Int))=((3+nxM l 2 (a+2):Nat):Int):=gT (a:=3) Om
 have e4:IntKind.i64.wrap (8+((nxM l 9 (a+3):Nat):Int))=((8+nxM l 9 (a+3):Nat):Int):=gT (a:=8) Om
 have e5:IntKind.i64.wrap (1+((nxM l 3 (a+4):Nat):Int))=((1+nxM l 3 (a+4):Nat):Int):=gT (a:=1) Om
 have e6:IntKind.i64.wrap (4+((nxM l 9 (a+5):Nat):Int))=((4+nxM l 9 (a+5):Nat):Int):=gT (a:=4) Om
 have e7:IntKind.i64.wrap (3+((nxM l 3 (a+6):Nat):Int))=((3+nxM l 3 (a+6):Nat):Int):=gT (a:=3) Om
 have hM:=oW l (adT (a+7)) (3+nxM l 3 (a+6)) Om
 have h0:aS (PH.nil.set o (bG l a)) [(o,bG l a)] []:=aS.nil.new (H:=PH.nil) rfl (bG l a)
 have h13:(1:Nat)*3≤16777216:=by decide
 have h11:(1:Nat)*1≤16777216:=by decide
 have h14:(1:Nat)*4≤16777216:=by decide
 have h24:(2:Nat)*4≤16777216:=by decide
 have h17:(1:Nat)*7≤16777216:=by decide
 simp only[go_sem,γ,δ,ε,ζ,η,θ,ι,κ,μ,ν,ξ,ο,ρ,σ,τ,υ,reduceIte,reduceCtorEq,zO,aoB,LS]
 refine aQ fun o4 ho4=>?_
 have h1:=h0.new ho4 flZ
 simp only[go_sem,γ,δ,ε,ζ,η,θ,ι,κ,μ,ν,ξ,ο,ρ,σ,τ,υ,reduceIte,reduceCtorEq,aoC]
 refine cH Lb.toEB T (o:=o) (n:=2) (a:=a) (by decide) Om rfl (h1.at 0 rfl) ?_
 have h2:=h1.set 0 rfl (bG l (a+1))
 simp only[go_sem,γ,δ,ε,ζ,η,θ,ι,κ,μ,ν,ξ,ο,ρ,σ,τ,υ,reduceIte,reduceCtorEq,e1]
 refine aQ fun o5 ho5=>?_
 have h3:=h2.new ho5 (flB (.int .i64 (1+nxM l 2 a:Nat)) .aB .aB .aB .aB .aB .aB)
 have n05:¬ o=o5:=h3.ne 0 2 rfl rfl (by decide)
 have n50:¬ o5=o:=fun h=>n05 h.symm
 simp only[go_sem,γ,δ,ε,ζ,η,θ,ι,κ,μ,ν,ξ,ο,ρ,σ,τ,υ,reduceIte,reduceCtorEq,aoD,bKY,bLZ,or_false,forall_eq,forall_eq_or_imp]
 refine aA (Lb.frac 1 1 (by unfold cW; omega) (by unfold cW; omega) (by decide)) rfl ?_
 simp only[go_sem,γ,δ,ε,ζ,η,θ,ι,κ,μ,ν,ξ,ο,ρ,σ,τ,υ,reduceIte,reduceCtorEq,h13]
 refine aA (Lb.frac 0 1 (by unfold cW; omega) (by unfold cW; omega) (by decide)) rfl ?_
 simp only[go_sem,γ,δ,ε,ζ,η,θ,ι,κ,μ,ν,ξ,ο,ρ,σ,τ,υ,reduceIte,reduceCtorEq,h13,h11]
 refine cH Lb.toEB T (o:=o) (n:=100) (a:=a+1) (by decide) Om rfl (h3.at 0 rfl) ?_
 have h4:=h3.set 0 rfl (bG l (a+2))
 simp only[go_sem,γ,δ,ε,ζ,η,θ,ι,κ,μ,ν,ξ,ο,ρ,σ,τ,υ,reduceIte,reduceCtorEq,e2]
 refine aA (Lb.frac 1 (100+nxM l 100 (a+1):Nat) (by unfold cW; omega) (by unfold cW; omega) Om) rfl ?_
 have h5:=h4.set 2 rfl (flB (.int .i64 (1+nxM l 2 a:Nat)) (.sl 4 (aEY [⟨[100,105,115,107],[mkT 1 1],[[mkT 0 1]],[mkT 1 ((100+nxM l 100 (a+1):Nat):Int)]⟩])) .aB .aB .aB .aB .aB)
 simp only[go_sem,γ,δ,ε,ζ,η,θ,ι,κ,μ,ν,ξ,ο,ρ,σ,τ,υ,reduceIte,reduceCtorEq,h13,h14,n05,n50,bKY,bLZ,or_false,forall_eq,aoE]
 refine cH Lb.toEB T (o:=o) (n:=2) (a:=a+2) (by decide) Om rfl (h5.at 0 rfl) ?_
 have h6:=h5.set 0 rfl (bG l (a+3))
 simp only[go_sem,γ,δ,ε,ζ,η,θ,ι,κ,μ,ν,ξ,ο,ρ,σ,τ,υ,reduceIte,reduceCtorEq,e3]
 refine cH Lb.toEB T (o:=o) (n:=9) (a:=a+3) (by decide) Om rfl (h6.at 0 rfl) ?_
 have h7:=h6.set 0 rfl (bG l (a+4))
 rw[PH.set_set] at h7
 simp only[go_sem,γ,δ,ε,ζ,η,θ,ι,κ,μ,ν,ξ,ο,ρ,σ,τ,υ,reduceIte,reduceCtorEq,e4]
 refine cH Lb.toEB T (o:=o) (n:=3) (a:=a+4) (by decide) Om rfl (h7.at 0 rfl) ?_
 have h8:=h7.set 0 rfl (bG l (a+5))
 rw[PH.set_set] at h8
 simp only[go_sem,γ,δ,ε,ζ,η,θ,ι,κ,μ,ν,ξ,ο,ρ,σ,τ,υ,reduceIte,reduceCtorEq,e5]
 refine cH Lb.toEB T (o:=o) (n:=9) (a:=a+5) (by decide) Om rfl (h8.at 0 rfl) ?_
 have h9:=h8.set 0 rfl (bG l (a+6))
 rw[PH.set_set] at h9
 obtain⟨w1,hw1⟩:∃ w1,w1=PV.sl 4 (aEY [⟨[100,105,115,107],[mkT 1 1],[[mkT 0 1]],[mkT 1 ((100+nxM l 100 (a+1):Nat):Int)]⟩]):=⟨_,rfl⟩
 obtain⟨w2,hw2⟩:∃ w2,w2=PV.sl 4 (a8V [⟨[98,105,103],(3+nxM l 2 (a+2):Nat),(8+nxM l 9 (a+3):Nat),0⟩,⟨[111,108,100],(1+nxM l 3 (a+4):Nat),(4+nxM l 9 (a+5):Nat),0⟩]):=⟨_,rfl⟩
 have h10:=h9.set 2 rfl (flB (.int .i64 (1+nxM l 2 a:Nat)) w1 w2 .aB .aB .aB .aB)
 rw[hw1,hw2] at h10
 simp only[go_sem,γ,δ,ε,ζ,η,θ,ι,κ,μ,ν,ξ,ο,ρ,σ,τ,υ,reduceIte,reduceCtorEq,e6,h24,n05,n50,bKY,bLZ,or_false,forall_eq,aoF]
 refine aA (Lb.frac 0 1 (by unfold cW; omega) (by unfold cW; omega) (by decide)) rfl ?_
 simp only[go_sem,γ,δ,ε,ζ,η,θ,ι,κ,μ,ν,ξ,ο,ρ,σ,τ,υ,reduceIte,reduceCtorEq,h17]
 refine aQ fun od hod=>?_
 have h11':=h10.aGJ (s:=7) (rows:=dL [jC]) hod
 have n5d:¬ o5=od:=h11'.neL 2 0 rfl rfl rfl
 have nd5:¬ od=o5:=fun h=>n5d h.symm
 have h12:=h11'.set 2 rfl (flB (.int .i64 (1+nxM l 2 a:Nat)) w1 w2 (.osl od 7 0 1) .aB .aB .aB)
 rw[hw1,hw2] at h12
 simp only[go_sem,γ,δ,ε,ζ,η,θ,ι,κ,μ,ν,ξ,ο,ρ,σ,τ,υ,reduceIte,reduceCtorEq,n5d,nd5,bKY,bLZ,or_false,forall_eq,aoG]
 refine cH Lb.toEB T (o:=o) (n:=3) (a:=a+6) (by decide) Om rfl (h12.at 0 rfl) ?_
 have h13':=h12.set 0 rfl (bG l (a+7))
 simp only[go_sem,γ,δ,ε,ζ,η,θ,ι,κ,μ,ν,ξ,ο,ρ,σ,τ,υ,reduceIte,reduceCtorEq,e7,aoH,aoI]
 obtain⟨E,hE⟩:∃ E:ME,E=⟨o,o4,o5,vols⟩:=⟨_,rfl⟩
 have h14':=(h13'.pJ 3).perm (B':=E.boxes l (.int .i64 (1+nxM l 2 a:Nat)) w1 w2 (.osl od 7 0 1) .aB .aB .aB (a+7)) (L':=[(.osl od 7 0 1,7,dL [jC]),(.aB,3,eE [])])
  (by rw[hE,hw1,hw2]; exact (List.Perm.cons _ (List.Perm.swap _ _ _)).trans (List.Perm.swap _ _ _)) (List.Perm.refl _)
 refine a7D Lb T E (3+nxM l 3 (a+6)) (a+7) Om Om (.int .i64 (1+nxM l 2 a:Nat)) w1 w2 (.osl od 7 0 1) _ _ _ ?_ h14' ?_
 ·rw[hE]
  unfold eU
  exact Lq
 clear h14' h13' h12 h11' h10 h9 h8 h7 h6 h5 h4 h3 h2 h1 h0 ho4 ho5 hod
 intro wd wr F1 H1 hF1 h1
 have f0:F1 0=some (.ptr o 2 0 0):=hF1 0 _ (by rw[hE]; unfold tX; simp only[go_sem,γ,δ,ε,ζ,η,θ,ι,κ,μ,ν,ξ,ο,ρ,σ,τ,υ,reduceIte,reduceCtorEq])
 have f1:F1 1=some (.int .i64 vols):=hF1 1 _ (by rw[hE]; unfold tX; simp only[go_sem,γ,δ,ε,ζ,η,θ,ι,κ,μ,ν,ξ,ο,ρ,σ,τ,υ,reduceIte,reduceCtorEq])
 have f4:F1 4=some (.ptr o4 7 0 0):=hF1 4 _ (by rw[hE]; unfold tX; simp only[go_sem,γ,δ,ε,ζ,η,θ,ι,κ,μ,ν,ξ,ο,ρ,σ,τ,υ,reduceIte,reduceCtorEq])
 have f5:F1 5=some (.ptr o5 7 0 0):=hF1 5 _ (by rw[hE]; unfold tX; simp only[go_sem,γ,δ,ε,ζ,η,θ,ι,κ,μ,ν,ξ,ο,ρ,σ,τ,υ,reduceIte,reduceCtorEq])
 generalize eH l ⟨[jC],[],0,0,0,a+7⟩ (3+nxM l 3 (a+6))=s at *
 have sa:=hM.hi
 have n8:=cM l (show 0<2 by decide) s.a
 have e8:IntKind.i64.wrap (1+((nxM l 2 s.a:Nat):Int))=((1+nxM l 2 s.a:Nat):Int):=gT (a:=1) Om
 have q1:=h1.at 1 rfl
 rw[hE] at q1
 simp only[go_sem,γ,δ,ε,ζ,η,θ,ι,κ,μ,ν,ξ,ο,ρ,σ,τ,υ,reduceIte,reduceCtorEq,aaQ,f0]
 refine cH Lb.toEB T (o:=o) (n:=2) (a:=s.a) (by decide) Om rfl q1 ?_
 have h2:=h1.set 1 rfl (bG l (s.a+1))
 simp only[go_sem,γ,δ,ε,ζ,η,θ,ι,κ,μ,ν,ξ,ο,ρ,σ,τ,υ,reduceIte,reduceCtorEq,e8]
 refine beS Lb.tooQ T E (1+nxM l 2 s.a) (s.a+1) Om Om _ w1 w2 wd wr (by rw[hw1]; rfl) (by rw[hw2]; rfl) _ _ _ _ _ ?_ (by rw[hE] at h2 ⊢; exact h2) ?_
 ·rw[hE]
  unfold a1D
  exact Lq
 clear q1 h2 h1 f0 f1 f4 f5 hF1
 intro wp F2 H2 hF2 h1
 have f0:F2 0=some (.ptr o 2 0 0):=hF2 0 _ (by rw[hE]; unfold tX; simp only[go_sem,γ,δ,ε,ζ,η,θ,ι,κ,μ,ν,ξ,ο,ρ,σ,τ,υ,reduceIte,reduceCtorEq])
 have f1:F2 1=some (.int .i64 vols):=hF2 1 _ (by rw[hE]; unfold tX; simp only[go_sem,γ,δ,ε,ζ,η,θ,ι,κ,μ,ν,ξ,ο,ρ,σ,τ,υ,reduceIte,reduceCtorEq])
 have f4:F2 4=some (.ptr o4 7 0 0):=hF2 4 _ (by rw[hE]; unfold tX; simp only[go_sem,γ,δ,ε,ζ,η,θ,ι,κ,μ,ν,ξ,ο,ρ,σ,τ,υ,reduceIte,reduceCtorEq])
 have f5:F2 5=some (.ptr o5 7 0 0):=hF2 5 _ (by rw[hE]; unfold tX; simp only[go_sem,γ,δ,ε,ζ,η,θ,ι,κ,μ,ν,ξ,ο,ρ,σ,τ,υ,reduceIte,reduceCtorEq])
 obtain⟨b,hb⟩:∃ b,b=s.a+1+6*(1+nxM l 2 s.a):=⟨_,rfl⟩
 rw[← hb] at h1
 have n9:nxM l vols b≤vols:=by
  rcases bNK vols with e | e
  ·subst e; unfold nxM; simp
  ·exact Nat.le_of_lt (cM l e _)
 have e9:IntKind.i64.wrap (1+((nxM l vols b:Nat):Int))=((1+nxM l vols b:Nat):Int):=gT (a:=1) Om
 have q1:=h1.at 1 rfl
 rw[hE] at q1
 simp only[go_sem,γ,δ,ε,ζ,η,θ,ι,κ,μ,ν,ξ,ο,ρ,σ,τ,υ,reduceIte,reduceCtorEq,aaZ,f0,f1]
 refine cH Lb.toEB T (o:=o) (n:=vols) (a:=b) Om Om rfl q1 ?_
 have h2:=h1.set 1 rfl (bG l (b+1))
 have hpl:=pY l (1+nxM l 2 s.a) (s.a+1)
 simp only[go_sem,γ,δ,ε,ζ,η,θ,ι,κ,μ,ν,ξ,ο,ρ,σ,τ,υ,reduceIte,reduceCtorEq,e9]
 refine beU Lb.tooQ T E (1+nxM l vols b) (b+1) Om Om _ w1 w2 wd wr wp _ (by rw[hpl]; omega) _ _ _ _ _ ?_ (by rw[hE] at h2 ⊢; exact h2) ?_
 ·rw[hE]
  unfold a1E
  exact Lq
 clear q1 h2 h1 f0 f1 f4 f5 hF2
 intro wv F3 H3 hF3 h1
 have f4:F3 4=some (.ptr o4 7 0 0):=hF3 4 _ (by rw[hE]; unfold a1C; simp only[go_sem,γ,δ,ε,ζ,η,θ,ι,κ,μ,ν,ξ,ο,ρ,σ,τ,υ,reduceIte,reduceCtorEq])
 have f5:F3 5=some (.ptr o5 7 0 0):=hF3 5 _ (by rw[hE]; unfold a1C; simp only[go_sem,γ,δ,ε,ζ,η,θ,ι,κ,μ,ν,ξ,ο,ρ,σ,τ,υ,reduceIte,reduceCtorEq])
 rw[hpl] at h1
 rw[hE] at h1
 have b5:=h1.at 0 rfl
 have b4:=h1.at 2 rfl
 have key:∀ {s:Nat} {v:PV} {rows:List (List PV)},bJ H3 s v rows→PV.one v=true:=by
  rintro s v rows (⟨_,rfl⟩ | ⟨q,rs,rfl,_⟩)<;>rfl
 have k1:=key (h1.own 0 rfl)
 have k2:=key (h1.own 1 rfl)
 have k3:=key (h1.own 2 rfl)
 have k4:=key (h1.own 3 rfl)
 have k5:PV.one w1=true:=by rw[hw1]; rfl
 have k6:PV.one w2=true:=by rw[hw2]; rfl
 simp only[PV.one] at k1 k2 k3 k4 k5 k6
 simp only[go_sem,γ,δ,ε,ζ,η,θ,ι,κ,μ,ν,ξ,ο,ρ,σ,τ,υ,reduceIte,reduceCtorEq,abE,f4,f5,b5,b4,bKY,bLZ,or_false,forall_eq,forall_eq_or_imp,k1,k2,k3,k4,k5,k6]
 have h2:=h1.set 2 rfl (flB (.int .i64 (1+nxM l 2 a:Nat)) w1 w2 wd wr wp wv)
 have h3:=h2.sub (B':=[(o,bG l (b+1+(1+nxM l vols b)))]) (bMK.cons _ (bMK.cons_cons _ (List.nil_sublist _))) (bMK.refl _)
 obtain⟨φ,H6,z1,z2,z3,z4⟩:=aS.giveUp _ h3 (fun x hx=>by
  simp only[bKY,bLZ,or_false] at hx
  rcases hx with rfl | rfl | rfl | rfl
  ·exact aQQ _
  ·exact aQS _
  ·exact aVG _
  ·exact bqK _) (fun b hb q s rs=>by
  simp only[bKY,bLZ,or_false] at hb
  subst hb
  rfl)
 refine amT (vs:=[.agg [.int .i64 (1+nxM l 2 a:Nat),w1,w2,wd,wr,wp,wv]]) (.inr rfl) (by simp only[go_sem,γ,δ,ε,ζ,η,θ,ι,κ,μ,ν,ξ,ο,ρ,σ,τ,υ,reduceIte,reduceCtorEq,f4]) (z4 _ _ (.done (H2:=PH.nil.set o (bG l (b+1+(1+nxM l vols b)))) ?_ (PH.aK PH.nil_le (z3.at 0 rfl))))
 have hb2:s.a+2+6*(1+nxM l 2 s.a)=b+1:=by omega
 rw[hb2,← hb] at hT
 rw[hR,hT]
 refine⟨CoL.agg ?_,rfl⟩
 have s1:=z1 (wd,7,dL s.bIP) (by simp)
 have s2:=z1 (wr,3,eE s.bJD) (by simp)
 have s3:=z1 (wp,17,lE (iD l (1+nxM l 2 s.a) (s.a+1))) (by simp)
 have s4:=z1 (wv,2,oX (kU l (1+nxM l 2 s.a) (1+nxM l vols b) (b+1))) (by simp)
 have s0:φ (.int .i64 (1+nxM l 2 a:Nat))=.int .i64 (1+nxM l 2 a:Nat):=z2 _ rfl
 have s5:φ w1=w1:=z2 _ (by rw[hw1]; rfl)
 have s6:φ w2=w2:=z2 _ (by rw[hw2]; rfl)
 show CoL [φ (.int .i64 (1+nxM l 2 a:Nat)),φ w1,φ w2,φ wd,φ wr,φ wp,φ wv] _
 rw[s0,s5,s6,hw1,hw2]
 exact CoL.cons (.refl _) (CoL.cons (.refl _) (CoL.cons (.refl _) (CoL.cons s1.co (CoL.cons s2.co (CoL.cons s3.co (CoL.cons s4.co .nil))))))
structure brF (x:RF):Prop where
 lim:cI x=true
 ok:x.Ok
theorem SmF.o {x:RF} {a b:Nat} (h:SmF x a b):brF x:=⟨h.lim,h.ok⟩
theorem ZC:SmF oN 0 1:=SmF.mk' (a:=0) (b:=1) (by decide) (by decide) (by decide)
theorem aJS {α:Type} {P:Nat→α→Prop} {xs:List α} {x:α} (h:∀ i (hi:i<xs.length),P i xs[i]) (hx:P xs.length x):∀ i (hi:i<(xs++[x]).length),P i (xs++[x])[i]:=by
 intro i hi
 by_cases hlt:i<xs.length
 ·rw[List.getElem_append_left hlt]; exact h i hlt
 ·rw[bKQ,bKX] at hi
  have:i=xs.length:=by omega
  subst this
  rw[List.getElem_append_right Om]
  simpa using hx
theorem aQA {α:Type} {p:α→Bool} {l:List α} (h:∀ i (hi:i<l.length),p l[i]=true):l.all p=true:=by
 rw[bLA]
 intro x hx
 obtain⟨i,hi,rfl⟩:=bMP hx
 exact h i hi
theorem eO {n lo hi:Int} (h1:lo≤n) (h2:n≤hi):within n lo hi=true:=within_iff.2 ⟨h1,h2⟩
abbrev lvs (ds:List bP):List Int:=ds.map bP.level
def byL (ds:List bP) (i:Nat) (d:bP):Prop:=∃ lev p u:Nat,d.name=[aTJ lev]++yL (i+1)∧d.level=lev∧1≤lev∧lev≤4∧d.parent=p∧p≤i∧(lvs ds)[p]?=some ((lev:Int)-1)∧d.bJE=u∧1≤u∧u≤16∧brF d.bIW
def byN (ds:List bP) (mc i:Nat) (d:cD):Prop:=∃ m c:Nat,d.name=[100]++yL i∧d.model=m∧m<mc∧d.machine=c∧(lvs ds)[c]?=some 4
structure GV (mc bIE:Nat) (s:GS):Prop where
 len:s.bIP.length≤35
 bJD:s.bJD.length≤bIE
 root:s.bIP[0]?=some jC
 dom:∀ i (hi:i+1<s.bIP.length),byL s.bIP i s.bIP[i+1]
 drv:∀ i (hi:i<s.bJD.length),byN s.bIP mc i s.bJD[i]
theorem GV.a {mc bIE:Nat} {s:GS} (h:GV mc bIE s) (x:Nat):GV mc bIE { s with a:=x }:=⟨h.len,h.bJD,h.root,h.dom,h.drv⟩
theorem alV {ds:List bP} {p:Nat} {x:Int} {t:List bP} (h:(lvs ds)[p]?=some x):(lvs (ds++t))[p]?=some x:=by
 unfold lvs at *
 rw[bMM,bNB]
 ·exact h
 ·exact (bLU.1 h).1

def unM:List UInt8→Nat
 | [_,a,b]=>(a.toNat-97)*26+(b.toNat-97)
 | _=>0
theorem blH:∀ k:Fin 100,fJ (UInt8.ofNat (97+k.val/26%26)).toNat=true∧fJ (UInt8.ofNat (97+k.val%26)).toNat=true∧unM (dN 0 k.val)=k.val:=by decide +kernel
theorem YV (c:UInt8) {k:Nat} (hk:k<100):unM (dN c k)=k:=(blH ⟨k,hk⟩).2.2
theorem XV {c:UInt8} (hc:eW c.toNat=true) {k:Nat} (hk:k<100):isName (dN c k)=true:=by
 obtain⟨h1,h2,-⟩:=blH ⟨k,hk⟩
 simp only at h1 h2
 have hi:fJ c.toNat=true:=by unfold fJ; rw[hc]; rfl
 unfold dN isName
 simp only[bLX,bMW,List.all_cons,List.all_nil,hc,hi,h1,h2]
 rfl
def byM (ds:List bP) (i:Nat) (d:bP):Prop:=∃ lev p u:Nat,d.name=dN 110 (i+1)∧d.level=lev∧1≤lev∧lev≤4∧d.parent=p∧p≤i∧(lvs ds)[p]?=some ((lev:Int)-1)∧d.bJE=u∧1≤u∧u≤64∧d.bIW=oN
def WC (ds:List bP) (i:Nat) (d:cD):Prop:=∃ m c:Nat,d.name=dN 100 i∧d.model=m∧m<2∧d.machine=c∧(lvs ds)[c]?=some 4
structure DV (ds:List bP):Prop where
 root:ds[0]?=some jC
 dom:∀ i (hi:i+1<ds.length),byM ds i ds[i+1]
theorem DV.new {ds:List bP} (h:DV ds) {level parent up:Nat} (h1:1≤level) (h4:level≤4) (hp:(lvs ds)[parent]?=some ((level:Int)-1)) (u1:1≤up) (u2:up≤64) :
  DV (dK ds level parent up)∧(lvs (dK ds level parent up))[ds.length]?=some (level:Int):=by
 have hpl:parent<ds.length:=by
  have:=(bLU.1 hp).1
  rwa [bKI] at this
 unfold dK
 refine⟨⟨by rw[bNB Om]; exact h.root,fun i hi=>?_⟩,?_⟩
 ·simp only[bKQ,bKX] at hi
  by_cases hlt:i+1<ds.length
  ·rw[List.getElem_append_left hlt]
   obtain⟨lev,p,v,g1,g2,g3,g4,g5,g6,g7,g8⟩:=h.dom i hlt
   exact⟨lev,p,v,g1,g2,g3,g4,g5,g6,alV g7,g8⟩
  ·have:i+1=ds.length:=by omega
   rw[List.getElem_append_right Om]
   simp only[List.getElem_singleton]
   exact⟨level,parent,up,by rw[this],rfl,h1,h4,rfl,by omega,alV hp,rfl,u1,u2,rfl⟩
 ·unfold lvs
  rw[bMM,bMR (by rw[bKI]; exact bKK _),bKI,bNG]
  rfl
theorem lT {ds:List bP} {a b c p:Nat} {x:Int} (h:(lvs ds)[p]?=some x):(lvs (dK ds a b c))[p]?=some x:=alV h
structure MV (k:Nat) (s:MS):Prop where
 dv:DV s.bIP
 drv:∀ i (hi:i<s.bJD.length),WC s.bIP i s.bJD[i]
 at_:0<k→(lvs s.bIP)[s.room]?=some 2∧(lvs s.bIP)[s.rack]?=some 3
theorem alC {ds ds':List bP} {rs:List cD} (h:∀ i (hi:i<rs.length),WC ds i rs[i]) (hk:∀ (p:Nat) (x:Int),(lvs ds)[p]?=some x→(lvs ds')[p]?=some x):∀ i (hi:i<rs.length),WC ds' i rs[i]:=fun i hi=>by
 obtain⟨m,c,h1,h2,h3,h4,h5⟩:=h i hi
 exact⟨m,c,h1,h2,h3,h4,hk _ _ h5⟩
theorem bhM (l:List Int) (i:Nat) {s:MS} (h:MV i s):MV 1 (eK l i s):=by
 obtain⟨h1,h2,h3⟩:=h
 have key:∀ a,MV 1 ⟨dK (dK (dK s.bIP 1 0 (16+nxM l 17 a)) 2 s.bIP.length (16+nxM l 17 (a+1))) 3 (dK s.bIP 1 0 (16+nxM l 17 a)).length (8+nxM l 9 (a+2)),s.bJD,s.bIP.length,(dK s.bIP 1 0 (16+nxM l 17 a)).length,(dK (dK s.bIP 1 0 (16+nxM l 17 a)) 2 s.bIP.length (16+nxM l 17 (a+1))).length,a+3⟩:=fun a=>by
  have n1:=cM l (show 0<17 by decide) a
  have n2:=cM l (show 0<17 by decide) (a+1)
  have n3:=cM l (show 0<9 by decide) (a+2)
  have r0:(lvs s.bIP)[0]?=some (((1:Nat):Int)-1):=by
   unfold lvs
   rw[bLN,h1.root]; rfl
  obtain⟨d1,e1⟩:=h1.new (level:=1) (parent:=0) (up:=16+nxM l 17 a) (by decide) (by decide) r0 Om Om
  obtain⟨d2,e2⟩:=d1.new (level:=2) (parent:=s.bIP.length) (up:=16+nxM l 17 (a+1)) (by decide) (by decide) e1 Om Om
  obtain⟨d3,e3⟩:=d2.new (level:=3) (parent:=(dK s.bIP 1 0 (16+nxM l 17 a)).length) (up:=8+nxM l 9 (a+2)) (by decide) (by decide) e2 Om Om
  exact⟨d3,alC h2 fun p x hx=>lT (lT (lT hx)),fun _=>⟨lT e2,e3⟩⟩
 unfold eK
 simp only
 split
 ·exact key _
 ·rename_i hi
  obtain⟨g1,g2⟩:=h3 Om
  split
  ·exact key _
  ·split
   ·have n3:=cM l (show 0<9 by decide) (s.a+2)
    obtain⟨d3,e3⟩:=h1.new (level:=3) (parent:=s.room) (up:=8+nxM l 9 (s.a+2)) (by decide) (by decide) g1 Om Om
    exact⟨d3,alC h2 fun p x hx=>lT hx,fun _=>⟨lT g1,e3⟩⟩
   ·exact⟨h1,h2,fun _=>⟨g1,g2⟩⟩
theorem a7K (l:List Int) {ds:List bP} {m:Nat} (hm:(lvs ds)[m]?=some 4):∀ (k:Nat) (s:List cD × Nat),(∀ i (hi:i<s.1.length),WC ds i s.1[i])→∀ i (hi:i<(iV l m k s).1.length),WC ds i (iV l m k s).1[i]
 | 0,s,h=>h
 | k+1,s,h=>by
  rw[iV]
  split
  ·refine a7K l hm k _ (aJS (P:=fun i (x:cD)=>WC ds i x) h ⟨_,m,rfl,rfl,?_,rfl,hm⟩)
   split<;>decide
  ·exact h
theorem bnY (l:List Int) (i:Nat) {s:MS} (h:MV i s):MV (i+1) (yO l i s):=by
 obtain⟨h1,h2,h3⟩:=bhM l i h
 obtain⟨g1,g2⟩:=h3 (by decide)
 have n3:=cM l (show 0<9 by decide) (eK l i s).a
 obtain⟨d3,e3⟩:=h1.new (level:=4) (parent:=(eK l i s).rack) (up:=8+nxM l 9 (eK l i s).a) (by decide) (by decide) g2 Om Om
 unfold yO
 simp only
 exact⟨d3,a7K l e3 _ _ (alC h2 fun p x hx=>lT hx),fun _=>⟨lT g1,lT g2⟩⟩
theorem aFA (l:List Int) (a:Nat):∀ k,MV k (eH l ⟨[jC],[],0,0,0,a⟩ k)
 | 0=>⟨⟨rfl,fun i hi=>absurd hi (by simp[eH])⟩,fun i hi=>absurd hi (by simp[eH]),fun h=>absurd h Om⟩
 | k+1=>bnY l k (aFA l a k)
theorem bmA {ds:List bP} (h:DV ds) (hl:ds.length≤100) (f:aH) (hf:f.bIH=ds):mS f=true:=by
 have hr:=h.root
 have hdom:=h.dom
 unfold mS
 rw[hf]
 cases hdm:ds with
 | nil=>rw[hdm] at hr; cases hr
 | cons r t =>
  rw[hdm] at hr
  have:r=jC:=by simpa using hr
  subst this
  show yA f jC t=true
  unfold yA
  simp only[bLF]
  refine⟨⟨⟨⟨⟨⟨rfl,rfl⟩,rfl⟩,rfl⟩,ZC.lim⟩,by rw[show jC.bIW=oN from rfl,ZC.zero]; rfl⟩,?_⟩
  rw[bLA]
  intro i hi
  rw[bLL] at hi
  rw[bKU hi]
  obtain⟨lev,p,u,h1,h2,h3,h4,h5,h6,h7,h8,h9,h10,h11⟩:=hdom i (by rw[hdm]; simp; omega)
  have e:ds[i+1]'(by rw[hdm]; simp; omega)=t[i]:=by simp[hdm]
  rw[e] at h1 h2 h5 h8 h11
  show FO f i t[i]=true
  unfold FO
  simp only[bLF]
  refine⟨⟨⟨⟨?_,?_⟩,?_⟩,?_⟩,by rw[h11]; exact ZC.lim⟩
  ·rw[h5]; exact eO Om Om
  ·rw[h5,h2,hf,bNO,bLC,h7,aiR Om Om]
   exact decide_eq_true rfl
  ·rw[h2]; exact eO Om Om
  ·rw[h8]; exact eO Om Om
theorem bfI {ds:List bP} {rs:List cD} (h:DV ds) (hr:∀ i (hi:i<rs.length),WC ds i rs[i]) (l1:ds.length≤90) (l2:rs.length≤90):distinct ((ds.drop 1).map bP.name++rs.map cD.name)=true:=by
 have hA:∀ i (hi:i<((ds.drop 1).map bP.name).length),((ds.drop 1).map bP.name)[i]=dN 110 (i+1):=by
  intro i hi
  rw[bKI,bML] at hi
  obtain⟨lev,p,u,h1,-⟩:=h.dom i Om
  rw[bMS,List.getElem_drop]
  simp only[Nat.add_comm 1 i]
  exact h1
 have hB:∀ i (hi:i<(rs.map cD.name).length),(rs.map cD.name)[i]=dN 100 i:=by
  intro i hi
  rw[bKI] at hi
  obtain⟨m,c,h1,-⟩:=hr i hi
  rw[bMS]; exact h1
 have lA:((ds.drop 1).map bP.name).length≤90:=by rw[bKI,bML]; omega
 have lB:(rs.map cD.name).length≤90:=by rw[bKI]; omega
 generalize (ds.drop 1).map bP.name=A at *
 generalize rs.map cD.name=B at *
 refine TI ?_ ?_
 ·intro x hx
  rcases bLV.1 hx with hx | hx
  ·obtain⟨i,hi,rfl⟩:=bMP hx
   rw[hA i hi]
   exact XV (by decide) Om
  ·obtain⟨i,hi,rfl⟩:=bMP hx
   rw[hB i hi]
   exact XV (by decide) Om
 ·rw[bMT]
  refine⟨NS (g:=fun s=>unM s-1) fun i hi=>?_,NS (g:=unM) fun i hi=>?_,fun x hx y hy e=>?_⟩
  ·rw[hA i hi,YV _ Om]; omega
  ·rw[hB i hi]; exact YV _ Om
  ·obtain⟨i,hi,rfl⟩:=bMP hx
   obtain⟨j,hj,rfl⟩:=bMP hy
   rw[hA i hi,hB j hj] at e
   exact absurd (List.cons.inj e).1 (by decide)
theorem aEF:cI (mkT 1 2)=true∧cB (mkT 1 2)=true:=by decide +kernel
theorem WY:cI (mkT 1 1000)=true∧sB (mkT 1 1000)=true∧cI (mkT 30 1)=true:=by decide +kernel
theorem bsR (l:List Int) (n a:Nat):jA 2 (oP l n a)=true:=by
 have n1:=cM l (show 0<2 by decide) a
 have n2:=cM l (show 0<3 by decide) (a+1)
 have n3:=cM l (Om:0<nxM l 3 (a+1)+1) (a+2)
 have n4:=cM l (show 0<4 by decide) (a+3)
 have n5:=cM l (show 0<3 by decide) (a+4)
 unfold oP jA HL yT
 simp only[bLF,List.all_cons,List.all_nil,bMI]
 refine⟨⟨⟨⟨⟨⟨⟨⟨eO Om Om,eO Om Om⟩,decide_eq_true Om⟩,eO Om Om⟩,rfl⟩,eO Om Om,eO Om Om,eO Om Om,eO Om Om,eO Om Om⟩,?_⟩,⟨⟨⟨decide_eq_true (by rw[bNW]; omega),?_⟩,WY.1⟩,WY.2.1⟩,WY.2.2⟩,?_⟩
 ·split<;>rfl
 ·rw[bLA]
  intro x hx
  rw[List.eq_of_mem_replicate hx,aEF.1,aEF.2]
  rfl
 ·split<;>decide
theorem YM (l:List Int):∀ n a i (hi:i<(iD l n a).length),(iD l n a)[i].name=dN 112 (n-i)∧jA 2 (iD l n a)[i]=true
 | 0,_,i,hi=>by cases hi
 | n+1,a,0,_=>⟨rfl,bsR l _ _⟩
 | n+1,a,i+1,hi=>by
  have:=YM l n (a+6) i (by simpa [iD] using hi)
  simp only[iD,List.getElem_cons_succ]
  rw[show n+1-(i+1)=n-i by omega]
  exact this
theorem aMX (l:List Int) (p:Nat):∀ n a i (hi:i<(kU l p n a).length),(kU l p n a)[i].name=dN 118 (n-i)
 | 0,_,i,hi=>by cases hi
 | n+1,a,0,_=>rfl
 | n+1,a,i+1,hi=>by
  have:=aMX l p n (a+1) i (by simpa [kU] using hi)
  simp only[kU,List.getElem_cons_succ]
  rw[show n+1-(i+1)=n-i by omega]
  exact this
theorem KR {l:List (List UInt8)} {c:UInt8} (hc:eW c.toNat=true) (hn:l.length≤90) (h:∀ i (hi:i<l.length),l[i]=dN c (l.length-i)):distinct l=true:=by
 refine TI (fun x hx=>?_) (NS (g:=fun s=>l.length-unM s) fun i hi=>?_)
 ·obtain⟨i,hi,rfl⟩:=bMP hx
  rw[h i hi]; exact XV hc Om
 ·rw[h i hi,YV _ Om]; omega
theorem brS:∀ x:Fin 100,kE ⟨[100,105,115,107],[mkT 1 1],[[mkT 0 1]],[mkT 1 ((100+x.val:Nat):Int)]⟩=true:=by decide +kernel
theorem wN (l:List Int) {bIG:Nat} (hv:bIG≤11) (a:Nat):dM (dH l bIG a).1=true:=by
 obtain⟨F,hvl,-,-⟩:=yE l (bIG:=bIG) Om a
 have n3:=cM l (show 0<3 by decide) (a+6)
 have hM:=oW l (adT (a+7)) (3+nxM l 3 (a+6)) Om
 have hV:=aFA l (a+7) (3+nxM l 3 (a+6))
 have hd:=F.bIE
 have hvo:=F.vols
 have hp:=F.pols
 unfold dH at hd hvl hvo hp ⊢
 simp only at hd hvl hvo hp ⊢
 generalize eH l ⟨[jC],[],0,0,0,a+7⟩ (3+nxM l 3 (a+6))=s at *
 have e1:=cM l (show 0<2 by decide) a
 have e2:=cM l (show 0<2 by decide) (a+2)
 have e3:=cM l (show 0<9 by decide) (a+3)
 have e4:=cM l (show 0<3 by decide) (a+4)
 have e5:=cM l (show 0<9 by decide) (a+5)
 have e6:=cM l (show 0<100 by decide) (a+1)
 have hlen:=hM.len
 have e7:=cM l (show 0<2 by decide) s.a
 have hdv:=hM.dlen
 unfold dM
 rw[bmA hV.dv Om _ rfl]
 simp only[bLF,bMI]
 refine⟨⟨?_,⟨⟨⟨⟨?_,?_⟩,?_⟩,?_⟩,?_⟩⟩,⟨⟨⟨(show distinct [[100,105,115,107]]=true by decide +kernel),(show distinct [[98,105,103],[111,108,100]]=true by decide +kernel)⟩,bfI hV.dv hV.drv Om Om⟩,?_⟩,?_⟩
 ·unfold lM
  simp only[bLF]
  exact⟨⟨⟨⟨⟨⟨eO Om Om,rfl⟩,rfl⟩,decide_eq_true Om⟩,decide_eq_true Om⟩,decide_eq_true Om⟩,decide_eq_true Om⟩
 ·simp only[List.all_cons,List.all_nil,bMI]
  exact brS ⟨_,e6⟩
 ·simp only[List.all_cons,List.all_nil,bMI,bLF,jH]
  exact⟨⟨⟨eO Om Om,eO Om Om⟩,rfl⟩,⟨eO Om Om,eO Om Om⟩,rfl⟩
 ·refine aQA fun i hi=>?_
  obtain⟨m,c,-,h2,h3,h4,h5⟩:=hV.drv i hi
  have hc:=(bLU.1 h5).1
  rw[bKI] at hc
  unfold gR
  simp only[bLF]
  rw[h2,h4,bNO,bLC,h5]
  exact⟨⟨eO Om (by simp only[bLX,bMW]; omega),eO Om Om⟩,rfl⟩
 ·exact aQA fun i hi=>(YM l _ _ i hi).2
 ·rw[bLA]
  intro x hx
  have:=hvo x hx
  exact eO this.1 (show x.bIS≤((iD l (1+nxM l 2 s.a) (s.a+1)).length:Int)-1 by omega)
 ·refine KR (c:=112) (by decide) (by rw[bKI]; omega) fun i hi=>?_
  have h1:=(YM l _ _ i (by simpa using hi)).1
  rw[bMS,h1,bKI,pY]
 ·refine KR (c:=118) (by decide) (by rw[bKI]; omega) fun i hi=>?_
  have h1:=aMX l _ _ _ i (by simpa using hi)
  rw[bMS,h1,bKI,zG]


theorem CoL.bsM:CoL [] []:=⟨rfl,fun j p q h=>by simp at h⟩
theorem CoL.axT {p q:PV} {ps qs:List PV} (h:Co p q) (hs:CoL ps qs):CoL (p::ps) (q::qs):=by
 refine⟨by simp[hs.len],fun j x y a b=>?_⟩
 cases j with
 | zero =>
  simp only[List.getElem?_cons_zero,bNA.injEq] at a b
  subst a; subst b; exact h
 | succ j=>exact hs.at_ j x y (by simpa using a) (by simpa using b)
theorem aE.a3Z {C:Ctx} {name:Nat} {R:PV→PH→Prop} {x:PV} {s:Nat} (h:aE C name [x,.sl s []] .nil R):aE C name [x,.aB] .nil R :=
 h.args (.axT (.refl _) (.axT (.nil s) .bsM))
theorem aE.seen {C:Ctx} {name:Nat} {args:List PV} {H:PH} {v:PV} (h:aE C name args H (bZ v)):aE C name args H (aD v) :=
 h.post fun r H' hr=>⟨v,hr.1,rfl,hr.2⟩
theorem biL {C:Ctx} (f:aH) (hv:VF f) (v:Nat) (h:v<f.bIG.length) :
  IB.wp C (aT afG.res (bZ (.int .i64 (fB f v)))) (PF.args [.agg f.cells,.int .i64 v]) .nil:=by
 obtain⟨hp,he⟩:=nH hv h
 have hpol:=hv.bIS _ (bKM hp)
 rw[he] at hpol
 have hw:IntKind.i64.wrap ((dB f v).k+(dB f v).m)=(dB f v).k+(dB f v).m:=wrap_i64 Om Om
 simp only[go_sem,γ,δ,ε,ζ,η,θ,ι,κ,μ,ν,ξ,ο,ρ,σ,τ,υ,reduceIte,reduceCtorEq,IB,aJM,afG]
 refine bS .nil eC PH.nil_le ?_
 simp only[go_sem,γ,δ,ε,ζ,η,θ,ι,κ,μ,ν,ξ,ο,ρ,σ,τ,υ,reduceIte,reduceCtorEq,aJN,rI h,hv.OW h,mN hp,he]
 refine aQ fun o ho=>?_
 simp only[go_sem,γ,δ,ε,ζ,η,θ,ι,κ,μ,ν,ξ,ο,ρ,σ,τ,υ,reduceIte,reduceCtorEq,aJO,hw]
 refine⟨PH.nil_le,?_⟩
 exact kZ (n:=(dB f v).k+(dB f v).m) Ev rfl
abbrev iiv (l:List Int):List (List PV):=l.map fun x=>[PV.int .i64 x]
abbrev oV (l:List (List Int)):List (List PV):=l.map fun r=>[ints r]
theorem bnX (l:List (List Int)):Flat (oV l):=rC fun r hr c hc=>by
 obtain⟨x,_,rfl⟩:=bLP.1 hr
 rw[bLR] at hc
 subst hc
 rfl
theorem exactly {C:Ctx} {name:Nat} {args:List PV} {H H2:PH} {v:PV} (h:aE C name args H (fun r H'=>Co r v∧H'=H2)):aE C name args H (fun r H'=>r=v∧H'=H2) :=
 h.post fun r H' hr=>⟨_,hr.1,rfl,hr.2⟩
structure tW (f:aH) (L:List (List Int)):Prop where
 len:L.length=f.bIG.length
 row:∀ v (h:v<L.length),((L[v].length:Nat):Int)=fB f v
 home:∀ r∈L,∀ x∈r,-1≤x∧x<f.bIE.length
theorem tW.bvY {f:aH} {L:List (List Int)} (h:tW f L) (hV:VF f):∀ k,k≤L.length→(L.take k).flatten.length≤k*8:=by
 have hl:=h.len
 intro k
 induction k with
 | zero=>intro _; simp
 | succ k ih =>
  intro hk
  rw[ML L hk,bKQ]
  have h1:=ih Om
  have h2:=h.row k hk
  obtain⟨hp,he⟩:=nH hV (Om:k<f.bIG.length)
  have hpol:=hV.bIS _ (bKM hp)
  rw[he] at hpol
  unfold fB at h2
  omega
theorem tW.ok {f:aH} (hV:VF f) {L:List (List Int)} (h:tW f L):eX L:=by
 have hv:=hV.small.bIG
 have hl:=h.len
 have:=h.bvY hV L.length (bKK _)
 rw[bLG] at this
 exact⟨by omega,by omega⟩

section
variable {H:PH} {B:List BX} {L:List LI}
end
theorem TS {p:Int→Bool}:∀ {l:List Int} {i:Nat},(∀ x∈l,p x=false)→eV p l i=none
 | [],_,_=>rfl
 | y::t,i,h=>by
  rw[eV,h y (by simp),if_neg (by decide)]
  exact TS fun x hx=>h x (by simp[hx])
theorem tW.shape {f:aH} {L:List (List Int)} (h:tW f L) {v:Nat} (hv:v<L.length):lL f L v=none:=by
 have e:L.getD v []=L[v]:=by simp[bLC,hv]
 unfold lL
 rw[e,if_pos (h.row v hv),TS]
 ·rfl
 ·intro x hx
  have:=h.home _ (bKM hv) x hx
  simp[jE]
  omega
theorem aoU (l:List Int) (m:Nat):∀ (k:Nat) (s:List cD × Nat),s.1.length≤(iV l m k s).1.length
 | 0,s=>bKK _
 | k+1,s=>by
  rw[iV]
  split
  ·have:=aoU l m k (s.1++[⟨dN 100 s.1.length,((if nxM l 4 s.2=0 then 1 else 0:Nat):Int),(m:Nat)⟩],s.2+1)
   simp only[bKQ,bKX] at this
   omega
  ·exact bKK _
theorem bfH (l:List Int) (m k:Nat) (s:List cD × Nat):1≤(iV l m (k+1) s).1.length:=by
 rw[iV]
 split
 ·have:=aoU l m k (s.1++[⟨dN 100 s.1.length,((if nxM l 4 s.2=0 then 1 else 0:Nat):Int),(m:Nat)⟩],s.2+1)
  simp only[bKQ,bKX] at this
  omega
 ·omega
theorem a2S (l:List Int) (s:MS) (k:Nat):1≤(eH l s (k+1)).bJD.length:=by
 rw[eH]
 unfold yO
 simp only
 rw[show 1+nxM l 2 ((eK l k (eH l s k)).a+1)=nxM l 2 ((eK l k (eH l s k)).a+1)+1 by omega]
 exact bfH l _ _ _
theorem abZ (l:List Int) (bIG a:Nat):1≤(dH l bIG a).1.bIE.length:=by
 unfold dH
 simp only
 rw[show 3+nxM l 3 (a+6)=(2+nxM l 3 (a+6))+1 by omega]
 exact a2S l _ _
theorem aBD (row:List Int) {n:Nat} (hn:0<n):∀ k d,d<n→pB row n k d<n
 | 0,d,h=>h
 | k+1,d,h=>by
  rw[pB]
  split
  ·exact aBD row hn k _ (bLY _ hn)
  ·exact h
theorem bgF (l:List Int) (row:List Int) {n:Nat} (hn:0<n) (a:Nat):-1≤(uS l row n a).1∧(uS l row n a).1<n:=by
 have:=aBD row hn n (nxM l n a) (cM l hn a)
 unfold uS
 simp only
 split
 ·simp only; omega
 ·split<;>simp only<;>omega
theorem aVW (l:List Int) {n:Nat} (hn:0<n) (a:Nat):∀ k,∀ x∈(jU l n a k).1,-1≤x∧x<n
 | 0,x,h=>by cases h
 | k+1,x,h=>by
  rw[jU] at h
  simp only[bLV,bLR] at h
  rcases h with h | rfl
  ·exact aVW l hn a k x h
  ·exact bgF l _ hn _
theorem apW (l:List Int) {f:aH} (hf:FM f) (h0:1≤f.bIE.length) (a:Nat):∀ k,k≤f.bIG.length →
  (∀ v (h:v<(cZ l f a k).1.length),(((cZ l f a k).1[v].length:Nat):Int)=fB f v)∧∀ r∈(cZ l f a k).1,∀ x∈r,-1≤x∧x<f.bIE.length
 | 0,_=>⟨fun v h=>absurd h (by simp[cZ]),fun r h=>by cases h⟩
 | k+1,hk=>by
  obtain⟨h1,h2⟩:=apW l hf h0 a k Om
  obtain⟨k1,-,-,-⟩:=qU l hf a k Om
  have hfr:=hf.WQ (v:=k) Om
  obtain⟨r1,-,-⟩:=DK l f.bIE.length (cZ l f a k).2 (fB f k).toNat
  rw[cZ]
  simp only
  refine⟨aJS (P:=fun v (r:List Int)=>((r.length:Nat):Int)=fB f v) h1 ?_,fun r hr=>?_⟩
  ·rw[k1,r1]; omega
  ·rw[bLV,bLR] at hr
   rcases hr with hr | rfl
   ·exact h2 r hr
   ·exact aVW l Om _ _
theorem a8J (l:List Int) (bIG a b:Nat) (hv:bIG≤1000):tW (dH l bIG a).1 (cZ l (dH l bIG a).1 b (dH l bIG a).1.bIG.length).1:=by
 have hF:=(yE l hv a).1
 obtain⟨h1,h2⟩:=apW l hF (abZ l bIG a) b _ (bKK _)
 obtain⟨k1,-,-,-⟩:=qU l hF b _ (bKK _)
 exact⟨k1,h1,h2⟩
structure CL (C:Ctx):Prop extends EB C where
 size:∀ (f:aH) (v:Nat),VF f→v<f.bIG.length→aE C 245 [.agg f.cells,.int .i64 v] .nil (aD (.int .i64 (fB f v)))
 has:∀ (l:List Int) (x:Int),l.length≤1000000000000000→aE C 247 [ints l,.int .i64 x] .nil (aD (.bool (l.contains x)))
theorem VR {C:Ctx} {F:PF} {H:PH} (Lb:CL C) {row:List Int} (bIR:row.length≤1000) {q n:Nat} (hn:n=row.length) {x:Int} {args:List aP} {d:Option Nat} {K:PF→PH→Prop} (hO:bJ H 1 (.osl q 1 0 n) (iiv row)) (ha:aP.evs F args=some [.osl q 1 0 n,.int .i64 x])
  (hk:K (F.put d (.bool (row.contains x))) H):fU C 247 args [] d K F H:=by
 obtain⟨rs,h1,h2,h3,h4⟩:=hO.id rfl
 subst hn
 rw[bKI] at h3 h4
 refine CA (.bool _) ?_ h1 ha hk
 rw[bMG,nT h3,h4]
 exact Lb.has row x Om
def beY (f:aH) (o:Nat) (w:PV) (v:Nat):PF:=((((PF.nil.set 0 (.ptr o 2 0 0)).set 3 (.bH f.cells)).set 5 (w)).set 6 (.int .i64 v))
def gE (f:aH) (o:Nat) (w:PV) (v q i:Nat):PF:=((((((PF.nil.set 0 (.ptr o 2 0 0)).set 3 (.bH f.cells)).set 5 (w)).set 6 (.int .i64 v)).set 7 (.osl q 1 0 i)).set 8 (.int .i64 i))
def a1H (f:aH) (o:Nat) (w:PV) (v q i d j:Nat):PF:=((((((((PF.nil.set 0 (.ptr o 2 0 0)).set 3 (.bH f.cells)).set 5 (w)).set 6 (.int .i64 v)).set 7 (.osl q 1 0 i)).set 8 (.int .i64 i)).set 9 (.int .i64 d)).set 10 (.int .i64 j))
theorem beZ {C:Ctx} (Lb:CL C) (f:aH) (hd0:1≤f.bIE.length) (hd:f.bIE.length≤1000) (o:Nat) (w:PV) (v q i d0:Nat) (row:List Int) (hi:i=row.length) (bIR:row.length≤1000) (hdl:d0<f.bIE.length) (K:cO) (F:PF) (H:PH)
  (hF:(a1H f o w v q i d0 0).le F) (hO:bJ H 1 (.osl q 1 0 i) (iiv row))
  (hK:∀ F',(gE f o w v q i).le F'→F' 9=some (.int .i64 (pB row f.bIE.length f.bIE.length d0:Nat))→K (.exit 4) F' H) :
  aC.wp C (.loop zP) K F H:=by
 refine wp_loop (α:=Nat × Nat) (fun s=>a1H f o w v q i s.2 s.1) (fun _=>H) (fun s=>s.1≤f.bIE.length∧s.2<f.bIE.length∧pB row f.bIE.length (f.bIE.length-s.1) s.2=pB row f.bIE.length f.bIE.length d0) (fun s=>f.bIE.length-s.1) (0,d0) ⟨bKT _,hdl,rfl⟩ hF PH.le_refl ?_
 rintro⟨j,d⟩ ⟨hj,hdd,hE⟩
 simp only at hj hdd hE ⊢
 simp only[go_sem,γ,δ,ε,ζ,η,θ,ι,κ,μ,ν,ξ,ο,ρ,σ,τ,υ,reduceIte,reduceCtorEq,zP,abP,a1H,bKI]
 by_cases hlt:j<f.bIE.length
 ·have bIL:(j:Int)<(f.bIE.length:Nat):=by omega
  simp only[go_sem,γ,δ,ε,ζ,η,θ,ι,κ,μ,ν,ξ,ο,ρ,σ,τ,υ,reduceIte,reduceCtorEq,bIL]
  refine VR Lb (x:=(d:Nat)) bIR hi hO rfl ?_
  obtain⟨k,hk⟩:∃ k,f.bIE.length-j=k+1:=⟨f.bIE.length-j-1,by omega⟩
  rw[hk,pB] at hE
  cases hc:row.contains ((d:Nat):Int) with
  | true =>
   rw[hc,if_pos rfl] at hE
   have hz:¬ ((f.bIE.length:Nat):Int)=0:=by omega
   have em:Int.tmod ((d+1:Nat):Int) (f.bIE.length:Nat)=(((d+1)%f.bIE.length:Nat):Int):=Int.ofNat_tmod _ _
   simp only[go_sem,γ,δ,ε,ζ,η,θ,ι,κ,μ,ν,ξ,ο,ρ,σ,τ,υ,reduceIte,reduceCtorEq,TK,bKI,wZz d,hz,em,TL,wZz j]
   refine aI (j+1,(d+1)%f.bIE.length) ⟨hlt,bLY _ Om,?_⟩ (by simp only; omega) Lq PH.le_refl
   simp only
   rw[show f.bIE.length-(j+1)=k by omega]
   exact hE
  | false =>
   rw[hc,if_neg (by simp)] at hE
   simp only[go_sem,γ,δ,ε,ζ,η,θ,ι,κ,μ,ν,ξ,ο,ρ,σ,τ,υ,reduceIte,reduceCtorEq]
   refine hK _ ?_ ?_
   ·unfold gE
    exact Lq
   ·rw[← hE]; simp only[go_sem,γ,δ,ε,ζ,η,θ,ι,κ,μ,ν,ξ,ο,ρ,σ,τ,υ,reduceIte,reduceCtorEq]
 ·have bIL:¬ (j:Int)<(f.bIE.length:Nat):=by omega
  have hz:f.bIE.length-j=0:=by omega
  rw[hz,pB] at hE
  simp only[go_sem,γ,δ,ε,ζ,η,θ,ι,κ,μ,ν,ξ,ο,ρ,σ,τ,υ,reduceIte,reduceCtorEq,bIL]
  refine hK _ ?_ ?_
  ·unfold gE
   exact Lq
  ·rw[← hE]; simp only[go_sem,γ,δ,ε,ζ,η,θ,ι,κ,μ,ν,ξ,ο,ρ,σ,τ,υ,reduceIte,reduceCtorEq]
theorem blY {C:Ctx} (Lb:CL C) {l:List Int} (T:TpM l) (o:Nat) (f:aH) (hV:VF f) (hd0:1≤f.bIE.length) (v:Nat) (hvl:v<f.bIG.length) (n:Nat) (hn:fB f v=n) (hn8:n≤8) (w:PV) (R:List (List PV)) (q0 a:Nat) (ha:a≤50000) (K:cO) (F:PF) (H:PH)
  (hF:(gE f o w v q0 0).le F) (hH:aS H [(o,bG l a)] [(w,1,R),(.osl q0 1 0 0,1,iiv [])])
  (hK:∀ q F' H',(gE f o w v q n).le F'→aS H' [(o,bG l (jU l f.bIE.length a n).2)] [(w,1,R),(.osl q 1 0 n,1,iiv (jU l f.bIE.length a n).1)]→K (.exit 2) F' H') :
  aC.wp C (.loop zQ) K F H:=by
 have hd24:=hV.small.bIE
 refine wp_loop (α:=Nat × Nat × PH) (fun s=>gE f o w v s.2.1 s.1) (fun s=>s.2.2) (fun s=>s.1≤n∧aS s.2.2 [(o,bG l (jU l f.bIE.length a s.1).2)] [(w,1,R),(.osl s.2.1 1 0 s.1,1,iiv (jU l f.bIE.length a s.1).1)]) (fun s=>n-s.1) (0,q0,H) ⟨bKT _,hH⟩ hF PH.le_refl ?_
 rintro⟨i,q,H0⟩ ⟨hi,hH⟩
 simp only at hi hH ⊢
 obtain⟨k1,k2,k3⟩:=DK l f.bIE.length a i
 have bIM:jU l f.bIE.length a (i+1)=((jU l f.bIE.length a i).1++[(uS l (jU l f.bIE.length a i).1 f.bIE.length (jU l f.bIE.length a i).2).1],(uS l (jU l f.bIE.length a i).1 f.bIE.length (jU l f.bIE.length a i).2).2):=rfl
 generalize hs:jU l f.bIE.length a i=s at *
 have hsz:=Lb.size f v hV hvl
 rw[hn] at hsz
 simp only[go_sem,γ,δ,ε,ζ,η,θ,ι,κ,μ,ν,ξ,ο,ρ,σ,τ,υ,reduceIte,reduceCtorEq,zQ,abM,gE]
 refine aA hsz rfl ?_
 by_cases hlt:i<n
 ·have bIL:(i:Int)<(n:Nat):=by omega
  have nd:=cM l (Om:0<f.bIE.length) s.2
  have h11:(1:Nat)*1≤16777216:=by decide
  simp only[go_sem,γ,δ,ε,ζ,η,θ,ι,κ,μ,ν,ξ,ο,ρ,σ,τ,υ,reduceIte,reduceCtorEq,bIL,abN,bKI]
  refine cH Lb.toEB T (o:=o) (n:=f.bIE.length) (a:=s.2) Om Om rfl (hH.at 0 rfl) ?_
  have h1:=hH.set 0 rfl (bG l (s.2+1))
  simp only[go_sem,γ,δ,ε,ζ,η,θ,ι,κ,μ,ν,ξ,ο,ρ,σ,τ,υ,reduceIte,reduceCtorEq,abO]
  refine beZ Lb f hd0 Om o w v q i (nxM l f.bIE.length s.2) s.1 k1.symm Om nd _ _ _ (by unfold a1H; exact Lq) (h1.own 1 rfl) ?_
  intro F1 hF1 f9
  have f0:F1 0=some (.ptr o 2 0 0):=hF1 0 _ (by unfold gE; simp only[go_sem,γ,δ,ε,ζ,η,θ,ι,κ,μ,ν,ξ,ο,ρ,σ,τ,υ,reduceIte,reduceCtorEq])
  have f3:F1 3=some (.bH f.cells):=hF1 3 _ (by unfold gE; simp only[go_sem,γ,δ,ε,ζ,η,θ,ι,κ,μ,ν,ξ,ο,ρ,σ,τ,υ,reduceIte,reduceCtorEq])
  have f5:F1 5=some w:=hF1 5 _ (by unfold gE; simp only[go_sem,γ,δ,ε,ζ,η,θ,ι,κ,μ,ν,ξ,ο,ρ,σ,τ,υ,reduceIte,reduceCtorEq])
  have f6:F1 6=some (.int .i64 v):=hF1 6 _ (by unfold gE; simp only[go_sem,γ,δ,ε,ζ,η,θ,ι,κ,μ,ν,ξ,ο,ρ,σ,τ,υ,reduceIte,reduceCtorEq])
  have f7:F1 7=some (.osl q 1 0 i):=hF1 7 _ (by unfold gE; simp only[go_sem,γ,δ,ε,ζ,η,θ,ι,κ,μ,ν,ξ,ο,ρ,σ,τ,υ,reduceIte,reduceCtorEq])
  have f8:F1 8=some (.int .i64 i):=hF1 8 _ (by unfold gE; simp only[go_sem,γ,δ,ε,ζ,η,θ,ι,κ,μ,ν,ξ,ο,ρ,σ,τ,υ,reduceIte,reduceCtorEq])
  have hhome:uS l s.1 f.bIE.length s.2=if s.1.contains ((pB s.1 f.bIE.length f.bIE.length (nxM l f.bIE.length s.2):Nat):Int) then (-1,s.2+1) else if nxM l 12 (s.2+1)=0 then (-1,s.2+2) else (((pB s.1 f.bIE.length f.bIE.length (nxM l f.bIE.length s.2):Nat):Int),s.2+2):=rfl
  generalize pB s.1 f.bIE.length f.bIE.length (nxM l f.bIE.length s.2)=d at *
  have fin:∀ (x:Int) (b:Nat) (F':PF) (H':PH),uS l s.1 f.bIE.length s.2=(x,b)→(gE f o w v q i).le F'→F' 9=some (.int .i64 x)→aS H' [(o,bG l b)] [(w,1,R),(.osl q 1 0 i,1,iiv s.1)] →
    aC.wp C (.region zS) (dZ 3 (jB C (aC.wp C (.region zT)) (eI (fun s:Nat × Nat × PH=>gE f o w v s.2.1 s.1) (fun s=>s.2.2) (fun s=>s.1≤n∧aS s.2.2 [(o,bG l (jU l f.bIE.length a s.1).2)] [(w,1,R),(.osl s.2.1 1 0 s.1,1,iiv (jU l f.bIE.length a s.1).1)]) (fun s=>n-s.1) (n-i) K))) F' H':=by
   intro x b F' H' hx hF' g9 hH'
   have g0:F' 0=some (.ptr o 2 0 0):=hF' 0 _ (by unfold gE; simp only[go_sem,γ,δ,ε,ζ,η,θ,ι,κ,μ,ν,ξ,ο,ρ,σ,τ,υ,reduceIte,reduceCtorEq])
   have g3:F' 3=some (.bH f.cells):=hF' 3 _ (by unfold gE; simp only[go_sem,γ,δ,ε,ζ,η,θ,ι,κ,μ,ν,ξ,ο,ρ,σ,τ,υ,reduceIte,reduceCtorEq])
   have g5:F' 5=some w:=hF' 5 _ (by unfold gE; simp only[go_sem,γ,δ,ε,ζ,η,θ,ι,κ,μ,ν,ξ,ο,ρ,σ,τ,υ,reduceIte,reduceCtorEq])
   have g6:F' 6=some (.int .i64 v):=hF' 6 _ (by unfold gE; simp only[go_sem,γ,δ,ε,ζ,η,θ,ι,κ,μ,ν,ξ,ο,ρ,σ,τ,υ,reduceIte,reduceCtorEq])
   have g7:F' 7=some (.osl q 1 0 i):=hF' 7 _ (by unfold gE; simp only[go_sem,γ,δ,ε,ζ,η,θ,ι,κ,μ,ν,ξ,ο,ρ,σ,τ,υ,reduceIte,reduceCtorEq])
   have g8:F' 8=some (.int .i64 i):=hF' 8 _ (by unfold gE; simp only[go_sem,γ,δ,ε,ζ,η,θ,ι,κ,μ,ν,ξ,ο,ρ,σ,τ,υ,reduceIte,reduceCtorEq])
   simp only[go_sem,γ,δ,ε,ζ,η,θ,ι,κ,μ,ν,ξ,ο,ρ,σ,τ,υ,reduceIte,reduceCtorEq,zS,g7,g9,h11]
   refine hH'.append 1 (src:=[[.int .i64 x]]) rfl rfl (by unfold roomFor; rw[bKI,k1]; simp only[bKX,maxLen]; omega) fun w' H2 h5 hw=>?_
   obtain⟨z,rfl⟩:=hw (by simp)
   have e:iiv s.1++[[PV.int .i64 x]]=iiv (s.1++[x]):=by simp[iiv]
   have el:(iiv s.1++[[PV.int .i64 x]]).length=i+1:=by simp[k1]
   rw[el] at h5
   rw[el]
   simp only[go_sem,γ,δ,ε,ζ,η,θ,ι,κ,μ,ν,ξ,ο,ρ,σ,τ,υ,reduceIte,reduceCtorEq,zT,g8,wZz i]
   refine aI (i+1,z,H2) ⟨hlt,?_⟩ (by simp only; omega) ?_ PH.le_refl
   ·simp only
    rw[bIM,hx,← e]
    exact h5
   ·unfold gE
    exact Lq
  simp only[aC.wp,go_sem] at fin
  simp only[go_sem,γ,δ,ε,ζ,η,θ,ι,κ,μ,ν,ξ,ο,ρ,σ,τ,υ,reduceIte,reduceCtorEq,TM,f7,f9]
  refine VR Lb (x:=(d:Nat)) Om k1.symm (h1.own 1 rfl) rfl ?_
  cases hc:s.1.contains ((d:Nat):Int) with
  | true =>
   rw[hc,if_pos rfl] at hhome
   simp only[go_sem,γ,δ,ε,ζ,η,θ,ι,κ,μ,ν,ξ,ο,ρ,σ,τ,υ,reduceIte,reduceCtorEq,zR]
   refine fin (-1) (s.2+1) _ _ hhome ?_ rfl h1
   unfold gE
   exact Lq
  | false =>
   rw[hc,if_neg (by simp)] at hhome
   simp only[go_sem,γ,δ,ε,ζ,η,θ,ι,κ,μ,ν,ξ,ο,ρ,σ,τ,υ,reduceIte,reduceCtorEq,f0]
   refine cH Lb.toEB T (o:=o) (n:=12) (a:=s.2+1) (by decide) Om rfl (h1.at 0 rfl) ?_
   have h2:=h1.set 0 rfl (bG l (s.2+2))
   by_cases c:nxM l 12 (s.2+1)=0
   ·rw[if_pos c] at hhome
    simp only[go_sem,γ,δ,ε,ζ,η,θ,ι,κ,μ,ν,ξ,ο,ρ,σ,τ,υ,reduceIte,reduceCtorEq,bT (show ((nxM l 12 (s.2+1):Nat):Int)=0 by omega),zR]
    refine fin (-1) (s.2+2) _ _ hhome ?_ rfl (by rw[PH.set_set] at h2; exact h2)
    unfold gE
    exact Lq
   ·rw[if_neg c] at hhome
    simp only[go_sem,γ,δ,ε,ζ,η,θ,ι,κ,μ,ν,ξ,ο,ρ,σ,τ,υ,reduceIte,reduceCtorEq,bF (show ((nxM l 12 (s.2+1):Nat):Int)≠0 by omega)]
    refine fin d (s.2+2) _ _ hhome ?_ (by simp only[go_sem,γ,δ,ε,ζ,η,θ,ι,κ,μ,ν,ξ,ο,ρ,σ,τ,υ,reduceIte,reduceCtorEq,f9]) (by rw[PH.set_set] at h2; exact h2)
    unfold gE
    exact Lq
 ·have bIL:¬ (i:Int)<(n:Nat):=by omega
  have:i=n:=by omega
  subst this
  simp only[go_sem,γ,δ,ε,ζ,η,θ,ι,κ,μ,ν,ξ,ο,ρ,σ,τ,υ,reduceIte,reduceCtorEq,bIL]
  refine hK q _ _ ?_ (by rw[hs]; exact hH)
  unfold gE
  exact Lq

def bkQ (l:List Int) (o a:Nat) (f:aH) (r:PV) (H:PH):Prop:=Co r (lay (cZ l f a f.bIG.length).1)∧H=PH.nil.set o (bG l (cZ l f a f.bIG.length).2)
theorem a1F {C:Ctx} (Lb:CL C) {l:List Int} (T:TpM l) (o a:Nat) (ha:a≤10000) (f:aH) (hF:FM f) (hV:VF f) (hd0:1≤f.bIE.length) :
  wL.wp C (aT CS.res (bkQ l o a f)) (PF.args [.ptr o 2 0 0,.agg f.cells]) (PH.nil.set o (bG l a)):=by
 have hvl:=hV.small.bIG
 have h0:aS (PH.nil.set o (bG l a)) [(o,bG l a)] [(.aB,1,oV [])]:=(aS.nil.new (H:=PH.nil) rfl (bG l a)).pJ 1
 have hR:∀ r H,bkQ l o a f r H↔Co r (lay (cZ l f a f.bIG.length).1)∧H=PH.nil.set o (bG l (cZ l f a f.bIG.length).2):=fun _ _=>Iff.rfl
 simp only[go_sem,γ,δ,ε,ζ,η,θ,ι,κ,μ,ν,ξ,ο,ρ,σ,τ,υ,reduceIte,reduceCtorEq,wL,abG,CS,abH,abI]
 refine wp_loop (α:=Nat × PV × PH) (fun s=>beY f o s.2.1 s.1) (fun s=>s.2.2) (fun s=>s.1≤f.bIG.length∧aS s.2.2 [(o,bG l (cZ l f a s.1).2)] [(s.2.1,1,oV (cZ l f a s.1).1)]) (fun s=>f.bIG.length-s.1) (0,.aB,_) ⟨bKT _,h0⟩ ?_ PH.le_refl ?_
 ·unfold beY
  exact Lq
 rintro⟨i,w,H0⟩ ⟨hi,hH⟩
 simp only at hi hH ⊢
 obtain⟨k1,-,k3,k4⟩:=qU l hF a i hi
 simp only[go_sem,γ,δ,ε,ζ,η,θ,ι,κ,μ,ν,ξ,ο,ρ,σ,τ,υ,reduceIte,reduceCtorEq,TJ,abJ,beY,bKI]
 by_cases hlt:i<f.bIG.length
 ·have bIL:(i:Int)<(f.bIG.length:Nat):=by omega
  have hfr:=hF.WQ hlt
  obtain⟨n,hn⟩:∃ n:Nat,fB f i=n:=⟨(fB f i).toNat,by omega⟩
  have bIM:cZ l f a (i+1)=((cZ l f a i).1++[(jU l f.bIE.length (cZ l f a i).2 (fB f i).toNat).1],(jU l f.bIE.length (cZ l f a i).2 (fB f i).toNat).2):=rfl
  rw[hn,bNO] at bIM
  generalize hs:cZ l f a i=s at *
  have h11:(1:Nat)*1≤16777216:=by decide
  have h01:(0:Nat)*1≤16777216:=by decide
  simp only[go_sem,γ,δ,ε,ζ,η,θ,ι,κ,μ,ν,ξ,ο,ρ,σ,τ,υ,reduceIte,reduceCtorEq,bIL,abK,h01]
  refine aQ fun q0 hq0=>?_
  have h1:=hH.aGJ (s:=1) (rows:=iiv []) hq0
  obtain⟨r1,-,-⟩:=DK l f.bIE.length s.2 n
  simp only[go_sem,γ,δ,ε,ζ,η,θ,ι,κ,μ,ν,ξ,ο,ρ,σ,τ,υ,reduceIte,reduceCtorEq,abL]
  refine blY Lb T o f hV hd0 i hlt n hn Om w (oV s.1) q0 s.2 Om _ _ _ (by unfold gE; exact Lq) h1 ?_
  intro q F1 H1 hF1 h2
  generalize bIR:jU l f.bIE.length s.2 n=row at *
  have f0:F1 0=some (.ptr o 2 0 0):=hF1 0 _ (by unfold gE; simp only[go_sem,γ,δ,ε,ζ,η,θ,ι,κ,μ,ν,ξ,ο,ρ,σ,τ,υ,reduceIte,reduceCtorEq])
  have f3:F1 3=some (.bH f.cells):=hF1 3 _ (by unfold gE; simp only[go_sem,γ,δ,ε,ζ,η,θ,ι,κ,μ,ν,ξ,ο,ρ,σ,τ,υ,reduceIte,reduceCtorEq])
  have f5:F1 5=some w:=hF1 5 _ (by unfold gE; simp only[go_sem,γ,δ,ε,ζ,η,θ,ι,κ,μ,ν,ξ,ο,ρ,σ,τ,υ,reduceIte,reduceCtorEq])
  have f6:F1 6=some (.int .i64 i):=hF1 6 _ (by unfold gE; simp only[go_sem,γ,δ,ε,ζ,η,θ,ι,κ,μ,ν,ξ,ο,ρ,σ,τ,υ,reduceIte,reduceCtorEq])
  have f7:F1 7=some (.osl q 1 0 n):=hF1 7 _ (by unfold gE; simp only[go_sem,γ,δ,ε,ζ,η,θ,ι,κ,μ,ν,ξ,ο,ρ,σ,τ,υ,reduceIte,reduceCtorEq])
  simp only[go_sem,γ,δ,ε,ζ,η,θ,ι,κ,μ,ν,ξ,ο,ρ,σ,τ,υ,reduceIte,reduceCtorEq,TN,f5,f7,h11]
  refine h2.append 0 (src:=[[.osl q 1 0 n]]) rfl Sq (by unfold roomFor; rw[bKI,k1]; simp only[bKX,maxLen]; omega) fun w' H' h3 hw=>?_
  obtain⟨q',rfl⟩:=hw (by simp)
  generalize hw':(PV.osl q' 1 0 (oV s.1++[[PV.osl q 1 0 n]]).length)=w' at *
  obtain⟨rs,z1,z2,z3,z4,z5⟩:=h3.frz 1 rfl
  have y1:=z4 0 _ (by decide) rfl
  simp only at y1
  have yf:PV.frz q 1 rs w'=w':=by rw[← hw'] at y1 ⊢; exact y1
  simp only[go_sem,γ,δ,ε,ζ,η,θ,ι,κ,μ,ν,ξ,ο,ρ,σ,τ,υ,reduceIte,reduceCtorEq,TO,f6,wZz i]
  refine aqA (i+1,w',H'.frz q 1 rs) z1 ⟨hlt,?_⟩ (by simp only; omega) ?_ PH.le_refl
  ·simp only
   rw[bIM]
   have eB:([(o,bG l row.2)]:List BX).map (fun b=>(b.1,b.2.frz q 1 rs))=[(o,bG l row.2)]:=rfl
   have e5:(oV s.1++[[PV.osl q 1 0 n]]).map (fun r=>r.map (PV.dE q 1 rs))=oV (s.1++[row.1]):=by
    rw[bMM,bnX]
    show oV s.1++[[PV.dE q 1 rs (.osl q 1 0 n)]]=_
    rw[z2]
    simp[oV]
   rw[← eB,← e5]
   exact z5
  ·(repeat' (first|exact PF.nil_le|refine PF.aK ?_ ?_))<;>first|(simp only[go_sem,γ,δ,ε,ζ,η,θ,ι,κ,μ,ν,ξ,ο,ρ,σ,τ,υ,reduceIte,reduceCtorEq,f0,f3,yf]<;>rfl)|rfl
 ·have bIL:¬ (i:Int)<(f.bIG.length:Nat):=by omega
  have:i=f.bIG.length:=by omega
  subst this
  simp only[go_sem,γ,δ,ε,ζ,η,θ,ι,κ,μ,ν,ξ,ο,ρ,σ,τ,υ,reduceIte,reduceCtorEq,bIL,TP]
  rcases hH.own 0 rfl with ⟨h1',rfl⟩ | ⟨q,rs,rfl,_⟩
  ·refine aX (vs:=[.aB]) (.inr rfl) (PH.nil.set o (bG l (cZ l f a f.bIG.length).2)) Sq (PH.aK PH.nil_le (hH.at 0 rfl)) ?_
   rw[aV,hR]
   refine⟨?_,rfl⟩
   unfold lay
   rw[show (cZ l f a f.bIG.length).1.map (fun r=>[ints r])=[] from h1']
   exact .nil 1
  ·obtain⟨rs,g1,g2,g3,-,g4⟩:=hH.frz 0 rfl
   refine amT (vs:=[.osl q 1 0 (oV (cZ l f a f.bIG.length).1).length]) (.inr rfl) Sq (.step g1 (.done (H2:=PH.nil.set o (bG l (cZ l f a f.bIG.length).2)) ?_ (PH.aK PH.nil_le ?_)))
   ·rw[aV,g3,hR]
    exact⟨.refl _,rfl⟩
   ·have:=g4.at 0 rfl
    rw[this]
    rfl
section
variable {H:PH} {B:List BX} {L:List LI} {s:Nat} {rows:List (List PV)}
theorem aS.bwE (h:aS H B L) {r:PV} {H':PH} (m:kO s rows r H') (ha:kN H .nil H'):aS (H.eJ .nil H') B (L++[(r,s,rows)]):=by
 obtain⟨hO,hk⟩:=m.eJ ha
 have h1:=h.pJ s
 have e:(L++[(PV.aB,s,([]:List (List PV)))]).set L.length (r,s,rows)=L++[(r,s,rows)]:=by
  rw[bNX _ _ (bKK _),bNG]; rfl
 rw[← e]
 refine h1.zA L.length (v:=.aB) (s:=s) (rows:=[]) (by simp) hO (fun q hq=>.inr ?_) fun q hq _=>?_
 ·rcases m with ⟨-,rfl,-⟩ | ⟨p,rs,rfl,rfl,-⟩
  ·cases hq
  ·cases hq
   exact ha q (.rows s rs) (by rw[eS]) rfl
 ·obtain⟨x,hx⟩:=h1.DN hq
  rw[hx]; exact hk q x hx
theorem kO.some (s:Nat) (rows:List (List PV)) (G:PH):∃ r H',kO s rows r H'∧kN G .nil H':=by
 obtain⟨o,ho⟩:=G.fresh
 refine⟨.osl o s 0 rows.length,PH.nil.set o (.rows s rows),.inr ⟨o,rows,rfl,rfl,bKK _,bLG⟩,fun q x hx _=>?_⟩
 rw[bL] at hx
 split at hx
 ·rename_i e; rw[e]; exact ho
 ·cases hx
end

section
variable {C:Ctx} {F:PF} {H Hs:PH} {tn a a2:Nat} {raw:List Int} {R:Nat→PV→PH→Prop} {st:Bool} {args:List aP} {d:Option Nat} {K:PF→PH→Prop}
end
section
variable {C:Ctx} {F:PF} {H:PH} {B:List BX} {L:List LI} {args:List aP} {d:Option Nat} {K:PF→PH→Prop}
end
theorem baM {f:aH} (hV:VF f) (room:List Int) {d:Nat} (hd:d<f.bIE.length):0≤rE f room d∧rE f room d≤ext f d∧1≤ext f d∧ext f d≤16:=by
 obtain⟨hm,he⟩:=hV.a7O hd
 have:=hV.model _ (bKM hm)
 rw[he] at this
 unfold rE
 split
 ·omega
 ·omega
theorem aaJ (l:List Int) (x:Int):∀ (xs:List Int) (a:Nat),fF l (xs++[x]) a=((fF l xs a).1++[(wK l x (fF l xs a).2).1],(wK l x (fF l xs a).2).2)
 | [],a=>rfl
 | y::ys,a=>by
  rw[List.cons_append,fF,aaJ l x ys]
  rfl
theorem azP (l:List Int):∀ (xs:List Int) (a:Nat),(fF l xs a).1.length=xs.length∧a≤(fF l xs a).2∧(fF l xs a).2≤a+2*xs.length
 | [],a=>⟨rfl,bKK _,bKK _⟩
 | x::xs,a=>by
  obtain⟨h1,h2,h3⟩:=azP l xs (wK l x a).2
  have h4:a≤(wK l x a).2∧(wK l x a).2≤a+2:=by
   unfold wK
   split
   ·simp
   ·split<;>simp
  rw[fF]
  simp only[bLX,h1,true_and]
  omega
theorem aS.store {H:PH} {B:List BX} {L:List LI} (h:aS H B L) (i:Nat) {q s n:Nat} {rows:List (List PV)} (hi:L[i]?=some (.osl q s 0 n,s,rows)) (k:Nat) (c:List PV) :
  ∃ rs,H q=some (.rows s rs)∧n≤rs.length∧rs.take n=rows∧aS (H.set q (.rows s (rs.set k c))) B (L.set i (.osl q s 0 n,s,rows.set k c)):=by
 obtain⟨rs,h1,h2,h3,h4⟩:=(h.own i hi).id rfl
 injection h2 with _ _ _ hn
 subst hn
 refine⟨rs,h1,h3,h4,h.zA i hi (.inr ⟨q,rs.set k c,by rw[bMJ],by rw[eS],by rw[bMJ,bMJ]; exact h3,by rw[bMJ,List.take_set,h4]⟩) (fun p hp=>.inl hp) fun p _ hp=>?_⟩
 have:p≠q:=hp q rfl
 rw[bL,if_neg this]
def ayO (l:List Int) (o a:Nat) (f:aH) (r:PV) (H:PH):Prop:=Co r (ints (fF l (fL f []) a).1)∧H=PH.nil.set o (bG l (fF l (fL f []) a).2)
def tZ (o:Nat) (q n i:Nat):PF:=(((PF.nil.set 0 (.ptr o 2 0 0)).set 5 (.osl q 1 0 n)).set 6 (.int .i64 i))
theorem a7H {C:Ctx} (Lb:CL C) {l:List Int} (T:TpM l) (o a:Nat) (ha:a≤10000) (f:aH) (hv:dM f=true) (hd0:1≤f.bIE.length)
  (hr:aE C 85 [.agg f.cells,ints []] .nil (kO 1 (bE (afD f [])))) :
  zU.wp C (aT LZ.res (ayO l o a f)) (PF.args [.ptr o 2 0 0,.agg f.cells]) (PH.nil.set o (bG l a)):=by
 have hV:=VF.of hv
 have hd24:=hV.small.bIE
 have hX:afD f []=fL f []:=by unfold afD; rw[hv]; rfl
 rw[hX] at hr
 have hXl:=PD f []
 have hXi:∀ i (h:i<(fL f []).length),0≤(fL f [])[i]∧(fL f [])[i]≤16:=fun i h=>by
  rw[aJC]
  have:=baM hV [] (Om:i<f.bIE.length)
  omega
 have hR:∀ r H,ayO l o a f r H↔Co r (ints (fF l (fL f []) a).1)∧H=PH.nil.set o (bG l (fF l (fL f []) a).2):=fun _ _=>Iff.rfl
 generalize fL f []=X at *
 have h0:aS (PH.nil.set o (bG l a)) [(o,bG l a)] []:=aS.nil.new (H:=PH.nil) rfl (bG l a)
 simp only[go_sem,γ,δ,ε,ζ,η,θ,ι,κ,μ,ν,ξ,ο,ρ,σ,τ,υ,reduceIte,reduceCtorEq,zU,aoM,LZ,aoN]
 refine fE hr.a3Z rfl PH.nil_le ?_
 intro r H' hm hap
 have h1:=h0.bwE hm hap
 obtain⟨q,rfl⟩:=(h1.own 0 rfl).one (by rw[cT]; omega)
 rw[cT,hXl] at h1
 simp only[go_sem,γ,δ,ε,ζ,η,θ,ι,κ,μ,ν,ξ,ο,ρ,σ,τ,υ,reduceIte,reduceCtorEq,cT,hXl,aoO]
 generalize hn:f.bIE.length=n at *
 refine wp_loop (α:=Nat × PH) (fun s=>tZ o q n s.1) (fun s=>s.2) (fun s=>s.1≤n∧aS s.2 [(o,bG l (fF l (X.take s.1) a).2)] [(.osl q 1 0 n,1,bE ((fF l (X.take s.1) a).1++X.drop s.1))]) (fun s=>n-s.1) (0,_) ⟨bKT _,h1⟩ ?_ PH.le_refl ?_
 ·unfold tZ
  exact Lq
 rintro⟨i,H0⟩ ⟨hi,hH⟩
 simp only at hi hH ⊢
 obtain⟨k1,k2,k3⟩:=azP l (X.take i) a
 rw[bLB,bMN Om] at k1 k3
 simp only[go_sem,γ,δ,ε,ζ,η,θ,ι,κ,μ,ν,ξ,ο,ρ,σ,τ,υ,reduceIte,reduceCtorEq,abS,aoP,tZ]
 by_cases hlt:i<n
 ·have bIL:(i:Int)<(n:Nat):=by omega
  have hiX:i<X.length:=by omega
  have hx:=hXi i hiX
  have bIM:fF l (X.take (i+1)) a=((fF l (X.take i) a).1++[(wK l X[i] (fF l (X.take i) a).2).1],(wK l X[i] (fF l (X.take i) a).2).2):=by
   rw[bMA hiX,aaJ]
  have hdrop:X.drop i=X[i]::X.drop (i+1):=bMH hiX
  generalize fF l (X.take i) a=s at *
  have hcut:wK l X[i] s.2=if nxM l 9 s.2=0 then (0,s.2+1) else if nxM l 9 s.2=1 then (((nxM l (X[i]+1).toNat (s.2+1):Nat):Int),s.2+2) else (X[i],s.2+1):=rfl
  generalize X[i]=x at *
  simp only[go_sem,γ,δ,ε,ζ,η,θ,ι,κ,μ,ν,ξ,ο,ρ,σ,τ,υ,reduceIte,reduceCtorEq,bIL,aoQ]
  refine cH Lb.toEB T (o:=o) (n:=9) (a:=s.2) (by decide) Om rfl (hH.at 0 rfl) ?_
  have h2:=hH.set 0 rfl (bG l (s.2+1))
  have hY:∀ v:Int,(bE (s.1++X.drop i)).set i [.int .i64 v]=bE ((s.1++[v])++X.drop (i+1)):=fun v=>by
   rw[a8H,hdrop,bNX _ _ Om,k1,bNG,List.set_cons_zero,bLI]
   rfl
  have fin:∀ (y:Int) (b:Nat) (F':PF) (H':PH),wK l x s.2=(y,b)→(tZ o q n i).le F'→aS H' [(o,bG l b)] [(.osl q 1 0 n,1,bE ((s.1++[y])++X.drop (i+1)))] →
    aC.wp C (.region MB) (eI (fun s:Nat × PH=>tZ o q n s.1) (fun s=>s.2) (fun s=>s.1≤n∧aS s.2 [(o,bG l (fF l (X.take s.1) a).2)] [(.osl q 1 0 n,1,bE ((fF l (X.take s.1) a).1++X.drop s.1))]) (fun s=>n-s.1) (n-i) (dZ 0 (jB C (aC.wp C ((aC.region FP).seq aC.ret)) (aT [dW.tmp 4] (ayO l o a f))))) F' H':=by
   intro y b F' H' hy hF' hH'
   have g0:F' 0=some (.ptr o 2 0 0):=hF' 0 _ (by unfold tZ; simp only[go_sem,γ,δ,ε,ζ,η,θ,ι,κ,μ,ν,ξ,ο,ρ,σ,τ,υ,reduceIte,reduceCtorEq])
   have g5:F' 5=some (.osl q 1 0 n):=hF' 5 _ (by unfold tZ; simp only[go_sem,γ,δ,ε,ζ,η,θ,ι,κ,μ,ν,ξ,ο,ρ,σ,τ,υ,reduceIte,reduceCtorEq])
   have g6:F' 6=some (.int .i64 i):=hF' 6 _ (by unfold tZ; simp only[go_sem,γ,δ,ε,ζ,η,θ,ι,κ,μ,ν,ξ,ο,ρ,σ,τ,υ,reduceIte,reduceCtorEq])
   simp only[go_sem,γ,δ,ε,ζ,η,θ,ι,κ,μ,ν,ξ,ο,ρ,σ,τ,υ,reduceIte,reduceCtorEq,MB,g6,wZz i]
   refine aI (i+1,H') ⟨hlt,?_⟩ (by simp only; omega) ?_ PH.le_refl
   ·simp only
    rw[bIM,hy]
    exact hH'
   ·unfold tZ
    exact Lq
  simp only[aC.wp,go_sem] at fin
  simp only[go_sem,γ,δ,ε,ζ,η,θ,ι,κ,μ,ν,ξ,ο,ρ,σ,τ,υ,reduceIte,reduceCtorEq]
  by_cases c0:nxM l 9 s.2=0
  ·rw[if_pos c0] at hcut
   obtain⟨rs,b1,b2,b3,h3⟩:=h2.store 0 rfl i [.int .i64 0]
   rw[hY] at h3
   have hil:i<rs.length:=by omega
   have hir:rs[i]?=some [.int .i64 x]:=by
    have:(rs.take n)[i]?=some [.int .i64 x]:=by
     rw[b3]
     unfold bE
     rw[bLN,hdrop,bMR Om,k1,bNG]
     rfl
    rwa [bNZ hlt] at this
   simp only[go_sem,γ,δ,ε,ζ,η,θ,ι,κ,μ,ν,ξ,ο,ρ,σ,τ,υ,reduceIte,reduceCtorEq,bT (Om:((nxM l 9 s.2:Nat):Int)=0),yB,aoR,bIL,b1,hir,bLJ]
   refine fin 0 (s.2+1) _ _ hcut ?_ h3
   unfold tZ
   exact Lq
  by_cases c1:nxM l 9 s.2=1
  ·rw[if_neg c0,if_pos c1] at hcut
   obtain⟨xn,hxn⟩:∃ xn:Nat,x=xn:=⟨x.toNat,by omega⟩
   subst hxn
   rw[show ((xn:Int)+1).toNat=xn+1 by omega] at hcut
   obtain⟨rs,b1,b2,b3,-⟩:=h2.store 0 rfl i [.int .i64 0]
   have hir:rs[i]?=some [.int .i64 xn]:=by
    have:(rs.take n)[i]?=some [.int .i64 xn]:=by
     rw[b3]
     unfold bE
     rw[bLN,hdrop,bMR Om,k1,bNG]
     rfl
    rwa [bNZ hlt] at this
   have e1:IntKind.i64.wrap ((xn:Int)+1)=((xn+1:Nat):Int):=dC Om
   have h4:=h2.set 0 rfl (bG l (s.2+2))
   rw[PH.set_set] at h4
   obtain⟨rs2,d1,d2,d3,h5⟩:=h4.store 0 rfl i [.int .i64 (nxM l (xn+1) (s.2+1):Nat)]
   rw[hY] at h5
   have hir2:rs2[i]?=some [.int .i64 xn]:=by
    have:(rs2.take n)[i]?=some [.int .i64 xn]:=by
     rw[d3]
     unfold bE
     rw[bLN,hdrop,bMR Om,k1,bNG]
     rfl
    rwa [bNZ hlt] at this
   simp only[go_sem,γ,δ,ε,ζ,η,θ,ι,κ,μ,ν,ξ,ο,ρ,σ,τ,υ,reduceIte,reduceCtorEq,bF (Om:((nxM l 9 s.2:Nat):Int)≠0),bT (Om:((nxM l 9 s.2:Nat):Int)=1),yB,MA,aoS,bIL,b1,hir,e1]
   refine cH Lb.toEB T (o:=o) (n:=xn+1) (a:=s.2+1) Om Om rfl (h2.at 0 rfl) ?_
   simp only[go_sem,γ,δ,ε,ζ,η,θ,ι,κ,μ,ν,ξ,ο,ρ,σ,τ,υ,reduceIte,reduceCtorEq,bIL,d1,hir2,bLJ]
   refine fin _ (s.2+2) _ _ hcut ?_ h5
   unfold tZ
   exact Lq
  ·rw[if_neg c0,if_neg c1] at hcut
   simp only[go_sem,γ,δ,ε,ζ,η,θ,ι,κ,μ,ν,ξ,ο,ρ,σ,τ,υ,reduceIte,reduceCtorEq,bF (Om:((nxM l 9 s.2:Nat):Int)≠0),bF (Om:((nxM l 9 s.2:Nat):Int)≠1),yB,MA]
   refine fin x (s.2+1) _ _ hcut ?_ ?_
   ·unfold tZ
    exact Lq
   ·rw[bLI,List.singleton_append,← hdrop]
    exact h2
 ·have bIL:¬ (i:Int)<(n:Nat):=by omega
  have:i=n:=by omega
  subst this
  have et:X.take i=X:=bKZ Om
  have ed:X.drop i=[]:=List.drop_eq_nil_of_le Om
  rw[et,ed,bMF] at hH
  simp only[go_sem,γ,δ,ε,ζ,η,θ,ι,κ,μ,ν,ξ,ο,ρ,σ,τ,υ,reduceIte,reduceCtorEq,bIL,FP]
  obtain⟨rs,g1,g2,g3,-,g4⟩:=hH.frz 0 rfl
  refine amT (vs:=[.osl q 1 0 i]) (.inr rfl) rfl (.step g1 (.done (H2:=PH.nil.set o (bG l (fF l X a).2)) ?_ (PH.aK PH.nil_le ?_)))
  ·rw[aV,g3,hR]
   exact⟨.refl _,rfl⟩
  ·have:=g4.at 0 rfl
   rw[this]
   rfl
def adM:Rg:=[iI 4 0]
def adN:Rg:=[iM 6 1,iC 7 .lss 6 1]
def adO:Rg:=[iI 4 0]
def adP:Rg:=[iM 8 0,iM 9 1,iB 10 .rem 8 9,iM 5 10]
def adQ:Rg:=[iM 11 5,iC 12 .lss 11 0]
def adR:Rg:=[iM 13 5,iM 14 1,iB 15 .add 13 14,iM 4 15]
def adS:Rg:=[iM 16 5,iM 4 16]
def wY:aC:=(sq adM (.seq (sq adN (.cond (Tm 7) (sq adO .ret) .skip)) (sq adP (.seq (sq adQ (.cond (Tm 12) (sq adR .ret) .skip)) (sq adS .ret)))))
def a2Q:List Nat:=[]
def DB:aW:=⟨2,17,wY,[.tmp 4]⟩
def aWO:Rg:=[iA 4 (.box false (Tm 1)),iA 6 (.alloc [(.int .i64 0),(.int .i64 0)]),iI 7 0]
def aWP:Rg:=[iF 10 1 4,iL 11 10,iC 12 .lss 11 0,iM 13 12,gF 14 1 4 13 false,gL 15 14 13 false,gM 16 0 13 false,gB 17 .geq 15 16 13 false,iQ 18 13 17]
def anA:Rg:=[iA 19 (.build [(.int .i64 0),(.int .i64 0)] []),iS 2 6 19,iI 7 110]
def aWQ:Rd:=[(iA 21 (.bKA (true,[.int .i64,.int .i64])),true),(iA 22 (.build [(.int .i64 0),(.int .i64 0)] [(0,1,(Ci 1)),(1,1,(Ci 1))]),true),(⟨none,.insert (true,[.int .i64,.int .i64]) (Tm 21) (Tm 22) (Ci 2),none⟩,true),(iA 23 (.build [(.int .i64 0),(.int .i64 0)] [(0,1,(Ci 2)),(1,1,(Ci 2))]),true),(⟨none,.insert (true,[.int .i64,.int .i64]) (Tm 21) (Tm 23) (Ci 3),none⟩,true),(iA 24 (.build [(.int .i64 0),(.int .i64 0)] [(0,1,(Ci 3)),(1,1,(Ci 3))]),true),(⟨none,.insert (true,[.int .i64,.int .i64]) (Tm 21) (Tm 24) (Ci 1),none⟩,true),(iA 25 (.build [(.int .i64 0),(.int .i64 0)] [(0,1,(Ci 3)),(1,1,(Ci 4))]),true),(⟨none,.insert (true,[.int .i64,.int .i64]) (Tm 21) (Tm 25) (Ci 5),none⟩,true),(iM 26 21,false),(iF 27 0 4,true),(iL 28 27,true),(iM 29 2,true),(iA 30 (.build [(.int .i64 0),(.int .i64 0)] [(0,1,(Tm 28)),(1,1,(Tm 29))]),true),(iA 31 (.lookup (true,[.int .i64,.int .i64]) (.int .i64 0) (Tm 26) (Tm 30) true),false),(iM 20 31,false),(iE 32 20 0,false),(iE 33 20 1,false),(iM 8 32,false),(iM 9 33,false)]
def qC:Rg:=[iM 40 9,iA 41 (.un .not (Tm 40)),iM 39 41]
def qD:Rg:=[iA 42 (.build [(.int .i64 0),(.int .i64 0)] []),iS 2 6 42,iI 7 110]
def qE:Rg:=[iM 44 2,iC 45 .neq 44 3,iM 43 45]
def qF:Rg:=[iM 46 8,iF 47 0 4,iS 1 47 46]
def aWR:Rg:=[iF 49 1 4,iL 50 49,iM 51 0,iC 52 .sub 51 1,iB 53 .eql 50 52,iM 48 53]
def aWS:Rg:=[iF 54 0 4,⟨none,.store 1 (Tm 54) (Ci 4),none⟩]
def aKC:Rg:=[iM 34 8,iF 35 1 4,iL 36 35,iC 37 .add 36 1,iA 38 (.build [(.int .i64 0),(.int .i64 0)] [(0,1,(Tm 34)),(1,1,(Tm 37))]),iS 2 4 38]
def nJ:Rg:=[iO 55 2 4,iS 2 6 55,iI 7 0]
def PR:aC:=(sq aWO (.seq (sq aWP (.cond (Tm 18) (sq anA .ret) .skip)) (dq aWQ (.seq (.block 0 (sq qC (.cond (Tm 39) (sq qD .ret) (sq qE (.cond (Tm 43) (.region qF) (sq aWR (.cond (Tm 48) (.region aWS) (.region aKC)))))))) (sq nJ .ret)))))
def bpP:List Nat:=[]
def step:aW:=⟨3,56,PR,[.cell 6 (some 2),.tmp 7]⟩
def aVZ:Rg:=[iT 4 false]
def aWA:Rg:=[iM 6 0,iN 7 6,iM 8 1,iN 9 8,iB 10 .neq 7 9]
def aWB:Rg:=[iT 4 false]
def aWC:Rg:=[iI 5 0]
def aWD:Rg:=[iM 11 5,iM 12 0,iN 13 12,iB 14 .lss 11 13]
def aWE:Rd:=[(iM 17 0,false),(iM 18 5,false),(iX 19 1 17 18,false),(iL 20 19,false),(iM 21 1,false),(iM 22 5,false),(iX 23 1 21 22,false),(iL 24 23,false),(iB 25 .neq 20 24,false)]
def aWF:Rg:=[iT 4 false]
def aWG:Rg:=[iM 15 5,iC 16 .add 15 1,iM 5 16]
def aVY:aC:=(.seq (sq aWD (.cond (Tm 14) .skip (.exit 0))) (.seq (.block 1 (dq aWE (.cond (Tm 25) (sq aWF .ret) .skip))) (.region aWG)))
def aWH:Rg:=[iT 4 true]
def PI:aC:=(sq aVZ (.seq (sq aWA (.cond (Tm 10) (sq aWB .ret) .skip)) (.seq (sq aWC (.block 0 (.loop aVY))) (sq aWH .ret))))
def bpF:List Nat:=[]
def same:aW:=⟨2,26,PI,[.tmp 4]⟩
def aYF:Rg:=[iA 3 (.box true (Tm 1)),iZ 4]
def aYG:Rg:=[iF 7 0 3,iL 8 7,iC 9 .lss 8 1,iM 10 9,gF 11 0 3 10 false,gL 12 11 10 false,gC 13 .gtr 12 5 10 false,iQ 14 10 13,iM 15 14,gF 16 1 3 15 false,gL 17 16 15 false,gC 18 .lss 17 0 15 false,iQ 19 15 18]
def SW:Rg:=[iZ 4]
def SX:Rg:=[iF 20 1 3,iL 21 20,iM 22 0,iN 23 22,iA 24 (.bJF false (Tm 21) (Tm 23)),iM 5 24]
def SY:Rg:=[iM 25 5,iM 26 0,iN 27 26,iB 28 .lss 25 27,iM 29 28,gF 30 0 3 29 true,gL 31 30 29 true,gC 32 .eql 31 3 29 true,gM 33 32 29 true,gF 34 0 3 33 false,gL 35 34 33 false,gC 36 .eql 35 4 33 false,iG 37 (.pick (Tm 33) (.const (.bool true)) (Tm 36)) 29 true,iP 38 29 37]
def anF:Rg:=[iM 39 5,iC 40 .add 39 1,iM 5 40]
def anG:Rg:=[iM 41 0,iM 42 5,iA 43 (.slice 1 (Tm 41) none (some (Tm 42)) none),iK 44 178 43,iM 6 44]
def SZ:Rg:=[iM 45 6,iK 46 180 45]
def TA:Rg:=[iM 47 6,iK 48 177 47,iM 4 48]
def QH:aC:=(sq aYF (.seq (sq aYG (.cond (Tm 19) (sq SW .ret) .skip)) (sq SX (.seq (sq SY (.cond (Tm 38) (.region anF) .skip)) (sq anG (sq SZ (sq TA .ret)))))))
def bqD:List Nat:=[3]
def aLU:aW:=⟨2,49,QH,[.tmp 4]⟩
def azF:Rg:=[iA 2 (.alloc [(.int .i64 0),(.int .i64 0)])]
def azG:Rg:=[iM 3 0,iC 4 .lss 3 1]
def azH:Rg:=[iA 5 (.build [(.int .i64 0),(.int .i64 0)] [(0,1,(Ci 4))]),iS 2 2 5]
def azI:Rg:=[iA 6 (.build [(.int .i64 0),(.int .i64 0)] [(0,1,(Ci 1))]),iS 2 2 6]
def EF:aC:=(sq azF (.seq (sq azG (.cond (Tm 4) (sq azH .ret) .skip)) (sq azI .ret)))
def beK:List Nat:=[]
def begin:aW:=⟨1,7,EF,[.cell 2 (some 2)]⟩
def anS:Rg:=[iZ 2]
def anT:Rg:=[iI 3 0]
def anU:Rg:=[iM 9 0,iN 10 9,iI 11 0]
def anV:Rg:=[iB 12 .lss 11 10]
def anW:Rg:=[iX 13 1 9 11,iL 14 13,iM 5 14]
def anX:Rg:=[iM 15 3,iM 16 5,iN 17 16,iB 18 .add 15 17,iM 3 18]
def anY:Rg:=[iM 19 3,iC 20 .lss 19 0]
def a6Z:Rg:=[iA 21 .stuck,⟨none,.stuck,none⟩]
def anZ:Rg:=[iC 22 .add 11 1,iM 11 22]
def anR:aC:=(sq anV (.seq (.cond (Tm 12) .skip (.exit 0)) (.seq (.block 1 (sq anW (sq anX (sq anY (.cond (Tm 20) (.region a6Z) .skip))))) (.region anZ))))
def aaH:Rg:=[iM 23 3,iA 24 (.call 179 [(.const .aB),(Tm 23)]),iM 6 24]
def EK:Rg:=[iM 25 0,iN 26 25,iI 27 0]
def EL:Rg:=[iB 28 .lss 27 26]
def EM:Rg:=[iX 29 1 25 27,iL 30 29,iM 8 30]
def EN:Rg:=[iM 31 6,iM 32 8,iA 33 (.append 1 8 (Tm 31) (Tm 32)),iM 6 33]
def uG:Rg:=[iC 34 .add 27 1,iM 27 34]
def EJ:aC:=(sq EL (.seq (.cond (Tm 28) .skip (.exit 2)) (.seq (.block 3 (sq EM (.region EN))) (.region uG))))
def uH:Rg:=[iM 35 6,iM 2 35]
def zM:aC:=(sq anS (sq anT (.seq (sq anU (.block 0 (.loop anR))) (sq aaH (.seq (sq EK (.block 2 (.loop EJ))) (sq uH .ret))))))
def a7A:List Nat:=[]
def concat:aW:=⟨1,36,zM,[.tmp 2]⟩
def ayY:Rg:=[iT 0 false]
def ayZ:Rg:=[iA 10 (.call 144 [(Ci 1)]),iA 1 (.alloc [(.int .i64 0),(.int .i64 0)]),iS 2 1 10]
def azA:Rg:=[iO 12 2 1,iA 13 (.call 145 [(Ci 1),(Tm 12),(Ci 1)]),iM 11 13,iE 14 11 0,iE 15 11 1,iA 2 (.alloc [(.int .i64 0),(.int .i64 0)]),iS 2 2 14,iM 3 15]
def azB:Rg:=[iO 17 2 2,iA 18 (.call 145 [(Ci 1),(Tm 17),(Ci 2)]),iM 16 18,iE 19 16 0,iE 20 16 1,iA 4 (.alloc [(.int .i64 0),(.int .i64 0)]),iS 2 4 19,iM 5 20]
def azC:Rg:=[iO 22 2 4,iA 23 (.call 145 [(Ci 1),(Tm 22),(Ci 3)]),iM 21 23,iE 24 21 0,iE 25 21 1,iA 6 (.alloc [(.int .i64 0),(.int .i64 0)]),iS 2 6 24,iM 7 25]
def azD:Rg:=[iO 27 2 6,iA 28 (.call 145 [(Ci 1),(Tm 27),(Ci 1)]),iM 26 28,iE 29 26 0,iE 30 26 1,iA 8 (.alloc [(.int .i64 0),(.int .i64 0)]),iS 2 8 29,iM 9 30]
def azE:Rg:=[iO 31 2 1,iA 32 (.build [(.int .i64 0),(.int .i64 0)] [(0,1,(Ci 1))]),iA 33 (.eqs false [.int,.int] (Tm 31) (Tm 32)),iM 34 33,gM 35 3 34 true,gC 36 .eql 35 0 34 true,iP 37 34 36,iM 38 37,gM 39 5 38 true,gC 40 .eql 39 0 38 true,iP 41 38 40,iM 42 41,gM 43 7 42 true,gC 44 .eql 43 0 42 true,iP 45 42 44,iM 46 45,gM 47 9 46 true,gC 48 .eql 47 110 46 true,iP 49 46 48,iM 50 49,gO 51 2 6 50 true,iG 52 (.build [(.int .i64 0),(.int .i64 0)] [(0,1,(Ci 4))]) 50 true,iG 53 (.eqs false [.int,.int] (Tm 51) (Tm 52)) 50 true,iP 54 50 53,iM 55 54,iG 56 (.bIK true 1 2 [(.int .i64 0)] [(0,(Ci 2)),(1,(Ci 1))]) 55 true,iG 57 (.bIK true 1 1 [.aB] [(0,(Tm 56))]) 55 true,gO 58 2 6 55 true,gK2 59 146 57 58 55 true,iG 60 (.bIK true 1 2 [(.int .i64 0)] [(0,(Ci 1)),(1,(Ci 2))]) 55 true,gK2 61 91 59 60 55 true,iP 62 55 61,iM 63 62,iG 64 (.call 144 [(Ci 0)]) 63 true,iG 65 (.build [(.int .i64 0),(.int .i64 0)] [(0,1,(Ci 4))]) 63 true,iG 66 (.eqs false [.int,.int] (Tm 64) (Tm 65)) 63 true,iP 67 63 66,iM 0 67]
def ED:aC:=(sq ayY (sq ayZ (sq azA (sq azB (sq azC (sq azD (sq azE .ret)))))))
def beI:List Nat:=[56,57,60]
def ZY:aW:=⟨0,68,ED,[.tmp 0]⟩
def brV:Rg:=[iA 5 (.box true (Tm 1)),iT 8 false]
def brW:Rg:=[iM 20 3,iN 21 20,iC 22 .gtr 21 20]
def brX:Rg:=[iA 23 (.call 26 []),iM 8 23]
def brY:Rg:=[iI 9 0]
def brZ:Rg:=[iM 24 9,iM 25 3,iN 26 25,iB 27 .lss 24 26]
def bsA:Rg:=[iM 30 3,iM 31 9,iX 32 1 30 31,iL 33 32,iN 34 33,iC 35 .gtr 34 20]
def bsB:Rg:=[iA 36 (.call 26 []),iM 8 36]
def bsC:Rg:=[iM 28 9,iC 29 .add 28 1,iM 9 29]
def brU:aC:=(.seq (sq brZ (.cond (Tm 27) .skip (.exit 0))) (.seq (.block 1 (sq bsA (.cond (Tm 35) (sq bsB .ret) .skip))) (.region bsC)))
def bsD:Rg:=[iM 37 0,iA 38 (.call 24 [(Tm 37),(Ci 5)]),iM 10 38]
def bnP:Rd:=[(iF 39 0 5,false),(iL 40 39,false),(iA 41 (.call 24 [(Tm 40),(Ci 5)]),true),(iA 42 (.bin .add (Ci 1) (Tm 41)),true),(iF 43 1 5,true),(iL 44 43,true),(iA 45 (.call 24 [(Tm 44),(Ci 5)]),true),(iA 46 (.build [(.int .i64 0),(.int .i64 0)] [(0,1,(Tm 42)),(1,1,(Tm 45))]),false),(iA 11 (.alloc [(.int .i64 0),(.int .i64 0)]),true),(iS 2 11 46,true)]
def bnQ:Rg:=[iM 48 0,iO 49 2 5,iM 50 2,iA 51 (.call 145 [(Tm 48),(Tm 49),(Tm 50)]),iM 47 51,iE 52 47 0,iE 53 47 1,iA 12 (.alloc [(.int .i64 0),(.int .i64 0)]),iS 2 12 52,iM 13 53]
def bnR:Rg:=[iM 55 0,iO 56 2 5,iM 57 2,iA 58 (.call 92 [(Tm 55),(Tm 56),(Tm 57)]),iM 54 58,iE 59 54 0,iE 60 54 1,iA 14 (.alloc [(.int .i64 0),(.int .i64 0)]),iS 2 14 59,iM 15 60]
def bnS:Rd:=[(iM 62 10,true),(iO 63 2 11,true),(iM 64 2,false),(iA 65 (.call 24 [(Tm 64),(Ci 4)]),true),(iA 66 (.bin .add (Ci 1) (Tm 65)),false),(iA 67 (.call 145 [(Tm 62),(Tm 63),(Tm 66)]),true),(iM 61 67,false),(iE 68 61 0,false),(iE 69 61 1,true),(iA 16 (.alloc [(.int .i64 0),(.int .i64 0)]),true),(iS 2 16 68,true),(iM 17 69,false)]
def bnT:Rd:=[(iM 71 10,true),(iO 72 2 11,true),(iM 73 2,false),(iA 74 (.call 24 [(Tm 73),(Ci 4)]),true),(iA 75 (.bin .add (Ci 1) (Tm 74)),false),(iA 76 (.call 92 [(Tm 71),(Tm 72),(Tm 75)]),true),(iM 70 76,false),(iE 77 70 0,false),(iE 78 70 1,true),(iA 18 (.alloc [(.int .i64 0),(.int .i64 0)]),true),(iS 2 18 77,true),(iM 19 78,false)]
def bnU:Rd:=[(iA 79 (.call 26 []),true),(iM 80 79,false),(gO 81 2 12 80 true,false),(gO 82 2 14 80 true,false),(iG 83 (.eqs false [.int,.int] (Tm 81) (Tm 82)) 80 true,false),(iP 84 80 83,false),(iM 85 84,false),(gM 86 13 85 true,false),(gM 87 15 85 true,false),(gB 88 .eql 86 87 85 true,false),(iP 89 85 88,false),(iM 90 89,false),(gO 91 2 16 90 true,false),(gO 92 2 18 90 true,false),(iG 93 (.eqs false [.int,.int] (Tm 91) (Tm 92)) 90 true,false),(iP 94 90 93,false),(iM 95 94,false),(gM 96 17 95 true,false),(gM 97 19 95 true,false),(gB 98 .eql 96 97 95 true,false),(iP 99 95 98,false),(iM 100 99,false),(gM 101 3 100 true,false),(gO 102 2 5 100 true,false),(gK2 103 146 101 102 100 true,true),(gM 104 3 100 true,true),(gO 105 2 5 100 true,true),(gK2 106 93 104 105 100 true,true),(gK2 107 91 103 106 100 true,true),(iP 108 100 107,false),(iM 109 108,false),(gM 110 3 109 true,false),(gO 111 2 11 109 true,false),(gK2 112 146 110 111 109 true,true),(gM 113 3 109 true,true),(gO 114 2 11 109 true,true),(gK2 115 93 113 114 109 true,true),(gK2 116 91 112 115 109 true,true),(iP 117 109 116,false),(iM 8 117,false)]
def bgN:aC:=(sq brV (.seq (sq brW (.cond (Tm 22) (sq brX .ret) .skip)) (.seq (sq brY (.block 0 (.loop brU))) (sq bsD (dq bnP (sq bnQ (sq bnR (dq bnS (dq bnT (dq bnU .ret))))))))))
def law:aW:=⟨4,118,bgN,[.tmp 8]⟩
open Go Go.RowKit Go.Sort Go.Shelf Go.Proofs
section
variable {E:Env} {H:PH} {w:World}
theorem bM.ZZ (hW:bM E H w) {w':World} (hs:w.heap.size≤w'.heap.size) (hb:∀ b,b<w.heap.size→w'.heap[b]?=w.heap[b]?):bM E H w':=by
 refine⟨fun b cs h=>?_,fun o x h=>?_,fun o n h=>?_⟩
 ·obtain⟨h1,ty,fr,h2⟩:=hW.g b cs h
  exact⟨h1,ty,fr,(hb b (bNT.1 h2).1).trans h2⟩
 ·obtain⟨h1,h2⟩:=hW.h o x h
  exact⟨Nat.lt_of_lt_of_le h1 hs,h2.mono (.refl E) (hb o h1)⟩
 ·obtain⟨cur,ty,fr,h1,h2⟩:=hW.s o n h
  exact⟨cur,ty,fr,(hb o (bNT.1 h1).1).trans h1,h2⟩
theorem Ext.ZZ {E':Env} {H':PH} {w1 w2:World} (h:Ext E H w E' H' w1) (ho:w2.os=w1.os) (ht:w2.tape=w1.tape) (hp:w2.output=w1.output) (hs:w1.heap.size≤w2.heap.size)
  (hb:∀ b,b<w1.heap.size→w2.heap[b]?=w1.heap[b]?):Ext E H w E' H' w2 :=
 ⟨h.env,ho.trans h.os,ht.trans h.tape,hp.trans h.output,bNF h.size hs,fun b hlt hn=>(hb b (Nat.lt_of_lt_of_le hlt h.size)).trans (h.block b hlt hn),h.new,h.newG⟩
theorem acY (hW:bM E H w) {o off:Nat} {rs:List (List PV)} {xs:List Int} (ho:H o=some (.rows 1 rs)) (hx:(rs.drop off).take xs.length=bE xs):Holds (Value.int .i64) w o off xs.toArray:=by
 obtain⟨-,cur,ty,h1,h2,h3,h4,h5⟩:=hW.h o _ ho
 intro j hj
 have hj':j<xs.length:=by simpa using hj
 have hat:at2 rs (off+j) 0=some (.int .i64 xs[j]):=by
  have e:((rs.drop off).take xs.length)[j]?=(bE xs)[j]?:=by rw[hx]
  rw[bNZ hj',bNV] at e
  unfold at2
  rw[e]
  simp[bE,hj']
 obtain⟨u,e1,e2,e3⟩:=h5 _ 0 _ hat
 cases e3
 have e4:xs.toArray[j]! = xs[j]:=by simp[hj']
 refine⟨?_,?_⟩
 ·simp only[World.cell?,h1,Option.isSome_none,bNL,if_false]
  rw[e4]
  simpa using e1
 ·simp[World.frozen?,h1]
theorem aVH (hW:bM E H w) {o:Nat} {xs ys:List Int} (ho:H o=some (.rows 1 (bE xs))) (hl:ys.length=xs.length) (n:Nat) (os:Array Obj) :
  bM E (H.set o (.rows 1 (bE ys))) (grow (putRow (Value.int .i64) (Sort.ahead w n) o 0 ys.toArray) os)∧Ext E H w E (H.set o (.rows 1 (bE ys))) (grow (putRow (Value.int .i64) (Sort.ahead w n) o 0 ys.toArray) os):=by
 obtain⟨-,cur,ty,h1,h2,h3,h4,h5⟩:=hW.h o _ ho
 have hlen:xs.length≤cur.size:=by simpa [bE] using h4
 have hR:jD E 1 (bE ys) (putCells (Value.int .i64) 0 ys.toArray cur):=by
  refine⟨fun r hr=>?_,?_,fun i j pv hp=>?_⟩
  ·unfold bE at hr
   rw[bLP] at hr
   obtain⟨n,-,rfl⟩:=hr
   rfl
  ·simp[bE,putCells]; omega
  ·unfold at2 bE at hp
   rw[bLN,bNM] at hp
   obtain⟨r,hr,hp⟩:=hp
   rw[bKP] at hr
   obtain⟨m,hm,rfl⟩:=hr
   have hi:=(bLU.1 hm).1
   cases j with
   | succ j=>simp at hp
   | zero =>
    simp at hp
    subst hp
    refine⟨.int .i64 m,?_,rfl,.int _ _⟩
    have hc:i<cur.size:=by omega
    simp only[Nat.mul_one,bMB,putCells,Array.getElem?_mapIdx,bNN hc,bLT,bKT,true_and,bLJ,Nat.sub_zero,List.size_toArray]
    rw[if_pos hi]
    have:ys.toArray[i]! = m:=by
     obtain⟨h,e⟩:=bLU.1 hm
     simp[h,e]
    rw[this]
 obtain⟨k1,k2⟩:=hW.amY ho h1 (by simp[putCells]) hR
 have hheap:∀ b,b<(w.setRow o (putCells (Value.int .i64) 0 ys.toArray cur)).heap.size→(grow (putRow (Value.int .i64) (Sort.ahead w n) o 0 ys.toArray) os).heap[b]?=(w.setRow o (putCells (Value.int .i64) 0 ys.toArray cur)).heap[b]?:=by
  intro b hb
  have hb':b<w.heap.size:=by simpa [World.setRow] using hb
  have e1:(grow (putRow (Value.int .i64) (Sort.ahead w n) o 0 ys.toArray) os).heap[b]?=(putRow (Value.int .i64) (Sort.ahead w n) o 0 ys.toArray).heap[b]?:=by
   unfold grow
   exact Array.getElem?_append_left (by simpa using hb')
  rw[e1]
  simp only[putRow,mapBlock,World.setRow,Array.getElem?_modify,heap_ahead]
  by_cases e:o=b
  ·subst e
   simp[h1,onCells]
  ·simp[e]
 have hsize:(w.setRow o (putCells (Value.int .i64) 0 ys.toArray cur)).heap.size≤(grow (putRow (Value.int .i64) (Sort.ahead w n) o 0 ys.toArray) os).heap.size:=by
  simp[World.setRow]
 exact⟨k1.ZZ hsize hheap,k2.ZZ rfl rfl rfl hsize hheap⟩
end
section
variable {C:Ctx} {ρ:Ren} {name:Nat}
def sorted (xs:List Int):List Int:=xs.mergeSort fun x y=>decide (x≤y)
theorem a4E (L:Lays.n189 C.P ρ) (hn:C.num name=ρ.f 189) (hf:∃ fn,C.P.funcs[C.num name]?=some fn∧fn.body.isSome=true∧(fn.name=="runtime.NumGoroutine")=false) (o:Nat) (xs:List Int) (hx:xs≠[]) (hl:xs.length<4611686018427387904) :
  aE C name [.osl o 1 0 xs.length] (PH.nil.set o (.rows 1 (bE xs))) (fun r H'=>r=.tup []∧H'=PH.nil.set o (.rows 1 (bE (sorted xs)))):=by
 refine⟨hf,fun E w vs hN hW hvs=>?_⟩
 have ho:(PH.nil.set o (.rows 1 (bE xs))) o=some (.rows 1 (bE xs)):=by simp[bW]
 obtain⟨vl⟩:=vs
 cases hvs with
 | cons h1 h2 =>
 cases h2
 cases h1 with
 | @osl _ _ _ _ cap n a hb hsp bKE hlen bJZ hs bJK =>
 have hcap:cap≠0:=by
  intro e; subst e
  exact hx (bNY Om)
 have ha:a=⟨o,0,none⟩:=by
  obtain⟨b,off,sp⟩:=a
  simp only at hb hsp bKE
  subst hb; subst hsp
  rcases bKE with h | h
  ·exact (hcap h).elim
  ·simp at h; subst h; rfl
 subst ha
 rw[hn]
 have hH:=acY hW (off:=0) (xs:=xs) ho (by rw[bLK]; exact bKZ (by simp[bE]))
 refine (Any.slices_Sort_int L o 0 cap xs w hH (hW.h o _ ho).1 hl).mono fun e w' he=>?_
 obtain⟨rfl,n,os,rfl⟩:=he
 obtain⟨k1,k2⟩:=aVH hW ho (ys:=sorted xs) (by simp[sorted]) n os
 rw[show (PH.nil.set o (.rows 1 (bE xs))).set o (.rows 1 (bE (sorted xs)))=PH.nil.set o (.rows 1 (bE (sorted xs))) from PH.ext fun q=>by simp only[bW]; split<;>rfl] at k1 k2
 exact⟨_,.tup [],E,_,rfl,k1,.tup #[] rfl (by simp),k2,rfl,rfl⟩
theorem aPK (L:Lays.n189 C.P ρ) (hn:C.num name=ρ.f 189) (hf:∃ fn,C.P.funcs[C.num name]?=some fn∧fn.body.isSome=true∧(fn.name=="runtime.NumGoroutine")=false) (v:PV) (H:PH)
  (hv:v=.aB∨∃ o off,v=.osl o 1 off 0):aE C name [v] H (fun r H'=>r=.tup []∧H'=H):=by
 refine⟨hf,fun E w vs hN hW hvs=>?_⟩
 obtain⟨vl⟩:=vs
 cases hvs with
 | cons h1 h2 =>
 cases h2
 rename_i u
 have:∃ p cap,u=.slice p 0 cap:=by
  rcases hv with rfl | ⟨o,off,rfl⟩
  ·cases h1; exact⟨none,0,rfl⟩
  ·cases h1; exact⟨_,_,rfl⟩
 obtain⟨p,cap,rfl⟩:=this
 rw[hn]
 refine (Any.slices_Sort_int_none L p cap w).mono fun e w' he=>?_
 obtain⟨rfl,rfl⟩:=he
 exact⟨_,.tup [],E,_,rfl,hW,.tup #[] rfl (by simp),.refl _ _ _,rfl,rfl⟩
theorem axG (L:Lays2.n20 C.P ρ) (hn:C.num name=ρ.f 20) (hf:∃ fn,C.P.funcs[C.num name]?=some fn∧fn.body.isSome=true∧(fn.name=="runtime.NumGoroutine")=false) (o:Nat) (xs:List Int) (hx:xs≠[]) (hl:xs.length<4611686018427387904) :
  aE C name [.osl o 1 0 xs.length] (PH.nil.set o (.rows 1 (bE xs))) (fun r H'=>r=.osl o 1 0 (Lib.compact xs).length∧H'=PH.nil.set o (.rows 1 (bE (Lib.compact xs++bKL (xs.length-(Lib.compact xs).length) 0)))):=by
 refine⟨hf,fun E w vs hN hW hvs=>?_⟩
 have ho:(PH.nil.set o (.rows 1 (bE xs))) o=some (.rows 1 (bE xs)):=by simp[bW]
 obtain⟨vl⟩:=vs
 cases hvs with
 | cons h1 h2 =>
 cases h2
 cases h1 with
 | @osl _ _ _ _ cap n a hb hsp bKE hlen bJZ hs bJK =>
 have hcap:cap≠0:=by
  intro e; subst e
  exact hx (bNY Om)
 have ha:a=⟨o,0,none⟩:=by
  obtain⟨b,off,sp⟩:=a
  simp only at hb hsp bKE
  subst hb; subst hsp
  rcases bKE with h | h
  ·exact (hcap h).elim
  ·simp at h; subst h; rfl
 subst ha
 rw[hn]
 have hH:=acY hW (off:=0) (xs:=xs) ho (by rw[bLK]; exact bKZ (by simp[bE]))
 have hle:(Lib.compact xs).length≤xs.length:=by
  unfold Lib.compact Lib.compactUpTo
  have:=List.length_filter_le (Lib.keeps xs.toArray) (bKJ xs.length)
  simpa using this
 refine (Any.slices_Compact_int L o 0 cap xs w hH Om hlen).mono fun e w' he=>?_
 obtain⟨rfl,n,rfl⟩:=he
 have key:=aVH hW ho (ys:=Lib.compact xs++bKL (xs.length-(Lib.compact xs).length) 0) (by simp; omega) n #[]
 rw[grow_empty] at key
 obtain⟨k1,k2⟩:=key
 rw[show ∀ z,(PH.nil.set o (.rows 1 (bE xs))).set o (.rows 1 z)=PH.nil.set o (.rows 1 z) from fun z=>PH.ext fun q=>by simp only[bW]; split<;>rfl] at k1 k2
 exact⟨_,.osl o 1 0 _,E,_,rfl,k1,.osl rfl rfl (.inr (by simp)) Om bJZ hs bJK,k2,rfl,rfl⟩
theorem alA (L:Lays2.n20 C.P ρ) (hn:C.num name=ρ.f 20) (hf:∃ fn,C.P.funcs[C.num name]?=some fn∧fn.body.isSome=true∧(fn.name=="runtime.NumGoroutine")=false) (v:PV) (H:PH)
  (hv:v=.aB∨∃ o off,v=.osl o 1 off 0):aE C name [v] H (fun r H'=>r=v∧H'=H):=by
 refine⟨hf,fun E w vs hN hW hvs=>?_⟩
 obtain⟨vl⟩:=vs
 cases hvs with
 | cons h1 h2 =>
 cases h2
 rename_i u
 have:∃ p cap,u=.slice p 0 cap:=by
  rcases hv with rfl | ⟨o,off,rfl⟩
  ·cases h1; exact⟨none,0,rfl⟩
  ·cases h1; exact⟨_,_,rfl⟩
 obtain⟨p,cap,rfl⟩:=this
 rw[hn]
 refine (Any.slices_Compact_int_empty L p cap w).mono fun e w' he=>?_
 obtain⟨rfl,rfl⟩:=he
 exact⟨_,v,E,_,rfl,hW,h1,.refl _ _ _,rfl,rfl⟩
end
abbrev lists (ws:List (List Int)):PV:=.sl 1 (ws.map fun w=>[ints w])
def WE (xs:List Int) (r:PV) (H:PH):Prop:=(xs=[]∧r=.aB∧H=.nil)∨(xs≠[]∧∃ o,r=.osl o 1 0 xs.length∧H=PH.nil.set o (.rows 1 (bE xs)))
def bkV (n:Int) (r:PV) (H:PH):Prop:=(n=0∧r=.aB∧H=.nil)∨(0<n∧∃ o,r=.osl o 1 0 0∧H=PH.nil.set o (.rows 1 []))
def a0X (ws:List (List Int)) (i:Nat):PF:=((((((PF.nil.set 0 (lists ws)).set 2 (.aB)).set 3 (.int .i64 ((ws.take i).flatten.length:Nat))).set 9 (lists ws)).set 10 (.int .i64 (ws.length:Nat))).set 11 (.int .i64 i))
def EH (ws:List (List Int)) (v:PV) (i:Nat):PF:=(((((PF.nil.set 2 (.aB)).set 6 (v)).set 25 (lists ws)).set 26 (.int .i64 (ws.length:Nat))).set 27 (.int .i64 i))
theorem aoZ (ws:List (List Int)) {i:Nat} (h:i<ws.length):(ws.take (i+1)).flatten=(ws.take i).flatten++ws[i]:=by
 rw[bMA h,List.flatten_append]; simp
theorem SI (ws:List (List Int)) (i:Nat):(ws.take i).flatten.length≤ws.flatten.length:=by
 conv=>rhs; rw[← bMX i ws,List.flatten_append,bKQ]
 omega
theorem a6Y {C:Ctx} (ws:List (List Int)) (h1:ws.length≤1000000) (h2:ws.flatten.length≤1000000) (hg:∀ n:Int,0≤n→n≤1000000→aE C 179 [.aB,.int .i64 n] .nil (bkV n)) :
  zM.wp C (aT concat.res (WE ws.flatten)) (PF.args [lists ws]) .nil:=by
 simp only[go_sem,γ,δ,ε,ζ,η,θ,ι,κ,μ,ν,ξ,ο,ρ,σ,τ,υ,reduceIte,reduceCtorEq,zM,anS,anT,anU,lists,concat]
 refine wp_loop (α:=Nat) (a0X ws) (fun _=>.nil) (fun i=>i≤ws.length) (fun i=>ws.length-i) 0 Om ?_ PH.nil_le ?_
 ·unfold a0X
  exact Lq
 intro i hi
 simp only[go_sem,γ,δ,ε,ζ,η,θ,ι,κ,μ,ν,ξ,ο,ρ,σ,τ,υ,reduceIte,reduceCtorEq,anR,anV,a0X]
 refine kV (fun h=>?_) (fun h=>?_)
 ·have hlt:i<ws.length:=by simpa using h
  have hx:(ws.map fun w=>[ints w])[i]?=some [ints ws[i]]:=by simp[hlt]
  have hf:=aoZ ws hlt
  have hle:=SI ws (i+1)
  have hlen:(ws.take (i+1)).flatten.length=(ws.take i).flatten.length+ws[i].length:=by rw[hf,bKQ]
  have hw:IntKind.i64.wrap (((ws.take i).flatten.length:Nat)+(ws[i].length:Int))=((ws.take (i+1)).flatten.length:Nat):=by
   rw[hlen]
   rw[show (((ws.take i).flatten.length:Nat):Int)+(ws[i].length:Int)=(((ws.take i).flatten.length+ws[i].length:Nat):Int) by omega]
   exact xV Om
  have hn:¬ (((ws.take (i+1)).flatten.length:Nat):Int)<0:=by omega
  simp only[go_sem,γ,δ,ε,ζ,η,θ,ι,κ,μ,ν,ξ,ο,ρ,σ,τ,υ,reduceIte,reduceCtorEq,anW,anX,hx,hw,anY,hn,anZ]
  refine aI (i+1) Om Om ?_ PH.nil_le
  unfold a0X
  (repeat' (first|exact PF.nil_le|refine PF.aK ?_ ?_))<;>first|(simp only[go_sem,γ,δ,ε,ζ,η,θ,ι,κ,μ,ν,ξ,ο,ρ,σ,τ,υ,reduceIte,reduceCtorEq,wZz i]<;>rfl)|rfl
 ·have he:i=ws.length:=by simp at h; omega
  subst he
  have ht:(ws.take ws.length).flatten=ws.flatten:=by rw[bLG]
  simp only[go_sem,γ,δ,ε,ζ,η,θ,ι,κ,μ,ν,ξ,ο,ρ,σ,τ,υ,reduceIte,reduceCtorEq,aaH,ht]
  refine fE (hg (ws.flatten.length:Nat) Om Om) Ev PH.nil_le ?_
  intro r H' hr ha
  rcases hr with ⟨hn,rfl,rfl⟩ | ⟨hn,o,rfl,rfl⟩
  ·have h0:ws.flatten=[]:=bNY Om
   rw[PH.kY]
   simp only[go_sem,γ,δ,ε,ζ,η,θ,ι,κ,μ,ν,ξ,ο,ρ,σ,τ,υ,reduceIte,reduceCtorEq,EK]
   refine wp_loop (α:=Nat) (EH ws .aB) (fun _=>.nil) (fun i=>i≤ws.length) (fun i=>ws.length-i) 0 Om ?_ PH.nil_le ?_
   ·unfold EH
    exact Lq
   intro i hi
   simp only[go_sem,γ,δ,ε,ζ,η,θ,ι,κ,μ,ν,ξ,ο,ρ,σ,τ,υ,reduceIte,reduceCtorEq,EJ,EL,EH]
   refine kV (fun h=>?_) (fun h=>?_)
   ·have hlt:i<ws.length:=by simpa using h
    have hx:(ws.map fun w=>[ints w])[i]?=some [ints ws[i]]:=by simp[hlt]
    have he:ws[i]=[]:=by
     rw[List.flatten_eq_nil_iff] at h0
     exact h0 _ (bKM _)
    simp only[go_sem,γ,δ,ε,ζ,η,θ,ι,κ,μ,ν,ξ,ο,ρ,σ,τ,υ,reduceIte,reduceCtorEq,EM,EN,hx,he]
    refine xS (src:=[]) rfl (by unfold roomFor; simp) (fun _=>?_) (fun h=>(h rfl).elim)
    simp only[go_sem,γ,δ,ε,ζ,η,θ,ι,κ,μ,ν,ξ,ο,ρ,σ,τ,υ,reduceIte,reduceCtorEq,uG]
    refine aI (i+1) Om Om ?_ PH.nil_le
    unfold EH
    (repeat' (first|exact PF.nil_le|refine PF.aK ?_ ?_))<;>first|(simp only[go_sem,γ,δ,ε,ζ,η,θ,ι,κ,μ,ν,ξ,ο,ρ,σ,τ,υ,reduceIte,reduceCtorEq,wZz i]<;>rfl)|rfl
   ·simp only[go_sem,γ,δ,ε,ζ,η,θ,ι,κ,μ,ν,ξ,ο,ρ,σ,τ,υ,reduceIte,reduceCtorEq,uH]
    exact aX (.inr rfl) .nil Ev PH.nil_le (.inl ⟨h0,rfl,rfl⟩)
  ·have h0:ws.flatten≠[]:=by intro e; rw[e] at hn; simp at hn
   rw[PH.kJ]
   simp only[go_sem,γ,δ,ε,ζ,η,θ,ι,κ,μ,ν,ξ,ο,ρ,σ,τ,υ,reduceIte,reduceCtorEq,EK]
   refine wp_loop (α:=Nat × Nat) (fun a=>EH ws (.osl a.2 1 0 (ws.take a.1).flatten.length) a.1) (fun a=>PH.nil.set a.2 (.rows 1 (bE (ws.take a.1).flatten))) (fun a=>a.1≤ws.length) (fun a=>ws.length-a.1) (0,o) (by simp) ?_ ?_ ?_
   ·unfold EH
    exact Lq
   ·exact PH.aK PH.nil_le (by simp only[go_sem,γ,δ,ε,ζ,η,θ,ι,κ,μ,ν,ξ,ο,ρ,σ,τ,υ,reduceIte,reduceCtorEq]; rfl)
   rintro⟨i,q⟩ hi
   simp only[go_sem,γ,δ,ε,ζ,η,θ,ι,κ,μ,ν,ξ,ο,ρ,σ,τ,υ,reduceIte,reduceCtorEq,EJ,EL,EH]
   simp only at hi
   refine kV (fun h=>?_) (fun h=>?_)
   ·have hlt:i<ws.length:=by simpa using h
    have hx:(ws.map fun w=>[ints w])[i]?=some [ints ws[i]]:=by simp[hlt]
    have hf:=aoZ ws hlt
    have hle:=SI ws (i+1)
    have hlen:(ws.take (i+1)).flatten.length=(ws.take i).flatten.length+ws[i].length:=by rw[hf,bKQ]
    have hrows:(bE (ws.take i).flatten).take (ws.take i).flatten.length++(ws[i].map fun n=>[PV.int .i64 n])=bE (ws.take (i+1)).flatten:=by
     rw[bKZ (by unfold bE; rw[bKI]; exact bKK _),hf]; unfold bE; rw[bMM]
    have fin:∀ (q':Nat) (H':PH),H' q'=some (.rows 1 (bE (ws.take (i+1)).flatten))→∀ F':PF,F' 2=some .aB→F' 6=some (.osl q' 1 0 (ws.take (i+1)).flatten.length)→F' 25=some (lists ws)→F' 26=some (.int .i64 ws.length)→F' 27=some (.int .i64 ((i+1:Nat):Int)) →
      eI (fun a:Nat × Nat=>EH ws (.osl a.2 1 0 (ws.take a.1).flatten.length) a.1) (fun a=>PH.nil.set a.2 (.rows 1 (bE (ws.take a.1).flatten))) (fun a=>a.1≤ws.length) (fun a=>ws.length-a.1) (ws.length-i) (dZ 2 (jB C (aC.wp C ((aC.region uH).seq aC.ret)) (aT [.tmp 2] (WE ws.flatten)))) .normal F' H':=by
     intro q' H' e1 F' f2 f6 f25 f26 f27
     refine aI (i+1,q') (by simp only; omega) (by simp only; omega) ?_ (PH.aK PH.nil_le e1)
     unfold EH
     exact PF.aK (PF.aK (PF.aK (PF.aK (PF.aK PF.nil_le f2) f6) f25) f26) f27
    simp only[go_sem,γ,δ,ε,ζ,η,θ,ι,κ,μ,ν,ξ,ο,ρ,σ,τ,υ,reduceIte,reduceCtorEq,EM,EN,hx]
    refine xT (src:=ws[i].map fun n=>[PV.int .i64 n]) (rs:=bE (ws.take i).flatten) rfl (by unfold roomFor; rw[bKI]; simp only[maxLen]; omega) Sq (by unfold bE; rw[bKI]; exact bKK _) ?_ ?_
    ·rw[hrows,bKI,← hlen]
     simp only[go_sem,γ,δ,ε,ζ,η,θ,ι,κ,μ,ν,ξ,ο,ρ,σ,τ,υ,reduceIte,reduceCtorEq,uG,wZz i]
     exact fin q _ Sq _ Sq Sq Sq Sq Sq
    ·intro q' hq'
     rw[hrows,bKI,← hlen]
     simp only[go_sem,γ,δ,ε,ζ,η,θ,ι,κ,μ,ν,ξ,ο,ρ,σ,τ,υ,reduceIte,reduceCtorEq,uG,wZz i]
     exact fin q' _ Sq _ Sq Sq Sq Sq Sq
   ·have he:i=ws.length:=by simp at h; omega
    subst he
    simp only[go_sem,γ,δ,ε,ζ,η,θ,ι,κ,μ,ν,ξ,ο,ρ,σ,τ,υ,reduceIte,reduceCtorEq,uH]
    refine aX (.inr rfl) (PH.nil.set q (.rows 1 (bE ws.flatten))) Ev (PH.aK PH.nil_le (by simp only[go_sem,γ,δ,ε,ζ,η,θ,ι,κ,μ,ν,ξ,ο,ρ,σ,τ,υ,reduceIte,reduceCtorEq,ht])) (.inr ⟨h0,q,?_,rfl⟩)
    simp only[aV,ht]
abbrev WPs:=List (PV × List Int)
def fR (ps:WPs):List (List PV):=ps.map fun p=>[p.1]
def mA (ps:WPs):List LI:=ps.map fun p=>(p.1,1,bE p.2)
def wls (ps:WPs):List (List Int):=ps.map (·.2)
def jL (vo:PV) (ps:WPs):List LI:=(vo,1,fR ps)::mA ps
section
variable {H:PH} {B:List BX}
theorem tK (ps:WPs):(fR ps).length=ps.length:=bKI _
theorem alQ {ps:WPs} {i:Nat} {v:PV} {w:List Int} (hi:ps[i]?=some (v,w)):(mA ps)[i]?=some (v,1,bE w):=by
 unfold mA
 rw[bLN,hi]; rfl
theorem aHN {ps:WPs} {i:Nat} {v:PV} {w:List Int} (hi:ps[i]?=some (v,w)):(fR ps)[i]?=some [v]:=by
 unfold fR
 rw[bLN,hi]; rfl
theorem aS.bkZ (h:aS H B []):aS H B (jL .aB []):=h.pJ 1
theorem aS.inner {vo:PV} {ps:WPs} (h:aS H B (jL vo ps)) {i:Nat} {v:PV} {w:List Int} (hi:ps[i]?=some (v,w)):bJ H 1 v (bE w):=h.own (i+1) (alQ hi)
theorem aS.outer {vo:PV} {ps:WPs} (h:aS H B (jL vo ps)):bJ H 1 vo (fR ps):=h.own 0 rfl
theorem wW (a b:List Int):bE (a++b)=bE a++bE b:=bMM
theorem aS.bwI {vo:PV} {ps:WPs} (h:aS H B (jL vo ps)) {i b:Nat} {v y:PV} {w src:List Int} {K:PV→PH→Prop} (hi:ps[i]?=some (v,w)) (hy:dR H 1 y=some (bE src)) (hr:roomFor w.length src.length b) (hne:src≠[])
  (hk:∀ q H',aS H' B ((vo,1,fR ps)::(mA ps).set i (.osl q 1 0 (w++src).length,1,bE (w++src)))→K (.osl q 1 0 (w++src).length) H'):mF H 1 b v y K:=by
 have bJJ:bE src≠[]:=fun e=>hne (List.map_eq_nil_iff.1 e)
 refine h.append (i+1) (alQ hi) hy (by rw[cT,cT]; exact hr) fun v' H' h' hv=>?_
 obtain⟨q,rfl⟩:=hv bJJ
 rw[← wW,cT] at h' ⊢
 exact hk q H' h'
theorem aS.btH {qo n i:Nat} {ps:WPs} {v':PV} {w':List Int} (h:aS H B ((.osl qo 1 0 n,1,fR ps)::(mA ps).set i (v',1,bE w'))) :
  ∃ rs,H qo=some (.rows 1 rs)∧n≤rs.length∧rs.take n=fR ps∧aS (H.set qo (.rows 1 (rs.set i [v']))) B (jL (.osl qo 1 0 n) (ps.set i (v',w'))):=by
 obtain⟨rs,h1,h2,h3,h4⟩:=h.store 0 rfl i [v']
 refine⟨rs,h1,h2,h3,?_⟩
 have e:jL (.osl qo 1 0 n) (ps.set i (v',w'))=((.osl qo 1 0 n,1,fR ps)::(mA ps).set i (v',1,bE w')).set 0 (.osl qo 1 0 n,1,(fR ps).set i [v']):=by
  unfold jL fR mA
  rw[List.map_set,List.map_set]
  rfl
 rw[e]
 exact h4
def oR (fs:List (List PV)) (ws:List (List Int)):Prop:=fs.length=ws.length∧∀ (i:Nat) r w,fs[i]?=some r→ws[i]?=some w→r=[ints w]∨(r=[.aB]∧w=[])
theorem oR.nil:oR [] []:=⟨rfl,fun i r w h=>by cases h⟩
theorem oR.snoc {fs:List (List PV)} {ws:List (List Int)} {u:PV} {w:List Int} (h:oR fs ws) (hu:u=ints w∨(u=.aB∧w=[])):oR (fs++[[u]]) (ws++[w]):=by
 refine⟨by simp[h.1],fun i r x hr hx=>?_⟩
 rcases Nat.lt_trichotomy i fs.length with c | c | c
 ·rw[bNB c] at hr
  rw[bNB (by rw[← h.1]; exact c)] at hx
  exact h.2 i r x hr hx
 ·subst c
  rw[bMR (bKK _),bNG] at hr
  rw[h.1,bMR (bKK _),bNG] at hx
  cases hr; cases hx
  rcases hu with rfl | ⟨rfl,rfl⟩
  ·exact .inl rfl
  ·exact .inr ⟨rfl,rfl⟩
 ·rw[bMR Om,bLW (by simp; omega)] at hr
  cases hr
theorem oR.flat {fs:List (List PV)} {ws:List (List Int)} (h:oR fs ws):Flat fs:=Flat.of fun r hr c hc q s rs=>by
 obtain⟨i,hi⟩:=List.mem_iff_getElem?.1 hr
 have hl:=(bLU.1 hi).1
 rcases h.2 i r _ hi (bKU (by rw[← h.1]; exact hl)) with rfl | ⟨rfl,-⟩
 ·rw[bLR] at hc; subst hc; rfl
 ·rw[bLR] at hc; subst hc; rfl
theorem oR.co {fs:List (List PV)} {ws:List (List Int)} (h:oR fs ws):Co (.sl 1 fs) (lists ws):=by
 have key:∀ (i:Nat) r t,fs[i]?=some r→(ws.map fun w=>[ints w])[i]?=some t→∃ w,t=[ints w]∧(r=[ints w]∨(r=[.aB]∧w=[])):=fun i r t hr ht=>by
  rw[bLN] at ht
  cases hw:ws[i]? with
  | none=>rw[hw] at ht; cases ht
  | some w =>
   rw[hw] at ht
   cases ht
   exact⟨w,rfl,h.2 i r w hr hw⟩
 refine .sl (by rw[bKI,h.1]) (fun i r t hr ht=>?_) (fun i j p q hp hq=>?_)
 ·obtain⟨w,rfl,h1 | ⟨h1,-⟩⟩:=key i r t hr ht<;>subst h1<;>rfl
 ·unfold at2 at hp hq
  cases hr:fs[i]? with
  | none=>rw[hr] at hp; cases hp
  | some r =>
   cases ht:(ws.map fun w=>[ints w])[i]? with
   | none=>rw[ht] at hq; cases hq
   | some t =>
    rw[hr] at hp
    rw[ht] at hq
    obtain⟨w,rfl,h1⟩:=key i r t hr ht
    rcases h1 with rfl | ⟨rfl,rfl⟩
    ·have:some p=some q:=hp.symm.trans hq
     cases this
     exact .refl _
    ·cases j with
     | zero=>cases hp; cases hq; exact .nil 1
     | succ j=>cases hp
end
def Fx (u:PV):Prop:=∀ q s rs,PV.frz q s rs u=u
theorem Fx.int (k:IntKind) (n:Int):Fx (.int k n):=fun _ _ _=>rfl
theorem Fx.bool (b:Bool):Fx (.bool b):=fun _ _ _=>rfl
theorem Fx.sl (n:Nat) (r:List (List PV)):Fx (.sl n r):=fun _ _ _=>rfl
theorem Fx.aB:Fx .aB:=fun _ _ _=>rfl
theorem Fx.ptr (q z i c:Nat):Fx (.ptr q z i c):=fun _ _ _=>rfl
theorem Fx.bH (c:List PV):Fx (.bH c):=fun _ _ _=>rfl
theorem bJ.dE {H:PH} {s:Nat} {v:PV} {rows:List (List PV)} (h:bJ H s v rows) (q z:Nat) (rs:List (List PV)):PV.frz q z rs v=PV.dE q z rs v:=by
 rcases h with ⟨-,rfl⟩ | ⟨p,rs',rfl,-⟩<;>rfl
def aMO (φ:PV→PV) (F:PF):PF:=fun i=>(F i).map φ
theorem TB (φ:PV→PV) (F:PF) (i:Nat):aMO φ F i=(F i).map φ:=rfl
theorem XW:∀ (ps:WPs) {H:PH} {B:List BX} {vo:PV} (fs:List (List PV)) (ws0:List (List Int)),oR fs ws0→aS H B ((vo,1,fs++fR ps)::mA ps)→(∀ b∈B,∀ q s rs,cS.frz q s rs b.2=b.2) →
  ∃ (φ:PV→PV) (H1:PH),Co (φ vo) (lists (ws0++wls ps))∧(∀ u,Fx u→φ u=u)∧(∀ e:Int,φ (.tup [vo,.int .i64 e])=.tup [φ vo,.int .i64 e])∧aS H1 B []∧(∀ F:PF,iY F H (aMO φ F) H1)∧∀ o,(H o=none∨vo.oid=some o∨∃ p∈ps,p.1.oid=some o)→H1 o=none
 | [],H,B,vo,fs,ws0,hs,h,hB=>by
  have e0:fs++fR []=fs:=bMF fs
  have e1:ws0++wls []=ws0:=bMF ws0
  rw[e0] at h
  rw[e1]
  rcases h.own 0 rfl with ⟨h1,rfl⟩ | ⟨q,rs,rfl,_⟩
  ·refine⟨id,H,?_,fun _ _=>rfl,fun _=>rfl,h.a1J 0,fun F=>?_,fun o ho=>?_⟩
   ·subst h1
    have:ws0=[]:=List.length_eq_zero_iff.1 hs.1.symm
    subst this
    exact .nil 1
   ·have:aMO id F=F:=funext fun i=>by rw[TB]; simp
    rw[this]
    exact .refl _ _
   ·rcases ho with ho | ho | ⟨p,hp,-⟩
    ·exact ho
    ·cases ho
    ·cases hp
  ·obtain⟨rs,z1,z2,z3,z4,z5⟩:=h.frz 0 rfl
   refine⟨PV.frz q 1 rs,H.frz q 1 rs,?_,fun u hu=>hu _ _ _,fun e=>?_,?_,fun F=>.step q z1 (.refl _ _),fun o ho=>?_⟩
   ·rw[z3]; exact hs.co
   ·show PV.tup [PV.dE q 1 rs (.osl q 1 0 fs.length),.int .i64 e]=_
    rw[z2,z3]
   ·have eB:(B.map fun b=>(b.1,b.2.frz q 1 rs))=B:=by
     conv=>rhs; rw[← List.map_id B]
     refine List.map_congr_left fun b hb=>?_
     rw[hB b hb q 1 rs]; rfl
    rw[eB] at z5
    exact z5
   ·rw[vW]
    rcases ho with ho | ho | ⟨p,hp,-⟩
    ·rw[ho]; split<;>rfl
    ·have:q=o:=by injection ho
     rw[if_pos this.symm]
    ·cases hp
 | (v,w)::ps,H,B,vo,fs,ws0,hs,h,hB=>by
  have eo:∀ u:PV,fs++[[u]]++fR ps=fs++[u]::fR ps:=fun u=>by rw[bLI]; rfl
  have ew:ws0++[w]++wls ps=ws0++wls ((v,w)::ps):=by rw[bLI]; rfl
  have ho:bJ H 1 v (bE w):=h.own 1 rfl
  rcases ho with ⟨h1,rfl⟩ | ⟨q,rs,rfl,_⟩
  ·have hw:w=[]:=List.map_eq_nil_iff.1 h1
   have h2:=h.a1J 1
   obtain⟨φ,H1,k1,k2,k3,k4,k5,k6⟩:=XW ps (fs++[[.aB]]) (ws0++[w]) (hs.snoc (.inr ⟨rfl,hw⟩)) (by rw[eo]; exact h2) hB
   rw[ew] at k1
   refine⟨φ,H1,k1,k2,k3,k4,k5,fun o ho=>k6 o ?_⟩
   rcases ho with ho | ho | ⟨p,hp,ho⟩
   ·exact .inl ho
   ·exact .inr (.inl ho)
   ·rcases bKY.1 hp with rfl | hp
    ·cases ho
    ·exact .inr (.inr ⟨p,hp,ho⟩)
  ·obtain⟨rs,z1,z2,z3,z4,z5⟩:=h.frz 1 rfl
   have eB:(B.map fun b=>(b.1,b.2.frz q 1 rs))=B:=by
    conv=>rhs; rw[← List.map_id B]
    refine List.map_congr_left fun b hb=>?_
    rw[hB b hb q 1 rs]; rfl
   have y0:PV.dE q 1 rs vo=vo:=z4 0 _ (by decide) rfl
   have y0':PV.frz q 1 rs vo=vo:=((h.own 0 rfl).dE q 1 rs).trans y0
   have yp:∀ p∈ps,PV.dE q 1 rs p.1=p.1:=fun p hp=>by
    obtain⟨j,hj⟩:=List.mem_iff_getElem?.1 hp
    exact z4 (j+2) (p.1,1,bE p.2) Om (alQ hj)
   have er:(fs++fR ((.osl q 1 0 (bE w).length,w)::ps)).map (fun r=>r.map (PV.dE q 1 rs))=fs++[[ints w]]++fR ps:=by
    rw[bMM,hs.flat,bLI]
    congr 1
    show [PV.dE q 1 rs (.osl q 1 0 (bE w).length)]::(fR ps).map _=_
    rw[z2]
    have:(fR ps).map (fun r=>r.map (PV.dE q 1 rs))=fR ps:=by
     unfold fR
     rw[List.map_map]
     refine List.map_congr_left fun p hp=>?_
     show [PV.dE q 1 rs p.1]=_
     rw[yp p hp]
    rw[this]
    rfl
   have ei:(mA ps).map (fun x=>(x.1,x.2.1,x.2.2.map fun r=>r.map (PV.dE q 1 rs)))=mA ps:=by
    unfold mA
    rw[List.map_map]
    refine List.map_congr_left fun p _=>?_
    show (p.1,1,(bE p.2).map fun r=>r.map (PV.dE q 1 rs))=_
    rw[show (bE p.2).map (fun r=>r.map (PV.dE q 1 rs))=bE p.2 from Flat.map p.2 (fun x c hc q s rs=>by rw[bLR] at hc; subst hc; rfl) q 1 rs]
   have z6:aS (H.frz q 1 rs) B ((vo,1,fs++[[ints w]]++fR ps)::mA ps):=by
    rw[eB] at z5
    have z7:aS (H.frz q 1 rs) B ((vo,1,(fs++fR ((.osl q 1 0 (bE w).length,w)::ps)).map (fun r=>r.map (PV.dE q 1 rs)))::(mA ps).map (fun x=>(x.1,x.2.1,x.2.2.map fun r=>r.map (PV.dE q 1 rs)))):=z5
    rw[er,ei] at z7
    exact z7
   obtain⟨φ,H1,k1,k2,k3,k4,k5,k6⟩:=XW ps (fs++[[ints w]]) (ws0++[w]) (hs.snoc (.inl rfl)) z6 hB
   rw[ew] at k1
   refine⟨fun u=>φ (PV.frz q 1 rs u),H1,?_,fun u hu=>?_,fun e=>?_,k4,fun F=>.step q z1 ?_,fun o ho=>k6 o ?_⟩
   ·simp only
    rw[y0']; exact k1
   ·simp only
    rw[hu,k2 u hu]
   ·simp only
    rw[y0']
    have yt:PV.frz q 1 rs (.tup [vo,.int .i64 e])=.tup [PV.frz q 1 rs vo,.int .i64 e]:=by
     rcases h.own 0 rfl with ⟨-,e0⟩ | ⟨p,rs',e0,-⟩<;>(subst e0; rfl)
    rw[yt,y0',k3]
   ·have:aMO (fun u=>φ (PV.frz q 1 rs u)) F=aMO φ (F.frz q 1 rs):=funext fun i=>by
     rw[TB,TB,qS,Option.map_map]
     rfl
    rw[this]
    exact k5 _
   ·rw[vW]
    rcases ho with ho | ho | ⟨p,hp,ho⟩
    ·left; rw[ho]; split<;>rfl
    ·exact .inr (.inl ho)
    ·rcases bKY.1 hp with rfl | hp
     ·have:q=o:=by injection ho
      left; rw[if_pos this.symm]
     ·exact .inr (.inr ⟨p,hp,ho⟩)
theorem a7C {C:Ctx} {F:PF} {H Hs:PH} {S:Spec} {name:Nat} {D:List Nat} {vs:List PV} {v:PV} {args:List aP} {st:Bool} {d:Option Nat} {K:PF→PH→Prop} (hS:S name vs=some (D,fun G r H'=>r=v∧H'=G)) (hD:∀ o∈D,∃ x,H o=some x)
  (h:aE C name vs (H.only D) (fun r H'=>r=v∧H'=H.only D)) (ha:aP.evs F args=some vs) (hle:Hs.le H) (hk:K (F.put d v) H):dOp C Hs S st (.call name args) d K F H:=by
 refine⟨vs,D,_,ha,hS,hD,h,fun G=>⟨v,_,⟨rfl,rfl⟩,fun q y hy hn=>?_⟩,fun r H' hr _=>?_⟩
 ·rw[hy] at hn; cases hn
 ·obtain⟨rfl,rfl⟩:=hr
  rw[PH.OM _ (DG H D)]
  exact⟨hle,hk⟩
theorem bJ.lenOf {H:PH} {v:PV} {rows:List (List PV)} {s:Nat} (h:bJ H s v rows):PV.uB v=some (.int .i64 (rows.length:Nat)):=by
 rcases h with ⟨rfl,rfl⟩ | ⟨q,rs,rfl,-⟩<;>rfl
theorem RD {C:Ctx} {F:PF} {H:PH} {name:Nat} {d:Option Nat} {v x u:PV} {l:List Int} {args:List aP} {K:PF→PH→Prop} (hv:Plain u) (h:aE C name [ints l,x] .nil (aD u)) (hx:Fx x) (hO:bJ H 1 v (bE l)) (ha:aP.evs F args=some [v,x])
  (hk:K (F.put d u) H):fU C name args [] d K F H:=by
 rcases hO with ⟨h0,rfl⟩ | ⟨q,rs,rfl,h1,h2,h3⟩
 ·have:l=[]:=List.map_eq_nil_iff.1 h0
  subst this
  exact aA (h.args (.axT (.nil 1) (.axT (.refl x) .bsM))) ha hk
 ·refine CA hv ?_ h1 ha hk
  rw[bMG,bMG,List.map_nil,hx,nT h2,h3]
  exact h
def aeK (l:List Int):Bool:=decide l.Nodup
theorem aPD (l:List Int) (x:Int):aeK (l++[x])=(aeK l&&!l.contains x):=by
 unfold aeK
 rw[Bool.eq_iff_iff,decide_eq_true_iff,bLF,decide_eq_true_iff,bMT]
 constructor
 ·rintro⟨h1,-,h3⟩
  refine⟨h1,?_⟩
  cases hc:l.contains x with
  | false=>rfl
  | true=>exact absurd rfl (h3 x (bMV.1 hc) x (by simp))
 ·rintro⟨h1,h2⟩
  refine⟨h1,by simp,fun a ha b hb=>?_⟩
  rw[bLR] at hb
  subst hb
  rintro rfl
  rw[bMV.2 ha] at h2
  cases h2
def LD (H:PH) (l:List Int) (r:PV) (H':PH):Prop:=∃ p,H p=none∧r=.osl p 1 0 l.length∧H'=H.set p (.rows 1 (bE l))
theorem a9W {C:Ctx} (H:PH) (q:Nat) (rs:List (List PV)) (l:List Int) (hq:H q=some (.rows 1 rs)) (h1:l.length≤rs.length) (h2:rs.take l.length=bE l) (hl:l.length≤1000000) :
  AU.wp C (aT OO.res (LD H l)) (PF.args [.osl q 1 0 l.length]) H:=by
 have hview:dR H 1 (.osl q 1 0 l.length)=some (bE l):=by
  have:=(show bJ H 1 (.osl q 1 0 (bE l).length) (bE l) from .inr ⟨q,rs,rfl,hq,by rw[cT]; exact h1,by rw[cT]; exact h2⟩).view
  rwa [cT] at this
 simp only[go_sem,γ,δ,ε,ζ,η,θ,ι,κ,μ,ν,ξ,ο,ρ,σ,τ,υ,reduceIte,reduceCtorEq,AU,arL,arM,OO,bne_self_eq_false,arN]
 refine aQ fun o ho=>?_
 have hqo:¬ q=o:=fun e=>by rw[e,ho] at hq; cases hq
 have hne:¬ o=q:=fun e=>hqo e.symm
 have hview2:dR (H.set o (.rows 1 [])) 1 (.osl q 1 0 l.length)=some (bE l):=atT (PH.wX _ ho) hview
 simp only[go_sem,γ,δ,ε,ζ,η,θ,ι,κ,μ,ν,ξ,ο,ρ,σ,τ,υ,reduceIte,reduceCtorEq]
 refine xT hview2 (by unfold roomFor; rw[cT]; simp only[maxLen]; omega) (by rw[eS]) (bKK _) ?_ ?_
 ·simp only[go_sem,γ,δ,ε,ζ,η,θ,ι,κ,μ,ν,ξ,ο,ρ,σ,τ,υ,reduceIte,reduceCtorEq,cT,bLJ]
  refine aX (.inr rfl) (H.set o (.rows 1 (bE l))) Ev ?_ ⟨o,ho,rfl,rfl⟩
  rw[bMY]
  exact PH.le_refl
 ·intro p hp
  rw[bL] at hp
  split at hp
  ·cases hp
  ·rename_i hpo
   simp only[go_sem,γ,δ,ε,ζ,η,θ,ι,κ,μ,ν,ξ,ο,ρ,σ,τ,υ,reduceIte,reduceCtorEq,cT,bLJ]
   refine aX (.inr rfl) (H.set p (.rows 1 (bE l))) Ev ?_ ⟨p,hp,rfl,rfl⟩
   intro a x ha
   rw[bL] at ha ⊢
   split at ha
   ·rename_i e; rw[if_pos e]; exact ha
   ·rename_i e
    rw[if_neg e]
    exact PH.wX _ ho a x ha
theorem beP {C:Ctx} {F:PF} {H Hs:PH} {S:Spec} {name:Nat} {D:List Nat} {vs:List PV} {l:List Int} {args:List aP} {st:Bool} {d:Option Nat} {K:PF→PH→Prop} (hS:S name vs=some (D,fun G r H'=>LD G l r H')) (hD:∀ o∈D,∃ x,H o=some x)
  (h:aE C name vs (H.only D) (LD (H.only D) l)) (ha:aP.evs F args=some vs) (hle:Hs.le H) (hk:∀ p,H p=none→K (F.put d (.osl p 1 0 l.length)) (H.set p (.rows 1 (bE l)))):dOp C Hs S st (.call name args) d K F H:=by
 refine⟨vs,D,_,ha,hS,hD,h,fun G=>?_,fun r H' hr hap=>?_⟩
 ·obtain⟨p,hp,hpD⟩:=G.MN D
  refine⟨_,_,⟨p,by rw[mM,if_neg hpD],rfl,rfl⟩,fun q y hy hn=>?_⟩
  rw[bL] at hy
  split at hy
  ·rename_i e; rw[e]; exact hp
  ·rw[hy] at hn; cases hn
 ·obtain⟨p,hp,rfl,rfl⟩:=hr
  have hpH:H p=none:=hap p _ (by rw[eS]) hp
  have e:H.eJ (H.only D) ((H.only D).set p (.rows 1 (bE l)))=H.set p (.rows 1 (bE l)):=PH.ext fun q=>by
   show (H.eJ (H.only D) ((H.only D).set p (.rows 1 (bE l)))) q=(H.set p (.rows 1 (bE l))) q
   rw[lI,bL,bL]
   by_cases c:q=p
   ·rw[if_pos c,if_pos c]
   ·rw[if_neg c,if_neg c]
    cases hq:(H.only D) q with
    | none=>rfl
    | some x=>exact (DG H D q x hq).symm
  rw[e]
  exact⟨PH.le_trans hle (PH.wX _ hpH),hk p hpH⟩
theorem aS.bsL {H:PH} {B:List BX} {vo:PV} {ps:WPs} (h:aS H B (jL vo ps)) {i:Nat} (hi:i<ps.length) :
  ∃ qo rs,vo=.osl qo 1 0 ps.length∧H qo=some (.rows 1 rs)∧rs[i]?=some [ps[i].1]∧i<rs.length:=by
 rcases h.outer with ⟨h1,-⟩ | ⟨q,rs,rfl,h1,h2,h3⟩
 ·have:(fR ps).length=0:=by rw[h1]; rfl
  rw[tK] at this
  omega
 ·rw[tK] at h2 h3
  refine⟨q,rs,by rw[tK],h1,?_,by omega⟩
  have:=aHN (ps:=ps) (i:=i) (v:=ps[i].1) (w:=ps[i].2) (by rw[bKU hi])
  rw[← h3,bNZ hi] at this
  exact this
theorem aS.boI {H:PH} {B:List BX} {vo:PV} {ps:WPs} (h:aS H B (jL vo ps)):PV.uB vo=some (.int .i64 (ps.length:Nat)):=by
 have:=h.outer.lenOf
 rwa [tK] at this
theorem aS.aTH {H:PH} {B:List BX} {vo:PV} {ps:WPs} (h:aS H B (jL vo ps)) {i:Nat} (hi:i<ps.length):bJ H 1 ps[i].1 (bE ps[i].2):=h.inner (by rw[bKU hi])
theorem aZK (ps:WPs):(wls ps).length=ps.length:=bKI _
def a0H (ws:List (List Int)) (e:Int) (r:PV) (H:PH):Prop:=∃ vo ps,r=.tup [vo,.int .i64 e]∧aS H [] (jL vo ps)∧wls ps=ws
theorem afB {res:List dW} {F:PF} {H:PH} {vo:PV} {ps:WPs} {ws:List (List Int)} {c:Int} {e:lO} (he:e=.normal∨e=.ret) (h:dW.evs F H res=some [vo,.int .i64 c]) (hH:aS H [] (jL vo ps)) (hw:wls ps=ws):aT res (a0H ws c) e F H :=
 aX he H h PH.le_refl ⟨vo,ps,rfl,hH,hw⟩
def wwS (q:Nat) (l:List Int) (b:Bool):Spec:=fun name vs=>match name,vs with
 | 277,_=>some ([q],fun G r H'=>LD G l r H')
 | 251,[_,_,_,.osl p _ _ _]=>some ([p],fun G r H'=>r=.bool b∧H'=G)
 | _,_=>none
theorem a8M {C:Ctx} {H:PH} {name:Nat} {pre:List PV} {v u:PV} {l:List Int} (hv:Plain u) (hp:∀ x∈pre,Fx x) (hO:bJ H 1 v (bE l)) (hne:l≠[]) (h:aE C name (pre++[ints l]) .nil (aD u)) :
  ∃ q,v=.osl q 1 0 l.length∧(∃ x,H q=some x)∧aE C name (pre++[v]) (H.only [q]) (fun r H'=>r=u∧H'=H.only [q]):=by
 rcases hO with ⟨h0,-⟩ | ⟨q,rs,rfl,h1,h2,h3⟩
 ·exact absurd (List.map_eq_nil_iff.1 h0) hne
 ·rw[cT] at h2 h3 ⊢
  refine⟨q,rfl,⟨_,h1⟩,?_⟩
  rw[YI h1]
  refine aE.bgO hv ?_
  have e:pre.map (PV.frz q 1 rs)=pre:=by
   conv=>rhs; rw[← List.map_id pre]
   exact List.map_congr_left fun x hx=>hp x hx q 1 rs
  rw[bMM,e,bMG,List.map_nil,nT h2,h3]
  exact h
theorem bnN {α:Type} (L:List α) (x:α) (n:Nat) (h:L.length=n):(L++[x])[n]?=some x:=by
 subst h; simp
theorem yP (vo:PV) (ps:WPs):(jL vo ps).length=ps.length+1:=by unfold jL mA; simp
structure buS (C:Ctx):Prop extends RZ C 250 251 where
 check:∀ (f:aH) (now:List (List Int)) (r:Int),f.Ok→eX now→aE C 262 [.agg f.cells,lay now,.int .i64 r] .nil (aD (.int .i64 (jG f now r)))
 clone:∀ (H:PH) (q:Nat) (rs:List (List PV)) (l:List Int),H q=some (.rows 1 rs)→l.length≤rs.length→rs.take l.length=bE l→l.length≤1000000→aE C 277 [.osl q 1 0 l.length] H (LD H l)
structure a0K (f:aH) (now:List (List Int)) (r:Int) (d:Nat) (ps:WPs):Prop where
 eq:wls ps=nL f now r d
 num:ps.length≤d
 len:∀ i (h:i<ps.length),1≤(ps[i].2).length∧(ps[i].2).length≤d
theorem a0K.of {f:aH} {now:List (List Int)} {r:Int} (ha:mH f now r=true) {d:Nat} (hd:d≤f.bIE.length) {ps:WPs} (h:wls ps=nL f now r d):a0K f now r d ps:=by
 have k:=tQ ha d hd
 rw[← h] at k
 have h1:∀ i (h:i<ps.length),ps[i].2∈wls ps:=fun i hi=>bLP.2 ⟨ps[i],bKM hi,rfl⟩
 have ne:∀ l∈wls ps,1≤l.length:=fun l hl=>by
  have:=k.ok l hl
  unfold jJ at this
  cases l with
  | nil=>cases this
  | cons x xs=>rw[bLX]; omega
 refine⟨h,?_,fun i hi=>⟨ne _ (h1 i hi),?_⟩⟩
 ·have h2:(wls ps).length≤(wls ps).flatten.length:=by
   generalize wls ps=w at ne
   induction w with
   | nil=>exact bKK _
   | cons l w ih =>
    have:=ih fun x hx=>ne x (List.mem_cons_of_mem _ hx)
    have:=ne l (by simp)
    rw[List.flatten_cons,bKQ,bLX]
    omega
  rw[aZK,k.len] at h2
  exact h2
 ·have:=(List.sublist_flatten_of_mem (h1 i hi)).length_le
  rw[k.len] at this
  exact this
theorem bhO {f:aH} {now:List (List Int)} {r:Int} {ps:WPs} {d i:Nat} (hi:i<ps.length) (hno:∀ j (h:j<ps.length),j<i→eY f now r (ps[j].2++[(d:Int)])=false) (hyes:eY f now r (ps[i].2++[(d:Int)])=true) (v:PV) :
  OX f now r (wls ps) d=wls (ps.set i (v,ps[i].2++[(d:Int)])):=by
 have e:(wls ps).findIdx? (fun l=>eY f now r (l++[(d:Int)]))=some i:=by
  rw[List.findIdx?_eq_some_iff_getElem]
  refine⟨by rw[aZK]; exact hi,by simpa [wls] using hyes,fun j hj=>?_⟩
  have:=hno j Om hj
  simpa [wls] using this
 unfold OX
 rw[e]
 simp only
 unfold wls
 rw[List.map_set,bLC,bLN,bKU hi]
 rfl
theorem baE {f:aH} {now:List (List Int)} {r:Int} {ps:WPs} {d:Nat} (hno:∀ j (h:j<ps.length),eY f now r (ps[j].2++[(d:Int)])=false) :
  OX f now r (wls ps) d=wls ps++[[(d:Int)]]:=by
 have e:(wls ps).findIdx? (fun l=>eY f now r (l++[(d:Int)]))=none:=by
  rw[List.findIdx?_eq_none_iff]
  intro l hl
  obtain⟨p,hp,rfl⟩:=bLP.1 hl
  obtain⟨j,hj,rfl⟩:=bMP hp
  rw[hno j hj]
 unfold OX
 rw[e]
theorem bdQ {C:Ctx} (Lb:buS C) (f:aH) (hf:f.Ok) (now:List (List Int)) (hl:eX now) (r:Int) :
  CD.wp C (aT RG.res (a0H (fT f now r) (jG f now r))) (PF.args [.agg f.cells,lay now,.int .i64 r]) .nil:=by
 have hB:fT f now r=if jG f now r=0 then nL f now r f.bIE.length else []:=rfl
 simp only[go_sem,γ,δ,ε,ζ,η,θ,ι,κ,μ,ν,ξ,ο,ρ,σ,τ,υ,reduceIte,reduceCtorEq,CD,awA,awB,RG]
 refine aA (Lb.check f now r hf hl) Ev ?_
 by_cases c:jG f now r≠0
 ·rw[if_neg c] at hB
  simp only[go_sem,γ,δ,ε,ζ,η,θ,ι,κ,μ,ν,ξ,ο,ρ,σ,τ,υ,reduceIte,reduceCtorEq,RH,cQ c,awC]
  exact afB (.inr rfl) Sq (aS.bkZ aS.nil) hB.symm
 have c:jG f now r=0:=Decidable.not_not.1 c
 obtain⟨hu,ha⟩:=yC c
 rw[if_pos c] at hB
 rw[hB,c]
 have hV:=VF.of (jI hu).1
 have hd:=hV.small.bIE
 generalize hn:f.bIE.length=n at *
 simp only[go_sem,γ,δ,ε,ζ,η,θ,ι,κ,μ,ν,ξ,ο,ρ,σ,τ,υ,reduceIte,reduceCtorEq,RH,cA (show (0:Int)=0 from rfl),awD,awE,bKI,hn]
 refine wp_loop (α:=Nat × PV × WPs × PH) (fun s=>((((((PF.nil.set 1 (lay now)).set 2 (.int .i64 r)).set 3 (.bH f.cells)).set 9 (s.2.1)).set 22 (.int .i64 n)).set 23 (.int .i64 s.1))) (fun s=>s.2.2.2) (fun s=>s.1≤n∧a0K f now r s.1 s.2.2.1∧aS s.2.2.2 [] (jL s.2.1 s.2.2.1)) (fun s=>n-s.1) (0,.aB,[],.nil)
  ⟨bKT _,.of ha (bKT _) rfl,aS.bkZ aS.nil⟩ Lq PH.le_refl ?_
 rintro⟨d,vo,ps,H⟩ ⟨hdn,hw,hH⟩
 simp only at hdn hw hH ⊢
 simp only[go_sem,γ,δ,ε,ζ,η,θ,ι,κ,μ,ν,ξ,ο,ρ,σ,τ,υ,reduceIte,reduceCtorEq,ajD,awF]
 by_cases hlt:d<n
 ·have bIL:(d:Int)<(n:Nat):=by omega
  have hnl:=hH.boI
  have hnum:=hw.num
  simp only[go_sem,γ,δ,ε,ζ,η,θ,ι,κ,μ,ν,ξ,ο,ρ,σ,τ,υ,reduceIte,reduceCtorEq,bIL,awG,awH,hnl]
  refine wp_loop (α:=Nat × PH) (fun s=>((((((((((PF.nil.set 1 (lay now)).set 2 (.int .i64 r)).set 3 (.bH f.cells)).set 9 (vo)).set 10 (.int .i64 d)).set 22 (.int .i64 n)).set 23 (.int .i64 d)).set 26 (vo)).set 27 (.int .i64 (ps.length:Nat))).set 28 (.int .i64 s.1))) (fun s=>s.2) (fun s=>s.1≤ps.length∧(∀ j (h:j<ps.length),j<s.1→eY f now r (ps[j].2++[(d:Int)])=false)∧aS s.2 [] (jL vo ps)) (fun s=>ps.length-s.1) (0,H)
   ⟨bKT _,fun j _ h=>by omega,hH⟩ Lq PH.le_refl ?_
  clear hH hnl
  rintro⟨i,H⟩ ⟨hi,hno,hH⟩
  simp only at hi hno hH ⊢
  simp only[go_sem,γ,δ,ε,ζ,η,θ,ι,κ,μ,ν,ξ,ο,ρ,σ,τ,υ,reduceIte,reduceCtorEq,ajC,awI]
  by_cases ilt:i<ps.length
  ·have ilt':(i:Int)<(ps.length:Nat):=by omega
   obtain⟨qo,rs,rfl,b1,b2,b3⟩:=hH.bsL ilt
   obtain⟨q,hq⟩:=(hH.aTH ilt).one (by rw[cT]; exact (hw.len i ilt).1)
   have hlen:=hw.len i ilt
   rw[cT] at hq
   have hO:=hH.aTH ilt
   have bKB:=hH.inner (i:=i) (v:=ps[i].1) (w:=ps[i].2) (by rw[bKU ilt])
   have hhit:=bhO (f:=f) (now:=now) (r:=r) (d:=d) ilt hno
   have bJG:eY f now r (ps[i].2++[(d:Int)])=false→∀ j (h:j<ps.length),j<i+1→eY f now r (ps[j].2++[(d:Int)])=false:=fun h j hj hji=>by
    by_cases e:j=i
    ·subst e; exact h
    ·exact hno j hj Om
   have hpi:ps[i]?=some (ps[i].1,ps[i].2):=by rw[bKU ilt]
   generalize ps[i].2=w at *
   generalize ps[i].1=v at *
   subst hq
   rcases hO with ⟨-,e⟩ | ⟨q',rs',e,o1,o2,o3⟩
   ·cases e
   rw[cT] at e o2 o3
   cases e
   have cc:=Lb.clone (H.only [q]) q rs' w (by rw[mM,if_pos (by simp)]; exact o1) o2 o3 Om
   simp only[go_sem,γ,δ,ε,ζ,η,θ,ι,κ,μ,ν,ξ,ο,ρ,σ,τ,υ,reduceIte,reduceCtorEq,ilt',ajE,b1,b2,b3,bLJ]
   refine bS .nil (wwS q w (eY f now r (w++[(d:Int)]))) PH.nil_le ?_
   simp only[go_sem,γ,δ,ε,ζ,η,θ,ι,κ,μ,ν,ξ,ο,ρ,σ,τ,υ,reduceIte,reduceCtorEq,ajF]
   refine beP (l:=w) (D:=[q]) rfl (fun o ho=>by rw[bLR] at ho; subst ho; exact⟨_,o1⟩) cc Sq PH.nil_le fun p hp=>?_
   have h2:=hH.aGJ (s:=1) (rows:=bE w) hp
   rw[cT] at h2
   simp only[go_sem,γ,δ,ε,ζ,η,θ,ι,κ,μ,ν,ξ,ο,ρ,σ,τ,υ,reduceIte,reduceCtorEq]
   refine h2.append (ps.length+1) (rows:=bE w) (src:=[[.int .i64 d]]) (bnN _ _ _ (yP _ _)) Sq (by unfold roomFor; rw[cT]; simp only[bKX,maxLen]; omega) fun v' H' h3 hv'=>?_
   have hsrc:bE w++[[.int .i64 d]]=bE (w++[(d:Int)]):=by rw[wW]; rfl
   rw[hsrc] at h3
   have hO3:bJ H' 1 v' (bE (w++[(d:Int)])):=h3.own (ps.length+1) (by rw[List.getElem?_set_self (by rw[bKQ,yP]; simp)])
   have h4:aS H' [] (jL (.osl qo 1 0 ps.length) ps):=by
    have:=h3
    rw[bNX _ _ (by rw[yP]; exact bKK _),yP,bNG] at this
    exact this.sub (bMK.refl _) (List.sublist_append_left ..)
   obtain⟨p',rfl,hx,bJL⟩:=a8M (C:=C) (name:=251) (pre:=[.agg f.cells,lay now,.int .i64 r]) (u:=.bool (eY f now r (w++[(d:Int)]))) (.bool _) (fun x hx=>by
    simp only[bKY,bLZ,or_false] at hx
    rcases hx with rfl | rfl | rfl
    ·exact fun _ _ _=>rfl
    ·exact .sl _ _
    ·exact .int _ _) hO3 (by simp) (Lb.fits f now r (w++[(d:Int)]) hu hl (by rw[bKQ,bKX]; omega))
   refine⟨PH.nil_le,?_⟩
   refine a7C (D:=[p']) rfl (fun o ho=>by rw[bLR] at ho; subst ho; exact hx) bJL (by simp only[go_sem,γ,δ,ε,ζ,η,θ,ι,κ,μ,ν,ξ,ο,ρ,σ,τ,υ,reduceIte,reduceCtorEq]; rfl) PH.nil_le ?_
   cases bJT:eY f now r (w++[(d:Int)]) with
   | true =>
    have hw2:wls (ps.set i (PV.aB,w++[(d:Int)]))=nL f now r (d+1):=by
     rw[← hhit bJT .aB,hw.eq]; rfl
    simp only[go_sem,γ,δ,ε,ζ,η,θ,ι,κ,μ,ν,ξ,ο,ρ,σ,τ,υ,reduceIte,reduceCtorEq,ajG]
    refine h4.bwI (src:=[(d:Int)]) hpi (by simp only[go_sem,γ,δ,ε,ζ,η,θ,ι,κ,μ,ν,ξ,ο,ρ,σ,τ,υ,reduceIte,reduceCtorEq]; rfl) (by unfold roomFor; simp only[bKX,maxLen]; omega) (by simp) fun q2 H2 h5=>?_
    obtain⟨rs2,e1,e2,e3,h6⟩:=h5.btH
    have il2:i<rs2.length:=by omega
    have hat2:rs2[i]?=some [.osl q 1 0 w.length]:=by
     have:=aHN hpi
     rw[← e3,bNZ ilt] at this
     exact this
    simp only[go_sem,γ,δ,ε,ζ,η,θ,ι,κ,μ,ν,ξ,ο,ρ,σ,τ,υ,reduceIte,reduceCtorEq,e1,il2,hat2,ilt',bLJ,JQ,wZz d]
    refine aI (d+1,PV.osl qo 1 0 ps.length,ps.set i (PV.osl q2 1 0 (w++[(d:Int)]).length,w++[(d:Int)]),H2.set qo (.rows 1 (rs2.set i [.osl q2 1 0 (w++[(d:Int)]).length]))) ⟨hlt,.of ha Om ?_,?_⟩ (by simp only; omega) Lq (by simp only; exact PH.le_refl)
    ·rw[← hw2]
     unfold wls
     rw[List.map_set,List.map_set]
    ·simp only
     exact h6
   | false =>
    simp only[go_sem,γ,δ,ε,ζ,η,θ,ι,κ,μ,ν,ξ,ο,ρ,σ,τ,υ,reduceIte,reduceCtorEq,ajH,wZz i]
    exact aI (i+1,H') ⟨ilt,bJG bJT,h4⟩ (by simp only; omega) Lq PH.le_refl
  ·have ilt':¬ (i:Int)<(ps.length:Nat):=by omega
   have:i=ps.length:=by omega
   subst this
   have hmiss:=baE (f:=f) (now:=now) (r:=r) (d:=d) (ps:=ps) fun j hj=>hno j hj hj
   simp only[go_sem,γ,δ,ε,ζ,η,θ,ι,κ,μ,ν,ξ,ο,ρ,σ,τ,υ,reduceIte,reduceCtorEq,ilt',ajI]
   refine aQ fun o ho=>?_
   have h2:=hH.aGJ (s:=1) (rows:=bE [(d:Int)]) ho
   simp only[go_sem,γ,δ,ε,ζ,η,θ,ι,κ,μ,ν,ξ,ο,ρ,σ,τ,υ,reduceIte,reduceCtorEq]
   refine h2.append 0 (rows:=fR ps) (src:=[[.osl o 1 0 1]]) rfl Sq (by unfold roomFor; rw[tK]; simp only[bKX,maxLen]; omega) fun v' H' h3 hv'=>?_
   simp only[go_sem,γ,δ,ε,ζ,η,θ,ι,κ,μ,ν,ξ,ο,ρ,σ,τ,υ,reduceIte,reduceCtorEq,JQ,wZz d]
   refine aI (d+1,v',ps++[(PV.osl o 1 0 1,[(d:Int)])],H') ⟨hlt,.of ha Om ?_,?_⟩ (by simp only; omega) Lq PH.le_refl
   ·show wls (ps++[(PV.osl o 1 0 1,[(d:Int)])])=OX f now r (nL f now r d) d
    rw[← hw.eq,hmiss]
    unfold wls
    rw[bMM]; rfl
   ·have e:jL v' (ps++[(PV.osl o 1 0 1,[(d:Int)])])=((jL vo ps)++[(PV.osl o 1 0 (bE [(d:Int)]).length,1,bE [(d:Int)])]).set 0 (v',1,fR ps++[[PV.osl o 1 0 1]]):=by
     unfold jL fR mA
     rw[bMM,bMM]
     rfl
    simp only
    rw[e]
    exact h3
 ·have bIL:¬ (d:Int)<(n:Nat):=by omega
  have:d=n:=by omega
  subst this
  simp only[go_sem,γ,δ,ε,ζ,η,θ,ι,κ,μ,ν,ξ,ο,ρ,σ,τ,υ,reduceIte,reduceCtorEq,bIL,ajJ]
  exact afB (.inr rfl) Sq hH hw.eq

def wi (x n:Int):Int:=if n<1 then 0 else if x.tmod n<0 then x.tmod n+n else x.tmod n
theorem a2P {C:Ctx} (x n:Int) (hn:InK .i64 n):wY.wp C (aT DB.res (aD (.int .i64 (wi x n)))) (PF.args [.int .i64 x,.int .i64 n]) .nil:=by
 simp only[go_sem,γ,δ,ε,ζ,η,θ,ι,κ,μ,ν,ξ,ο,ρ,σ,τ,υ,reduceIte,reduceCtorEq,wY,adM,adN,DB]
 refine kV (fun h=>?_) (fun h=>?_)
 ·simp only[go_sem,γ,δ,ε,ζ,η,θ,ι,κ,μ,ν,ξ,ο,ρ,σ,τ,υ,reduceIte,reduceCtorEq,adO]
  refine aL (.inr rfl) Ev ?_
  simp only[decide_eq_true_eq] at h
  simp[aV,wi,h]
 ·simp only[decide_eq_false_iff_not] at h
  have h0:n≠0:=by omega
  simp only[go_sem,γ,δ,ε,ζ,η,θ,ι,κ,μ,ν,ξ,ο,ρ,σ,τ,υ,reduceIte,reduceCtorEq,adP,adQ,h0]
  refine kV (fun h2=>?_) (fun h2=>?_)
  ·simp only[decide_eq_true_eq] at h2
   simp only[go_sem,γ,δ,ε,ζ,η,θ,ι,κ,μ,ν,ξ,ο,ρ,σ,τ,υ,reduceIte,reduceCtorEq,adR]
   refine aL (.inr rfl) Ev ?_
   have h3:=Int.lt_tmod_of_pos x (Om:0<n)
   have:=hn.2
   have e:IntKind.i64.max=9223372036854775807:=by decide
   simp only[aV,wi,if_neg h,if_pos h2]
   rw[wrap_i64 Om Om]
  ·simp only[decide_eq_false_iff_not] at h2
   simp only[go_sem,γ,δ,ε,ζ,η,θ,ι,κ,μ,ν,ξ,ο,ρ,σ,τ,υ,reduceIte,reduceCtorEq,adS]
   refine aL (.inr rfl) Ev ?_
   simp only[aV,wi,if_neg h,if_neg h2]
def CQ (n:Int):PV:=.agg [.int .i64 (if n<1 then 4 else 1),.int .i64 0]
theorem beJ {C:Ctx} (n:Int):EF.wp C (aT begin.res (aD (CQ n))) (PF.args [.int .i64 n]) .nil:=by
 simp only[go_sem,γ,δ,ε,ζ,η,θ,ι,κ,μ,ν,ξ,ο,ρ,σ,τ,υ,reduceIte,reduceCtorEq,EF,azF,begin]
 refine aQ fun o ho=>?_
 simp only[go_sem,γ,δ,ε,ζ,η,θ,ι,κ,μ,ν,ξ,ο,ρ,σ,τ,υ,reduceIte,reduceCtorEq,azG]
 refine kV (fun h=>?_) (fun h=>?_)
 ·simp only[go_sem,γ,δ,ε,ζ,η,θ,ι,κ,μ,ν,ξ,ο,ρ,σ,τ,υ,reduceIte,reduceCtorEq,azH]
  refine aL (.inr rfl) Ev ?_
  simp only[decide_eq_true_eq] at h
  simp[aV,CQ,h]
 ·simp only[go_sem,γ,δ,ε,ζ,η,θ,ι,κ,μ,ν,ξ,ο,ρ,σ,τ,υ,reduceIte,reduceCtorEq,azI]
  refine aL (.inr rfl) Ev ?_
  simp only[decide_eq_false_iff_not] at h
  simp[aV,CQ,h]
def mV (n p w e:Int):(Int × Int) × Int :=
 if w<0∨w≥n then ((0,0),110)
 else if p=1∧e=1 then ((2,w),0)
 else if p=2∧e=2 then ((3,w),0)
 else if p=3∧e=3∧w=IntKind.i64.wrap (n-1) then ((4,w),0)
 else if p=3∧e=3 then ((1,IntKind.i64.wrap (w+1)),0)
 else if p=3∧e=4 then ((5,w),0)
 else ((0,0),110)
def stV (x:Int × Int):PV:=.agg [.int .i64 x.1,.int .i64 x.2]
def mW (x:(Int × Int) × Int):PV:=.tup [stV x.1,.int .i64 x.2]
theorem bpO {C:Ctx} (n p w e:Int):PR.wp C (aT step.res (aD (mW (mV n p w e)))) (PF.args [.int .i64 n,.agg [.int .i64 p,.int .i64 w],.int .i64 e]) .nil:=by
 simp only[go_sem,γ,δ,ε,ζ,η,θ,ι,κ,μ,ν,ξ,ο,ρ,σ,τ,υ,reduceIte,reduceCtorEq,PR,aWO,step]
 refine aQ fun o4 ho4=>?_
 simp only[go_sem,γ,δ,ε,ζ,η,θ,ι,κ,μ,ν,ξ,ο,ρ,σ,τ,υ,reduceIte,reduceCtorEq]
 refine aQ fun o6 ho6=>?_
 have n64:¬ o6=o4:=(cX.1 ho6).1
 have n46:¬ o4=o6:=fun h=>n64 h.symm
 simp only[go_sem,γ,δ,ε,ζ,η,θ,ι,κ,μ,ν,ξ,ο,ρ,σ,τ,υ,reduceIte,reduceCtorEq,aWP,n64,n46]
 by_cases h1:w<0
 ·simp only[go_sem,γ,δ,ε,ζ,η,θ,ι,κ,μ,ν,ξ,ο,ρ,σ,τ,υ,reduceIte,reduceCtorEq,h1,anA,n64,n46]
  refine aL (.inr rfl) Ev ?_
  simp[aV,mV,h1,mW,stV]
 simp only[go_sem,γ,δ,ε,ζ,η,θ,ι,κ,μ,ν,ξ,ο,ρ,σ,τ,υ,reduceIte,reduceCtorEq,h1,n64,n46]
 by_cases h2:w≥n
 ·simp only[go_sem,γ,δ,ε,ζ,η,θ,ι,κ,μ,ν,ξ,ο,ρ,σ,τ,υ,reduceIte,reduceCtorEq,h2,anA,n64,n46]
  refine aL (.inr rfl) Ev ?_
  simp[aV,mV,h2,mW,stV]
 simp only[go_sem,γ,δ,ε,ζ,η,θ,ι,κ,μ,ν,ξ,ο,ρ,σ,τ,υ,reduceIte,reduceCtorEq,h2,aWQ,n64,n46]
 refine bS ((PH.nil.set o4 (.rows 2 [[.int .i64 p,.int .i64 w]]))) eC (PH.aK PH.nil_le (by simp only[go_sem,γ,δ,ε,ζ,η,θ,ι,κ,μ,ν,ξ,ο,ρ,σ,τ,υ,reduceIte,reduceCtorEq,n64,n46])) ?_
 simp only[go_sem,γ,δ,ε,ζ,η,θ,ι,κ,μ,ν,ξ,ο,ρ,σ,τ,υ,reduceIte,reduceCtorEq]
 refine aQ fun o21 ho21=>?_
 have n214:¬ o21=o4:=(cX.1 (cX.1 ho21).2).1
 have n421:¬ o4=o21:=fun h=>n214 h.symm
 have n216:¬ o21=o6:=(cX.1 ho21).1
 have n621:¬ o6=o21:=fun h=>n216 h.symm
 simp only[go_sem,γ,δ,ε,ζ,η,θ,ι,κ,μ,ν,ξ,ο,ρ,σ,τ,υ,reduceIte,reduceCtorEq]
 refine SD (o:=o21) (kv:=.agg [.int .i64 1,.int .i64 1]) (vv:=.int .i64 2) (key:=[.int .i64 1,.int .i64 1]) (g:=fun _=>none) Sq Sq Sq Sq Sq (by rfl) (by simp only[go_sem,γ,δ,ε,ζ,η,θ,ι,κ,μ,ν,ξ,ο,ρ,σ,τ,υ,reduceIte,reduceCtorEq,n214]) ?_
 simp only[go_sem,γ,δ,ε,ζ,η,θ,ι,κ,μ,ν,ξ,ο,ρ,σ,τ,υ,reduceIte,reduceCtorEq]
 refine SD (o:=o21) (kv:=.agg [.int .i64 2,.int .i64 2]) (vv:=.int .i64 3) (key:=[.int .i64 2,.int .i64 2]) (g:=eT.upd (fun _=>none) [.int .i64 1,.int .i64 1] (.int .i64 2)) Sq Sq Sq Sq Sq (by rfl) (by simp only[go_sem,γ,δ,ε,ζ,η,θ,ι,κ,μ,ν,ξ,ο,ρ,σ,τ,υ,reduceIte,reduceCtorEq,n214]) ?_
 simp only[go_sem,γ,δ,ε,ζ,η,θ,ι,κ,μ,ν,ξ,ο,ρ,σ,τ,υ,reduceIte,reduceCtorEq]
 refine SD (o:=o21) (kv:=.agg [.int .i64 3,.int .i64 3]) (vv:=.int .i64 1) (key:=[.int .i64 3,.int .i64 3]) (g:=eT.upd (eT.upd (fun _=>none) [.int .i64 1,.int .i64 1] (.int .i64 2)) [.int .i64 2,.int .i64 2] (.int .i64 3)) Sq Sq Sq Sq Sq (by rfl) (by simp only[go_sem,γ,δ,ε,ζ,η,θ,ι,κ,μ,ν,ξ,ο,ρ,σ,τ,υ,reduceIte,reduceCtorEq,n214]) ?_
 simp only[go_sem,γ,δ,ε,ζ,η,θ,ι,κ,μ,ν,ξ,ο,ρ,σ,τ,υ,reduceIte,reduceCtorEq]
 refine SD (o:=o21) (kv:=.agg [.int .i64 3,.int .i64 4]) (vv:=.int .i64 5) (key:=[.int .i64 3,.int .i64 4]) (g:=eT.upd (eT.upd (eT.upd (fun _=>none) [.int .i64 1,.int .i64 1] (.int .i64 2)) [.int .i64 2,.int .i64 2] (.int .i64 3)) [.int .i64 3,.int .i64 3] (.int .i64 1)) Sq Sq Sq Sq Sq (by rfl) (by simp only[go_sem,γ,δ,ε,ζ,η,θ,ι,κ,μ,ν,ξ,ο,ρ,σ,τ,υ,reduceIte,reduceCtorEq,n214]) ?_
 simp only[go_sem,γ,δ,ε,ζ,η,θ,ι,κ,μ,ν,ξ,ο,ρ,σ,τ,υ,reduceIte,reduceCtorEq]
 have hkey:∀ a b:Int,([KS.int .i64 p,KS.int .i64 e]=[KS.int .i64 a,KS.int .i64 b])=(p=a∧e=b):=fun a b=>by simp
 simp only[go_sem,γ,δ,ε,ζ,η,θ,ι,κ,μ,ν,ξ,ο,ρ,σ,τ,υ,reduceIte,reduceCtorEq,n64,n46,n214,n421,n216,n621,eT.upd,hkey]
 by_cases q4:p=3∧e=4
 ·obtain⟨rfl,rfl⟩:=q4
  simp only[go_sem,γ,δ,ε,ζ,η,θ,ι,κ,μ,ν,ξ,ο,ρ,σ,τ,υ,reduceIte,reduceCtorEq,qC,qD,qE,qF,nJ,n64,n46,n214,n421,n216,n621]
  refine aL (.inr rfl) Ev ?_
  simp[aV,mV,h1,h2,mW,stV]
 by_cases q3:p=3∧e=3
 ·obtain⟨rfl,rfl⟩:=q3
  simp only[go_sem,γ,δ,ε,ζ,η,θ,ι,κ,μ,ν,ξ,ο,ρ,σ,τ,υ,reduceIte,reduceCtorEq,qC,qD,qE,qF,nJ,n64,n46,n214,n421,n216,n621,aWR]
  by_cases hw:w=IntKind.i64.wrap (n-1)
  ·simp only[go_sem,γ,δ,ε,ζ,η,θ,ι,κ,μ,ν,ξ,ο,ρ,σ,τ,υ,reduceIte,reduceCtorEq,bT hw,aWS,qC,qD,qE,qF,nJ,n64,n46,n214,n421,n216,n621]
   refine aL (.inr rfl) Ev ?_
   simp[aV,mV,h1,h2,← hw,mW,stV]
  ·simp only[go_sem,γ,δ,ε,ζ,η,θ,ι,κ,μ,ν,ξ,ο,ρ,σ,τ,υ,reduceIte,reduceCtorEq,bF hw,aKC,qC,qD,qE,qF,nJ,n64,n46,n214,n421,n216,n621]
   refine aL (.inr rfl) Ev ?_
   simp[aV,mV,h1,h2,hw,mW,stV]
 by_cases q2:p=2∧e=2
 ·obtain⟨rfl,rfl⟩:=q2
  simp only[go_sem,γ,δ,ε,ζ,η,θ,ι,κ,μ,ν,ξ,ο,ρ,σ,τ,υ,reduceIte,reduceCtorEq,qC,qD,qE,qF,nJ,n64,n46,n214,n421,n216,n621]
  refine aL (.inr rfl) Ev ?_
  simp[aV,mV,h1,h2,mW,stV]
 by_cases q1:p=1∧e=1
 ·obtain⟨rfl,rfl⟩:=q1
  simp only[go_sem,γ,δ,ε,ζ,η,θ,ι,κ,μ,ν,ξ,ο,ρ,σ,τ,υ,reduceIte,reduceCtorEq,qC,qD,qE,qF,nJ,n64,n46,n214,n421,n216,n621]
  refine aL (.inr rfl) Ev ?_
  simp[aV,mV,h1,h2,mW,stV]
 simp only[go_sem,γ,δ,ε,ζ,η,θ,ι,κ,μ,ν,ξ,ο,ρ,σ,τ,υ,reduceIte,reduceCtorEq,q1,q2,q3,q4,qC,qD,qE,qF,nJ,n64,n46,n214,n421,n216,n621]
 refine aL (.inr rfl) Ev ?_
 have q3':¬ (p=3∧e=3∧w=IntKind.i64.wrap (n-1)):=fun h=>q3 ⟨h.1,h.2.1⟩
 simp only[aV,mV,h1,h2,q1,q2,q3,q3',q4,mW,stV,or_self,if_false]
def BO (len:Nat) (p w:Int):Nat:=if w<len then (if p=3∨p=4 then w.toNat+1 else w.toNat) else len
def QI (ws:List (List Int)) (p w:Int):List Int:=if p<1∨p>5∨w<0 then [] else RO.tF [] (ws.take (BO ws.length p w)).flatten
structure rP (C:Ctx):Prop where
 concat:∀ ws:List (List Int),ws.length≤1000000→ws.flatten.length≤1000000→aE C 178 [lists ws] .nil (WE ws.flatten)
 sort:∀ (o:Nat) (xs:List Int),xs≠[]→xs.length<4611686018427387904→aE C 180 [.osl o 1 0 xs.length] (PH.nil.set o (.rows 1 (bE xs))) (fun r H'=>r=.tup []∧H'=PH.nil.set o (.rows 1 (bE (sorted xs))))
 sort0:aE C 180 [.aB] .nil (fun r H'=>r=.tup []∧H'=.nil)
 compact:∀ (o:Nat) (xs:List Int),xs≠[]→xs.length<4611686018427387904→aE C 177 [.osl o 1 0 xs.length] (PH.nil.set o (.rows 1 (bE xs))) (fun r H'=>r=.osl o 1 0 (Lib.compact xs).length∧H'=PH.nil.set o (.rows 1 (bE (Lib.compact xs++bKL (xs.length-(Lib.compact xs).length) 0))))
 compact0:aE C 177 [.aB] .nil (fun r H'=>r=.aB∧H'=.nil)
theorem a8G (xs:List Int):(bE xs).length=xs.length:=by simp[bE]
theorem tO {C:Ctx} (L:rP C) (ws:List (List Int)) (h1:ws.length≤1000000) (h2:ws.flatten.length≤1000000) (n:Nat) (hn:n≤ws.length) (F:PF) (f0:F 0=some (lists ws)) (f5:F 5=some (.int .i64 n)) :
  aC.wp C (.seq (.region anG) (.seq (.region SZ) (.seq (.region TA) .ret))) (aT [.tmp 4] (bZ (ints (RO.tF [] (ws.take n).flatten)))) F .nil:=by
 have hr:(ws.map fun w=>[ints w]).take n=(ws.take n).map fun w=>[ints w]:=by rw[List.map_take]
 have hc1:(n:Int)≤(ws.length:Nat):=by omega
 simp only[go_sem,γ,δ,ε,ζ,η,θ,ι,κ,μ,ν,ξ,ο,ρ,σ,τ,υ,reduceIte,reduceCtorEq,anG,f0,f5,hr,hc1]
 have hfl:=SI ws n
 refine fE (L.concat (ws.take n) (by rw[bLB]; omega) Om) Ev PH.nil_le ?_
 rw[← RO.aOK]
 generalize (ws.take n).flatten=xs at hfl
 intro r H' hr ha
 rcases hr with ⟨h0,rfl,rfl⟩ | ⟨h0,o,rfl,rfl⟩
 ·subst h0
  rw[PH.kY]
  simp only[go_sem,γ,δ,ε,ζ,η,θ,ι,κ,μ,ν,ξ,ο,ρ,σ,τ,υ,reduceIte,reduceCtorEq,SZ]
  refine fE L.sort0 Ev PH.nil_le ?_
  rintro r H' ⟨rfl,rfl⟩ -
  rw[PH.kY]
  simp only[go_sem,γ,δ,ε,ζ,η,θ,ι,κ,μ,ν,ξ,ο,ρ,σ,τ,υ,reduceIte,reduceCtorEq,TA]
  refine fE L.compact0 Ev PH.nil_le ?_
  rintro r H' ⟨rfl,rfl⟩ -
  rw[PH.kY]
  simp only[go_sem,γ,δ,ε,ζ,η,θ,ι,κ,μ,ν,ξ,ο,ρ,σ,τ,υ,reduceIte,reduceCtorEq]
  have e:Lib.compact (RO.srt [])=[]:=by simp[RO.srt,Lib.compact,Lib.compactUpTo]
  rw[e]
  exact aX (vs:=[.aB]) (.inr rfl) .nil Ev PH.nil_le ⟨.nil 1,rfl⟩
 ·rw[PH.kJ]
  simp only[go_sem,γ,δ,ε,ζ,η,θ,ι,κ,μ,ν,ξ,ο,ρ,σ,τ,υ,reduceIte,reduceCtorEq,SZ]
  refine fE (L.sort o xs h0 Om) Ev PH.le_refl ?_
  rintro r H' ⟨rfl,rfl⟩ -
  rw[PH.lJ,PH.set_set]
  simp only[go_sem,γ,δ,ε,ζ,η,θ,ι,κ,μ,ν,ξ,ο,ρ,σ,τ,υ,reduceIte,reduceCtorEq,TA]
  have hsl:(sorted xs).length=xs.length:=by simp[sorted]
  have hs0:sorted xs≠[]:=by
   intro e; rw[e] at hsl; exact h0 (bNY hsl.symm)
  refine fE (L.compact o (sorted xs) hs0 Om) (by rw[hsl]; simp only[go_sem,γ,δ,ε,ζ,η,θ,ι,κ,μ,ν,ξ,ο,ρ,σ,τ,υ,reduceIte,reduceCtorEq]) PH.le_refl ?_
  rintro r H' ⟨rfl,rfl⟩ -
  rw[PH.lJ,PH.set_set]
  simp only[go_sem,γ,δ,ε,ζ,η,θ,ι,κ,μ,ν,ξ,ο,ρ,σ,τ,υ,reduceIte,reduceCtorEq]
  refine aJB (o:=o) (s:=1) (k:=(Lib.compact (sorted xs)).length) (rs:=bE (Lib.compact (sorted xs)++bKL ((sorted xs).length-(Lib.compact (sorted xs)).length) 0)) (.inr rfl) Sq Sq (by rw[a8G,bKQ]; omega) ⟨?_,rfl⟩
  have e:(bE (Lib.compact (sorted xs)++bKL ((sorted xs).length-(Lib.compact (sorted xs)).length) 0)).take (Lib.compact (sorted xs)).length=bE (Lib.compact (sorted xs)):=by
   unfold bE
   rw[bMM,List.take_append_of_le_length (by rw[bKI]; exact bKK _),bKZ (by rw[bKI]; exact bKK _)]
  rw[e]
  exact .refl _
theorem bqC {C:Ctx} (L:rP C) (ws:List (List Int)) (h1:ws.length≤1000000) (h2:ws.flatten.length≤1000000) (p w:Int) :
  QH.wp C (aT aLU.res (bZ (ints (QI ws p w)))) (PF.args [lists ws,.agg [.int .i64 p,.int .i64 w]]) .nil:=by
 simp only[go_sem,γ,δ,ε,ζ,η,θ,ι,κ,μ,ν,ξ,ο,ρ,σ,τ,υ,reduceIte,reduceCtorEq,QH,aYF,aYG,aLU]
 by_cases c1:p<1
 ·simp only[go_sem,γ,δ,ε,ζ,η,θ,ι,κ,μ,ν,ξ,ο,ρ,σ,τ,υ,reduceIte,reduceCtorEq,c1,SW]
  refine aX (.inr rfl) .nil Ev PH.nil_le ⟨?_,rfl⟩
  simp only[QI,c1,true_or,if_true]; exact .nil 1
 simp only[go_sem,γ,δ,ε,ζ,η,θ,ι,κ,μ,ν,ξ,ο,ρ,σ,τ,υ,reduceIte,reduceCtorEq,c1]
 by_cases c2:p>5
 ·simp only[go_sem,γ,δ,ε,ζ,η,θ,ι,κ,μ,ν,ξ,ο,ρ,σ,τ,υ,reduceIte,reduceCtorEq,c2,SW]
  refine aX (.inr rfl) .nil Ev PH.nil_le ⟨?_,rfl⟩
  simp only[QI,c2,true_or,or_true,if_true]; exact .nil 1
 simp only[go_sem,γ,δ,ε,ζ,η,θ,ι,κ,μ,ν,ξ,ο,ρ,σ,τ,υ,reduceIte,reduceCtorEq,c2]
 by_cases c3:w<0
 ·simp only[go_sem,γ,δ,ε,ζ,η,θ,ι,κ,μ,ν,ξ,ο,ρ,σ,τ,υ,reduceIte,reduceCtorEq,c3,SW]
  refine aX (.inr rfl) .nil Ev PH.nil_le ⟨?_,rfl⟩
  simp only[QI,c3,or_true,if_true]; exact .nil 1
 simp only[go_sem,γ,δ,ε,ζ,η,θ,ι,κ,μ,ν,ξ,ο,ρ,σ,τ,υ,reduceIte,reduceCtorEq,c3]
 have hu:QI ws p w=RO.tF [] (ws.take (BO ws.length p w)).flatten:=by
  simp only[QI,c1,c2,c3,or_self,if_false]
 rw[hu]
 by_cases c4:w<ws.length
 ·have c5:¬ (ws.length:Int)<w:=by omega
  simp only[go_sem,γ,δ,ε,ζ,η,θ,ι,κ,μ,ν,ξ,ο,ρ,σ,τ,υ,reduceIte,reduceCtorEq,SX,c5,SY,c4]
  by_cases c6:p=3
  ·subst c6
   have e:BO ws.length 3 w=w.toNat+1:=by simp[BO,c4]
   rw[e]
   simp only[go_sem,γ,δ,ε,ζ,η,θ,ι,κ,μ,ν,ξ,ο,ρ,σ,τ,υ,reduceIte,reduceCtorEq,anF]
   refine tO L ws h1 h2 _ Om _ Sq (by simp only[go_sem,γ,δ,ε,ζ,η,θ,ι,κ,μ,ν,ξ,ο,ρ,σ,τ,υ,reduceIte,reduceCtorEq]; rw[wrap_i64 Om Om]; omega)
  simp only[go_sem,γ,δ,ε,ζ,η,θ,ι,κ,μ,ν,ξ,ο,ρ,σ,τ,υ,reduceIte,reduceCtorEq,bF c6]
  by_cases c7:p=4
  ·subst c7
   have e:BO ws.length 4 w=w.toNat+1:=by simp[BO,c4]
   rw[e]
   simp only[go_sem,γ,δ,ε,ζ,η,θ,ι,κ,μ,ν,ξ,ο,ρ,σ,τ,υ,reduceIte,reduceCtorEq,anF]
   refine tO L ws h1 h2 _ Om _ Sq (by simp only[go_sem,γ,δ,ε,ζ,η,θ,ι,κ,μ,ν,ξ,ο,ρ,σ,τ,υ,reduceIte,reduceCtorEq]; rw[wrap_i64 Om Om]; omega)
  have e:BO ws.length p w=w.toNat:=by simp[BO,c4,c6,c7]
  rw[e]
  simp only[go_sem,γ,δ,ε,ζ,η,θ,ι,κ,μ,ν,ξ,ο,ρ,σ,τ,υ,reduceIte,reduceCtorEq,bF c7]
  refine tO L ws h1 h2 _ Om _ Sq (by simp only[go_sem,γ,δ,ε,ζ,η,θ,ι,κ,μ,ν,ξ,ο,ρ,σ,τ,υ,reduceIte,reduceCtorEq]; omega)
 ·have e:BO ws.length p w=ws.length:=by simp[BO,c4]
  rw[e]
  by_cases c5:(ws.length:Int)<w
  ·simp only[go_sem,γ,δ,ε,ζ,η,θ,ι,κ,μ,ν,ξ,ο,ρ,σ,τ,υ,reduceIte,reduceCtorEq,SX,c5,SY]
   refine tO L ws h1 h2 _ (bKK _) _ Sq Sq
  ·have c6:w=(ws.length:Nat):=by omega
   subst c6
   simp only[go_sem,γ,δ,ε,ζ,η,θ,ι,κ,μ,ν,ξ,ο,ρ,σ,τ,υ,reduceIte,reduceCtorEq,SX,SY]
   refine tO L ws h1 h2 _ (bKK _) _ Sq Sq
end Go.PM
