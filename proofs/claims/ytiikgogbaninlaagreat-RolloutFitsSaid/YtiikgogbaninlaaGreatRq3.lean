/-
  Texts of ours, joined: FlCode Pm33 FlW1 FlPlain FlW2 FlW3 FlW4 FlW5 FlW6 FlW7 FlW8 FlW9 ToPlain ToCode ToW1 ToW2 Pm34 ToW3 ToW4 ToW5 ToW6 ToW7 ToW8 RfPlain R17Code R11Code ToW9 ToW10 Pm35 Pm36 Pm37 R11W1 R11W2 RhW1 RfW1 R10. No condition.
-/
import Derived.Test.YtiikgogbaninlaaGreatRq1
import Derived.Test.YtiikgogbaninlaaGreatRq2

set_option linter.unusedSimpArgs false
set_option linter.unusedVariables false
open Nat renaming reduceEqDiff → γ, reduceAdd → δ, reduceSub → ε, reduceMul → ζ, reduceLT → η, reduceLeDiff → θ, reduceBEq → τ
open Int renaming reduceLT → ι, reduceLE → κ, reduceEq → μ, reduceToNat → ν, reduceAdd → ξ, reduceNeg → ο, reduceBEq → ρ, reduceBNe → σ
open List renaming reduceReplicate → υ
open List renaming length_map → bwN, range → bwO, replicate → bwP, getElem_mem → bwS, length_append → bwW, getElem?_eq_getElem → bxA, take_of_length_le → bxC, length_singleton → bxD, length_take → bxE, mem_cons → bxF, getD_eq_getElem?_getD → bxI, all_eq_true → bxL, take_length → bxM, drop_zero → bxP, append_assoc → bxU, mem_map → bxV, getElem?_map → bxW, getElem?_eq_none → bxY, getElem?_eq_some_iff → bxZ, mem_append → byA, not_mem_nil → byC, mem_range → byD, drop_eq_getElem_cons → byG, take_succ_eq_append_getElem → byH, length_drop → byI, mem_singleton → byJ, getElem_map → byO, getElem_of_mem → byP, length_cons → byQ, length_set → byR, Sublist → byT, append_nil → byU, length_nil → byV, nil_append → byW, take_append_drop → byX, getElem?_append_right → bzA, map_cons → bzB, mem_of_getElem? → bzC, map_append → bzD, nodup_append → bzE, getElem?_append_left → bzJ, cons_append → bzP, getElem?_take → bzQ, drop_of_length_le → bzU, getElem?_drop → bzV, length_replicate → bzW, eq_nil_of_length_eq_zero → bzY, set_append_right → bzZ
open Nat renaming gcd → bwQ, le_refl → bwR, mul_add → bwX, zero_le → bwZ, lt_or_ge → bxG, mul_assoc → bxH, mul_comm → bxK, add_mul → bxN, zero_add → bxO, mul_le_mul_right → bxQ, mod_eq_of_lt → bxR, mod_lt → bxX, add_zero → byB, pow_succ → byE, min_eq_left → byK, mul_le_mul_left → byM, pos_of_ne_zero → byN, add_assoc → byS, pow_pos → byY, div_lt_iff_lt_mul → bzF, eq_zero_or_pos → bzK, div_add_mod → bzR, div_eq_of_lt → bzS
open Bool renaming false_and → bwT, not_true → bwU, true_and → bwY, not_false → bxB, and_eq_true → bxJ, and_false → bxT, and_true → byL, and_assoc → bzI, false_eq_true → bzN
open Option renaming map_eq_some_iff → bwV, map_some → bxS, some → byZ, getD_some → bzG, bind_eq_some_iff → bzL, bind_some → bzX
open Array renaming replicate → byF, length_toList → bzH, getElem?_eq_getElem → bzM, getElem?_eq_some_iff → bzT
open Int renaming toNat_natCast → bzO
namespace Go.PM
open Go
def nA:Rg:=[iT 2 false]
def nB:Rg:=[iM 3 0,iA 4 (.bin .geq (Tm 3) (.const (.int .u8 97))),iM 5 4,gM 6 0 5 true,iG 7 (.bin .leq (Tm 6) (.const (.int .u8 122))) 5 true,iP 8 5 7,iM 9 8,gM 10 0 9 false,iG 11 (.bin .geq (Tm 10) (.const (.int .u8 65))) 9 false,gM 12 11 9 false,gM 13 0 12 true,iG 14 (.bin .leq (Tm 13) (.const (.int .u8 90))) 12 true,iG 15 (.pick (Tm 12) (Tm 14) (.const (.bool false))) 9 false,iQ 16 9 15,iM 2 16]
def jO:aB:=(sq nA (sq nB .ret))
def aUO:List Nat:=[]
def uN:aW:=⟨1,17,jO,[.tmp 2]⟩
def xD:Rg:=[iT 2 false]
def xE:Rg:=[iM 3 0,iA 4 (.bin .geq (Tm 3) (.const (.int .u8 48))),iM 5 4,gM 6 0 5 true,iG 7 (.bin .leq (Tm 6) (.const (.int .u8 57))) 5 true,iP 8 5 7,iM 2 8]
def nT:aB:=(sq xD (sq xE .ret))
def aYZ:List Nat:=[]
def BC:aW:=⟨1,9,nT,[.tmp 2]⟩
def alF:Rg:=[iT 2 false]
def alG:Rg:=[iM 3 0,iK 4 126 3,iM 5 4,gM 6 0 5 false,gK 7 124 6 5 false,iQ 8 5 7,iM 9 8,gM 10 0 9 false,iG 11 (.bin .eql (Tm 10) (.const (.int .u8 45))) 9 false,iQ 12 9 11,iM 13 12,gM 14 0 13 false,iG 15 (.bin .eql (Tm 14) (.const (.int .u8 46))) 13 false,iQ 16 13 15,iM 2 16]
def yQ:aB:=(sq alF (sq alG .ret))
def aZC:List Nat:=[]
def BD:aW:=⟨1,17,yQ,[.tmp 2]⟩
def ET:Rg:=[iT 2 false]
def EU:Rg:=[iM 4 0,iA 5 (.bin .eql (Tm 4) (.const (.str []))),iM 6 5,gM 7 0 6 false,iG 8 (.bvR (Tm 7)) 6 false,gC 9 .gtr 8 16 6 false,iQ 10 6 9,iM 11 10,gM 12 0 11 false,iG 13 (.bvS (Tm 12) (Ci 0)) 11 false,gK 14 126 13 11 false,iG 15 (.un .not (Tm 14)) 11 false,iQ 16 11 15]
def EV:Rg:=[iT 2 false]
def axV:Rg:=[iI 3 0]
def axW:Rg:=[iM 17 3,iM 18 0,iA 19 (.bvR (Tm 18)),iB 20 .lss 17 19]
def axX:Rg:=[iM 23 0,iM 24 3,iA 25 (.bvS (Tm 23) (Tm 24)),iK 26 125 25,iA 27 (.un .not (Tm 26))]
def axY:Rg:=[iT 2 false]
def axZ:Rg:=[iM 21 3,iC 22 .add 21 1,iM 3 22]
def axU:aB:=(.seq (sq axW (.cond (Tm 20) .skip (.exit 0))) (.seq (.block 1 (sq axX (.cond (Tm 27) (sq axY .ret) .skip))) (.region axZ)))
def ayA:Rg:=[iT 2 true]
def pY:aB:=(sq ET (.seq (sq EU (.cond (Tm 16) (sq EV .ret) .skip)) (.seq (sq axV (.block 0 (.loop axU))) (sq ayA .ret))))
def a5I:List Nat:=[]
def PR:aW:=⟨1,28,pY,[.tmp 2]⟩
def ZR:Rg:=[iT 6 false]
def ZS:Rg:=[iM 7 0,iM 8 1,iB 9 .geq 7 8,iM 10 9,gM 11 0 10 true,gM 12 2 10 true,gB 13 .leq 11 12 10 true,iP 14 10 13,iM 6 14]
def vG:aB:=(sq ZR (sq ZS .ret))
def bfD:List Nat:=[]
def gin:aW:=⟨3,15,vG,[.tmp 6]⟩
def akN:Rg:=[iA 1 (.box true (Tm 0)),iT 2 false]
def akO:Rg:=[iF 3 1 1,iL 4 3,iK 5 128 4,iC 6 .gtr 5 0,iM 2 6]
def yM:aB:=(sq akN (sq akO .ret))
def aYO:List Nat:=[1]
def KC:aW:=⟨1,7,yM,[.tmp 2]⟩
def aKT:Rg:=[iA 1 (.box true (Tm 0)),iT 2 false]
def aKU:Rg:=[iO 6 3 1,iK 7 116 6,iM 5 7,iE 8 5 0,iE 9 5 1,iA 3 (.alloc [(.bool false),.buJ,.buJ]),iS 3 3 8,iM 4 9]
def PN:Rg:=[iM 10 4,iC 11 .eql 10 0,iM 12 11,gF 13 0 3 12 true,gL 14 13 12 true,iG 15 (.un .not (Tm 14)) 12 true,iP 16 12 15,iM 17 16,gF 18 1 3 17 true,gL 19 18 17 true,gK 20 128 19 17 true,gC 21 .leq 20 32 17 true,iP 22 17 21,iM 23 22,gF 24 2 3 23 true,gL 25 24 23 true,gK 26 128 25 23 true,gC 27 .leq 26 32 23 true,iP 28 23 27,iM 2 28]
def KH:aB:=(sq aKT (sq aKU (sq PN .ret)))
def baK:List Nat:=[1]
def avQ:aW:=⟨1,29,KH,[.tmp 2]⟩
def aKY:Rg:=[iA 1 (.box true (Tm 0)),iT 2 false]
def aKZ:Rg:=[iA 8 (.call 115 [(Ci 1),(Ci 1)]),iM 7 8,iE 9 7 0,iE 10 7 1,iA 3 (.alloc [(.bool false),.buJ,.buJ]),iS 3 3 9,iM 4 10]
def aLA:Rg:=[iO 12 3 1,iO 13 3 3,iK2 14 114 12 13,iM 11 14,iE 15 11 0,iE 16 11 1,iM 5 15,iM 6 16]
def agU:Rg:=[iM 17 6,iC 18 .eql 17 0,iM 19 18,gM 20 5 19 true,gC 21 .leq 20 0 19 true,iP 22 19 21,iM 2 22]
def KJ:aB:=(sq aKY (sq aKZ (sq aLA (sq agU .ret))))
def baO:List Nat:=[1]
def gone:aW:=⟨1,23,KJ,[.tmp 2]⟩
def auN:Rg:=[iT 4 false]
def auO:Rg:=[iM 7 0,iN 8 7,iI 9 0]
def auP:Rg:=[iB 10 .lss 9 8]
def auQ:Rg:=[iX 11 3 7 9,iO 12 3 11,iA 6 (.alloc [(.bool false),.buJ,.buJ]),iS 3 6 12]
def auR:Rg:=[iM 13 1,iO 14 3 6,iA 15 (.bvU (Tm 13) [(Tm 14)]),iA 16 (.un .not (Tm 15))]
def auS:Rg:=[iT 4 false]
def auT:Rg:=[iC 17 .add 9 1,iM 9 17]
def auM:aB:=(sq auP (.seq (.cond (Tm 10) .skip (.exit 0)) (.seq (.block 1 (sq auQ (sq auR (.cond (Tm 16) (sq auS .ret) .skip)))) (.region auT))))
def auU:Rg:=[iT 4 true]
def EB:aB:=(sq auN (.seq (sq auO (.block 0 (.loop auM))) (sq auU .ret)))
def a4I:List Nat:=[]
def ZO:aW:=⟨2,18,EB,[.tmp 4]⟩
def auW:Rg:=[iT 4 false]
def auX:Rg:=[iM 7 0,iN 8 7,iI 9 0]
def auY:Rg:=[iB 10 .lss 9 8]
def auZ:Rg:=[iX 11 1 7 9,iL 12 11,iM 6 12]
def avA:Rg:=[iM 13 1,iM 14 6,iA 15 (.bvU (Tm 13) [(Tm 14)]),iA 16 (.un .not (Tm 15))]
def avB:Rg:=[iT 4 false]
def avC:Rg:=[iC 17 .add 9 1,iM 9 17]
def auV:aB:=(sq auY (.seq (.cond (Tm 10) .skip (.exit 0)) (.seq (.block 1 (sq auZ (sq avA (.cond (Tm 16) (sq avB .ret) .skip)))) (.region avC))))
def avD:Rg:=[iT 4 true]
def EC:aB:=(sq auW (.seq (sq auX (.block 0 (.loop auV))) (sq avD .ret)))
def a4K:List Nat:=[]
def ZP:aW:=⟨2,18,EC,[.tmp 4]⟩
def auE:Rg:=[iT 4 false]
def auF:Rg:=[iM 7 0,iN 8 7,iI 9 0]
def auG:Rg:=[iB 10 .lss 9 8]
def auH:Rg:=[iX 11 1 7 9,iL 12 11,iM 6 12]
def auI:Rg:=[iM 13 1,iM 14 6,iA 15 (.bvU (Tm 13) [(Tm 14)]),iA 16 (.un .not (Tm 15))]
def auJ:Rg:=[iT 4 false]
def auK:Rg:=[iC 17 .add 9 1,iM 9 17]
def auD:aB:=(sq auG (.seq (.cond (Tm 10) .skip (.exit 0)) (.seq (.block 1 (sq auH (sq auI (.cond (Tm 16) (sq auJ .ret) .skip)))) (.region auK))))
def auL:Rg:=[iT 4 true]
def EA:aB:=(sq auE (.seq (sq auF (.block 0 (.loop auD))) (sq auL .ret)))
def a4G:List Nat:=[]
def ZN:aW:=⟨2,18,EA,[.tmp 4]⟩
def akP:Rg:=[iT 2 false]
def akQ:Rg:=[iM 3 0,iM 2 3]
def yN:aB:=(sq akP (sq akQ .ret))
def aYQ:List Nat:=[]
def KD:aW:=⟨1,4,yN,[.tmp 2]⟩
def avH:Rg:=[iA 1 (.box true (Tm 0)),iT 2 false]
def avI:Rg:=[iF 8 3 1,iL 9 8,iN 10 9,iA 11 (.buT 1 1 [(.bool false)] (Tm 10) (Tm 10)),iM 3 11]
def avJ:Rg:=[iI 4 0]
def avK:Rg:=[iM 12 4,iM 13 3,iN 14 13,iB 15 .leq 12 14]
def avL:Rg:=[iM 18 3,iN 19 18,iI 20 0]
def TW:Rg:=[iB 21 .lss 20 19]
def avM:Rg:=[iM 22 20,iM 5 22]
def TX:Rg:=[iM 23 3,iM 24 5,iM 25 3,iM 26 5,iX 27 1 25 26,iL 28 27,iM 29 28,gF 30 3 1 29 false,gL 31 30 29 false,gM 32 5 29 false,iG 33 (.bvE 3 (Tm 31) (Tm 32)) 29 false,gO 34 3 33 29 false,gK 35 97 34 29 false,iQ 36 29 35,iX 37 1 23 24,iS 1 37 36]
def TY:Rg:=[iF 38 2 1,iL 39 38,iM 40 5,iX 41 1 39 40,iL 42 41,iN 43 42,iI 44 0]
def avN:Rg:=[iB 45 .lss 44 43]
def akS:Rg:=[iM 46 44,iX 47 3 42 44,iO 48 3 47,iA 7 (.alloc [(.bool false),.buJ,.buJ]),iM 6 46,iS 3 7 48]
def KE:Rg:=[iM 49 3,iM 50 5,iM 51 3,iM 52 5,iX 53 1 51 52,iL 54 53,iM 55 54,gO 56 3 7 55 false,gK 57 97 56 55 false,gM 58 57 55 false,gM 59 3 58 true,gM 60 6 58 true,iG 61 (.bvE 1 (Tm 59) (Tm 60)) 58 true,gL 62 61 58 true,iG 63 (.pick (Tm 58) (Tm 62) (.const (.bool false))) 55 false,iQ 64 55 63,iX 65 1 49 50,iS 1 65 64]
def xB:Rg:=[iC 66 .add 44 1,iM 44 66]
def wZ:aB:=(sq avN (.seq (.cond (Tm 45) .skip (.exit 4)) (.seq (.block 5 (sq akS (.region KE))) (.region xB))))
def KF:Rg:=[iC 67 .add 20 1,iM 20 67]
def xA:aB:=(sq TW (.seq (.cond (Tm 21) .skip (.exit 2)) (.seq (.block 3 (sq avM (sq TX (sq TY (.block 4 (.loop wZ)))))) (.region KF))))
def akT:Rg:=[iM 16 4,iC 17 .add 16 1,iM 4 17]
def akR:aB:=(.seq (sq avK (.cond (Tm 15) .skip (.exit 0))) (.seq (.block 1 (sq avL (.block 2 (.loop xA)))) (.region akT)))
def akU:Rg:=[iM 68 3,iA 69 (.call 98 [(Tm 68),(.const (.fn 103 []))]),iM 2 69]
def ED:aB:=(sq avH (sq avI (.seq (sq avJ (.block 0 (.loop akR))) (sq akU .ret))))
def a4N:List Nat:=[1]
def ZQ:aW:=⟨1,70,ED,[.tmp 2]⟩
def aKL:Rg:=[iA 1 (.box true (Tm 0)),iT 2 false]
def aKM:Rg:=[iF 12 1 1,iL 13 12,iN 14 13,iM 3 14]
def aKN:Rg:=[iM 15 3,iA 16 (.call 104 [(Tm 15),(Ci 1),(Ci 4)]),iA 17 (.un .not (Tm 16)),iM 18 17,gF 19 3 1 18 false,gL 20 19 18 false,gN 21 20 18 false,gM 22 3 18 false,gB 23 .neq 21 22 18 false,iQ 24 18 23,iM 25 24,gF 26 2 1 25 false,gL 27 26 25 false,gN 28 27 25 false,gM 29 3 25 false,gB 30 .neq 28 29 25 false,iQ 31 25 30,iM 32 31,gF 33 1 1 32 false,gL 34 33 32 false,iG 35 (.call 99 [(Tm 34),(.const (.fn 105 []))]) 32 false,iG 36 (.un .not (Tm 35)) 32 false,iQ 37 32 36,iM 38 37,gF 39 3 1 38 false,gL 40 39 38 false,iG 41 (.call 99 [(Tm 40),(.const (.fn 105 []))]) 38 false,iG 42 (.un .not (Tm 41)) 38 false,iQ 43 38 42]
def uK:Rg:=[iT 2 false]
def aKO:Rg:=[iF 44 2 1,iL 45 44,iN 46 45,iI 47 0]
def aKP:Rg:=[iB 48 .lss 47 46]
def aKQ:Rg:=[iM 49 47,iX 50 1 45 47,iL 51 50,iM 4 49,iM 5 51]
def aKR:Rg:=[iM 52 5,iN 53 52,iM 54 3,iB 55 .neq 53 54,iM 56 55,gM 57 5 56 false,iG 58 (.call 99 [(Tm 57),(.const (.fn 105 []))]) 56 false,iG 59 (.un .not (Tm 58)) 56 false,iQ 60 56 59,iM 61 60,gM 62 5 61 false,gM 63 4 61 false,iG 64 (.bvE 3 (Tm 62) (Tm 63)) 61 false,gO 65 3 64 61 false,gK 66 97 65 61 false,iQ 67 61 66]
def PL:Rg:=[iT 2 false]
def aKS:Rg:=[iC 68 .add 47 1,iM 47 68]
def avP:aB:=(sq aKP (.seq (.cond (Tm 48) .skip (.exit 0)) (.seq (.block 1 (sq aKQ (sq aKR (.cond (Tm 67) (sq PL .ret) .skip)))) (.region aKS))))
def TZ:Rg:=[iF 70 1 1,iL 71 70,iK 72 117 71,iM 69 72,iE 73 69 0,iE 74 69 1,iA 6 (.alloc [(.bool false),.buJ,.buJ]),iS 3 6 73,iM 7 74]
def EE:Rg:=[iA 76 (.call 115 [(Ci 1),(Ci 1)]),iM 75 76,iE 77 75 0,iE 78 75 1,iA 8 (.alloc [(.bool false),.buJ,.buJ]),iS 3 8 77,iM 9 78]
def EF:Rg:=[iO 80 3 6,iO 81 3 8,iK2 82 114 80 81,iM 79 82,iE 83 79 0,iE 84 79 1,iM 10 83,iM 11 84]
def qX:Rg:=[iM 85 7,iC 86 .eql 85 0,iM 87 86,gM 88 10 87 true,gC 89 .eql 88 0 87 true,iP 90 87 89,iM 91 90,gO 92 4 1 91 true,gK 93 102 92 91 true,iP 94 91 93,iM 2 94]
def KG:aB:=(sq aKL (sq aKM (.seq (sq aKN (.cond (Tm 43) (sq uK .ret) .skip)) (.seq (sq aKO (.block 0 (.loop avP))) (sq TZ (sq EE (sq EF (sq qX .ret))))))))
def baI:List Nat:=[1]
def avO:aW:=⟨1,95,KG,[.tmp 2]⟩
def awB:Rg:=[iT 2 false]
def awC:Rg:=[iA 6 (.bwF (false,[.str])),iM 3 6]
def awD:Rg:=[iM 7 0,iN 8 7,iI 9 0]
def awE:Rg:=[iB 10 .lss 9 8]
def awF:Rg:=[iX 11 1 7 9,iL 12 11,iM 5 12]
def awG:Rg:=[iM 13 5,iK 14 123 13,iA 15 (.un .not (Tm 14)),iM 16 15,gM 17 3 16 false,gM 18 5 16 false,iG 19 (.lookup (false,[.str]) (.bool false) (Tm 17) (Tm 18) false) 16 false,iQ 20 16 19]
def UB:Rg:=[iT 2 false]
def awH:Rg:=[iM 21 3,iM 22 5,⟨none,.bvH (false,[.str]) (Tm 21) (Tm 22) (.const (.bool true)),none⟩]
def awI:Rg:=[iC 23 .add 9 1,iM 9 23]
def awA:aB:=(sq awE (.seq (.cond (Tm 10) .skip (.exit 0)) (.seq (.block 1 (sq awF (.seq (sq awG (.cond (Tm 20) (sq UB .ret) .skip)) (.region awH)))) (.region awI))))
def akX:Rg:=[iT 2 true]
def EI:aB:=(sq awB (sq awC (.seq (sq awD (.block 0 (.loop awA))) (sq akX .ret))))
def a4U:List Nat:=[]
def ZV:aW:=⟨1,24,EI,[.tmp 2]⟩
def agS:Rg:=[iA 1 (.box true (Tm 0)),iT 2 false]
def agT:Rg:=[iF 6 3 1,iL 7 6,iN 8 7,iC 9 .eql 8 0]
def aKF:Rg:=[iT 2 false]
def aKG:Rg:=[iF 10 3 1,iL 11 10,iA 12 (.bvE 7 (Tm 11) (Ci 0)),iO 13 7 12,iA 3 (.alloc [(.str []),(.int .i64 0),(.int .i64 0),(.int .i64 0),(.bool false),.buJ,.buJ]),iS 7 3 13]
def uJ:Rg:=[iF 14 0 3,iL 15 14,iA 16 (.bin .neq (Tm 15) (.const (.str []))),iM 17 16,gF 18 1 3 17 false,gL 19 18 17 false,gC 20 .neq 19 0 17 false,iQ 21 17 20,iM 22 21,gF 23 2 3 22 false,gL 24 23 22 false,gC 25 .neq 24 (-1) 22 false,iQ 26 22 25,iM 27 26,gF 28 3 3 27 false,gL 29 28 27 false,gC 30 .neq 29 0 27 false,iQ 31 27 30,iM 32 31,gF 33 4 3 32 false,gO 34 3 33 32 false,gK 35 105 34 32 false,iG 36 (.un .not (Tm 35)) 32 false,iQ 37 32 36,iM 38 37,gF 39 4 3 38 false,gO 40 3 39 38 false,gK 41 97 40 38 false,iQ 42 38 41]
def qW:Rg:=[iT 2 false]
def aKH:Rg:=[iF 43 3 1,iL 44 43,iA 45 (.slice 7 (Tm 44) (some (Ci 1)) none none),iN 46 45,iI 47 0]
def aKI:Rg:=[iB 48 .lss 47 46]
def aKJ:Rg:=[iM 49 47,iX 50 7 45 47,iO 51 7 50,iA 5 (.alloc [(.str []),(.int .i64 0),(.int .i64 0),(.int .i64 0),(.bool false),.buJ,.buJ]),iM 4 49,iS 7 5 51]
def aKK:Rd:=[(iF 52 2 5,false),(iL 53 52,false),(iM 54 4,false),(iA 55 (.call 104 [(Tm 53),(Ci 0),(Tm 54)]),true),(iA 56 (.un .not (Tm 55)),false),(iM 57 56,false),(gF 58 3 1 57 false,false),(gL 59 58 57 false,false),(gF 60 2 5 57 false,false),(gL 61 60 57 false,false),(iG 62 (.bvE 7 (Tm 59) (Tm 61)) 57 false,false),(gF 63 1 62 57 false,false),(gL 64 63 57 false,false),(gF 65 1 5 57 false,false),(gL 66 65 57 false,false),(gC 67 .sub 66 1 57 false,false),(gB 68 .neq 64 67 57 false,false),(iQ 69 57 68,false),(iM 70 69,false),(gF 71 1 5 70 false,false),(gL 72 71 70 false,false),(iG 73 (.call 104 [(Tm 72),(Ci 1),(Ci 4)]) 70 false,true),(iG 74 (.un .not (Tm 73)) 70 false,false),(iQ 75 70 74,false),(iM 76 75,false),(gF 77 3 5 76 false,false),(gL 78 77 76 false,false),(iG 79 (.call 104 [(Tm 78),(Ci 1),(Ci 64)]) 76 false,true),(iG 80 (.un .not (Tm 79)) 76 false,false),(iQ 81 76 80,false),(iM 82 81,false),(gF 83 4 5 82 false,false),(gO 84 3 83 82 false,false),(gK 85 105 84 82 false,true),(iG 86 (.un .not (Tm 85)) 82 false,false),(iQ 87 82 86,false)]
def qV:Rg:=[iT 2 false]
def avF:Rg:=[iC 88 .add 47 1,iM 47 88]
def avE:aB:=(sq aKI (.seq (.cond (Tm 48) .skip (.exit 0)) (.seq (.block 1 (sq aKJ (dq aKK (.cond (Tm 87) (sq qV .ret) .skip)))) (.region avF))))
def avG:Rg:=[iT 2 true]
def wY:aB:=(sq agS (.seq (sq agT (.cond (Tm 9) (sq aKF .ret) .skip)) (sq aKG (.seq (sq uJ (.cond (Tm 42) (sq qW .ret) .skip)) (.seq (sq aKH (.block 0 (.loop avE))) (sq avG .ret))))))
def baG:List Nat:=[1]
def agR:aW:=⟨1,89,wY,[.tmp 2]⟩
def avS:Rg:=[iT 2 false]
def avT:Rg:=[iM 3 0,iA 4 (.call 104 [(Tm 3),(Ci 0),(Ci 8)]),iM 2 4]
def EG:aB:=(sq avS (sq avT .ret))
def a4P:List Nat:=[]
def ZT:aW:=⟨1,5,EG,[.tmp 2]⟩
def aKV:Rg:=[iA 7 (.box true (Tm 3)),iT 8 false]
def aKW:Rg:=[iM 9 0,iA 10 (.call 104 [(Tm 9),(Ci 1),(Ci 6)]),iA 11 (.un .not (Tm 10)),iM 12 11,gM 13 1 12 false,iG 14 (.call 104 [(Tm 13),(Ci 0),(Ci 4)]) 12 false,iG 15 (.un .not (Tm 14)) 12 false,iQ 16 12 15,iM 17 16,gM 18 0 17 false,gM 19 1 17 false,gB 20 .add 18 19 17 false,gC 21 .gtr 20 8 17 false,iQ 22 17 21,iM 23 22,gM 24 2 23 false,gM 25 0 23 false,gM 26 0 23 false,gM 27 1 23 false,gB 28 .add 26 27 23 false,iG 29 (.call 104 [(Tm 24),(Tm 25),(Tm 28)]) 23 false,iG 30 (.un .not (Tm 29)) 23 false,iQ 31 23 30,iM 32 31,iG 33 (.idxA 5 1 (Tm 7) (Ci 0)) 32 false,gL 34 33 32 false,gC 35 .neq 34 0 32 false,iQ 36 32 35]
def uL:Rg:=[iT 8 false]
def aKX:Rg:=[iA 37 (.sliceA 5 1 (Tm 7) none none none),iA 38 (.call 100 [(Tm 37),(.const (.fn 107 []))]),iM 8 38]
def KI:aB:=(sq aKV (.seq (sq aKW (.cond (Tm 36) (sq uL .ret) .skip)) (sq aKX .ret)))
def baM:List Nat:=[7]
def avR:aW:=⟨4,39,KI,[.tmp 8]⟩
def akV:Rg:=[iA 1 (.box true (Tm 0)),iT 2 false]
def akW:Rg:=[iO 3 3 1,iK 4 105 3,iM 5 4,gO 6 3 1 5 true,gK 7 97 6 5 true,iP 8 5 7,iM 2 8]
def yO:aB:=(sq akV (sq akW .ret))
def aYT:List Nat:=[1]
def KL:aW:=⟨1,9,yO,[.tmp 2]⟩
def avY:Rg:=[iA 6 (.box true (Tm 2)),iA 7 (.box true (Tm 3)),iT 8 false]
def avZ:Rg:=[iM 9 1,iN 10 9,iM 11 0,iA 12 (.bvK true (Tm 11) (Ci 1)),iB 13 .eql 10 12,iM 14 13,gM 15 1 14 true,iG 16 (.call 99 [(Tm 15),(.const (.fn 109 []))]) 14 true,iP 17 14 16,iM 18 17,gO 19 3 6 18 true,gK 20 105 19 18 true,iP 21 18 20,iM 22 21,gO 23 3 6 22 true,gK 24 101 23 22 true,iP 25 22 24,iM 26 25,gO 27 3 7 26 true,gK 28 105 27 26 true,iP 29 26 28,iM 8 29]
def EH:aB:=(sq avY (sq avZ .ret))
def a4R:List Nat:=[6,7]
def ZU:aW:=⟨4,30,EH,[.tmp 8]⟩
def aLB:Rg:=[iA 2 (.box true (Tm 0)),iT 4 false]
def aLC:Rg:=[iF 8 1 2,iL 9 8,iF 10 2 2,iL 11 10,iF 12 3 2,iL 13 12,iF 14 4 2,iO 15 5 14,iA 16 (.call 106 [(Tm 9),(Tm 11),(Tm 13),(Tm 15)]),iA 17 (.un .not (Tm 16)),iM 18 17,gF 19 9 2 18 false,gL 20 19 18 false,gN 21 20 18 false,gC 22 .eql 21 0 18 false,iQ 23 18 22,iM 24 23,gF 25 2 2 24 false,gL 26 25 24 false,gF 27 10 2 24 false,gL 28 27 24 false,gF 29 11 2 24 false,gO 30 3 29 24 false,gF 31 14 2 24 false,gO 32 3 31 24 false,iG 33 (.call 108 [(Tm 26),(Tm 28),(Tm 30),(Tm 32)]) 24 false,iG 34 (.un .not (Tm 33)) 24 false,iQ 35 24 34]
def PO:Rg:=[iT 4 false]
def aLD:Rg:=[iM 36 1,iA 37 (.buT 1 1 [(.bool false)] (Tm 36) (Tm 36)),iM 5 37]
def aLE:Rg:=[iF 38 9 2,iL 39 38,iN 40 39,iI 41 0]
def aLF:Rg:=[iB 42 .lss 41 40]
def aLG:Rg:=[iX 43 1 39 41,iL 44 43,iM 7 44]
def aLH:Rg:=[iM 45 7,iM 46 1,iC 47 .sub 46 1,iA 48 (.call 104 [(Tm 45),(Ci 0),(Tm 47)]),iA 49 (.un .not (Tm 48)),iM 50 49,gM 51 5 50 false,gM 52 7 50 false,iG 53 (.bvE 1 (Tm 51) (Tm 52)) 50 false,gL 54 53 50 false,iQ 55 50 54]
def agV:Rg:=[iT 4 false]
def aLI:Rg:=[iM 56 5,iM 57 7,iX 58 1 56 57,⟨none,.store 1 (Tm 58) (.const (.bool true)),none⟩]
def avW:Rg:=[iC 59 .add 41 1,iM 41 59]
def avV:aB:=(sq aLF (.seq (.cond (Tm 42) .skip (.exit 0)) (.seq (.block 1 (sq aLG (.seq (sq aLH (.cond (Tm 55) (sq agV .ret) .skip)) (.region aLI)))) (.region avW))))
def avX:Rg:=[iT 4 true]
def KK:aB:=(sq aLB (.seq (sq aLC (.cond (Tm 35) (sq PO .ret) .skip)) (sq aLD (.seq (sq aLE (.block 0 (.loop avV))) (sq avX .ret)))))
def baQ:List Nat:=[2]
def avU:aW:=⟨2,60,KK,[.tmp 4]⟩
def aLJ:Rg:=[iA 1 (.box true (Tm 0)),iI 2 0]
def aLK:Rg:=[iF 21 0 1,iL 22 21,iA 23 (.call 104 [(Tm 22),(Ci 1),(Ci 4)]),iA 24 (.un .not (Tm 23)),iM 25 24,gF 26 1 1 25 false,gL 27 26 25 false,gN 28 27 25 false,gC 29 .gtr 28 4 25 false,iQ 30 25 29,iM 31 30,gF 32 2 1 31 false,gL 33 32 31 false,gN 34 33 31 false,gC 35 .gtr 34 4 31 false,iQ 36 31 35,iM 37 36,gF 38 3 1 37 false,gL 39 38 37 false,gN 40 39 37 false,gC 41 .gtr 40 40 37 false,iQ 42 37 41,iM 43 42,gF 44 4 1 43 false,gL 45 44 43 false,gN 46 45 43 false,gC 47 .gtr 46 24 43 false,iQ 48 43 47,iM 49 48,gF 50 5 1 49 false,gL 51 50 49 false,gN 52 51 49 false,gC 53 .gtr 52 4 49 false,iQ 54 49 53,iM 55 54,gF 56 6 1 55 false,gL 57 56 55 false,gN 58 57 55 false,gC 59 .gtr 58 12 55 false,iQ 60 55 59,iM 61 60,gO 62 7 1 61 false,gK 63 111 62 61 false,iG 64 (.un .not (Tm 63)) 61 false,iQ 65 61 64]
def mY:Rg:=[iI 2 1]
def aLL:Rg:=[iZ 3,iZ 4,iZ 5,iZ 6,iZ 7]
def aLM:Rg:=[iT 8 true]
def agW:Rg:=[iF 66 1 1,iL 67 66,iN 68 67,iI 69 0]
def aLN:Rg:=[iB 70 .lss 69 68]
def aLO:Rg:=[iX 71 4 67 69,iO 72 4 71,iA 10 (.alloc [(.str []),.buJ,.buJ,.buJ]),iS 4 10 72]
def aLP:Rg:=[iM 73 3,iF 74 0 10,iL 75 74,iA 76 (.buO true 1 1 [(.str [])] [(0,(Tm 75))]),iA 77 (.append 1 16 (Tm 73) (Tm 76)),iM 3 77]
def agX:Rg:=[iM 78 8,iM 79 78,gO 80 4 10 79 true,gK 81 95 80 79 true,iP 82 79 81,iM 8 82]
def UC:Rg:=[iC 83 .add 69 1,iM 69 83]
def EJ:aB:=(sq aLN (.seq (.cond (Tm 70) .skip (.exit 0)) (.seq (.block 1 (sq aLO (sq aLP (.region agX)))) (.region UC))))
def UD:Rg:=[iF 84 2 1,iL 85 84,iN 86 85,iI 87 0]
def awK:Rg:=[iB 88 .lss 87 86]
def awL:Rg:=[iX 89 4 85 87,iO 90 4 89,iA 12 (.alloc [(.str []),(.int .i64 0),(.int .i64 0),(.int .i64 0)]),iS 4 12 90]
def awM:Rg:=[iM 91 4,iF 92 0 12,iL 93 92,iA 94 (.buO true 1 1 [(.str [])] [(0,(Tm 93))]),iA 95 (.append 1 16 (Tm 91) (Tm 94)),iM 4 95]
def UE:Rg:=[iM 96 8,iM 97 96,gF 98 1 12 97 true,gL 99 98 97 true,iG 100 (.call 104 [(Tm 99),(Ci 1),(Ci 16)]) 97 true,iP 101 97 100,iM 102 101,gF 103 2 12 102 true,gL 104 103 102 true,iG 105 (.call 104 [(Tm 104),(Ci 1),(Ci 64)]) 102 true,iP 106 102 105,iM 107 106,gF 108 3 12 107 true,gL 109 108 107 true,gF 110 1 1 107 true,gL 111 110 107 true,gN 112 111 107 true,gC 113 .sub 112 1 107 true,iG 114 (.call 104 [(Tm 109),(Ci 0),(Tm 113)]) 107 true,iP 115 107 114,iM 8 115]
def vJ:Rg:=[iC 116 .add 87 1,iM 87 116]
def EK:aB:=(sq awK (.seq (.cond (Tm 88) .skip (.exit 2)) (.seq (.block 3 (sq awL (sq awM (.region UE)))) (.region vJ))))
def UF:Rg:=[iF 117 3 1,iL 118 117,iA 119 (.slice 7 (Tm 118) (some (Ci 1)) none none),iN 120 119,iI 121 0]
def awN:Rg:=[iB 122 .lss 121 120]
def awO:Rg:=[iX 123 7 119 121,iO 124 7 123,iA 14 (.alloc [(.str []),(.int .i64 0),(.int .i64 0),(.int .i64 0),(.bool false),.buJ,.buJ]),iS 7 14 124]
def awP:Rg:=[iM 125 5,iF 126 0 14,iL 127 126,iA 128 (.buO true 1 1 [(.str [])] [(0,(Tm 127))]),iA 129 (.append 1 16 (Tm 125) (Tm 128)),iM 5 129]
def awQ:Rg:=[iC 130 .add 121 1,iM 121 130]
def EL:aB:=(sq awN (.seq (.cond (Tm 122) .skip (.exit 4)) (.seq (.block 5 (sq awO (.region awP))) (.region awQ))))
def UG:Rg:=[iF 131 4 1,iL 132 131,iN 133 132,iI 134 0]
def awR:Rg:=[iB 135 .lss 134 133]
def awS:Rg:=[iX 136 3 132 134,iO 137 3 136,iA 16 (.alloc [(.str []),(.int .i64 0),(.int .i64 0)]),iS 3 16 137]
def awT:Rg:=[iM 138 5,iF 139 0 16,iL 140 139,iA 141 (.buO true 1 1 [(.str [])] [(0,(Tm 140))]),iA 142 (.append 1 16 (Tm 138) (Tm 141)),iM 5 142]
def UH:Rg:=[iM 143 8,iM 144 143,gF 145 1 16 144 true,gL 146 145 144 true,gF 147 2 1 144 true,gL 148 147 144 true,gN 149 148 144 true,gC 150 .sub 149 1 144 true,iG 151 (.call 104 [(Tm 146),(Ci 0),(Tm 150)]) 144 true,iP 152 144 151,iM 153 152,gF 154 2 16 153 true,gL 155 154 153 true,gF 156 3 1 153 true,gL 157 156 153 true,gN 158 157 153 true,gC 159 .sub 158 1 153 true,iG 160 (.call 104 [(Tm 155),(Ci 0),(Tm 159)]) 153 true,iP 161 153 160,iM 162 161,gF 163 3 1 162 true,gL 164 163 162 true,gF 165 2 16 162 true,gL 166 165 162 true,iG 167 (.bvE 7 (Tm 164) (Tm 166)) 162 true,gF 168 1 167 162 true,gL 169 168 162 true,gC 170 .eql 169 4 162 true,iP 171 162 170,iM 8 171]
def qY:Rg:=[iC 172 .add 134 1,iM 134 172]
def EM:aB:=(sq awR (.seq (.cond (Tm 135) .skip (.exit 6)) (.seq (.block 7 (sq awS (sq awT (.region UH)))) (.region qY))))
def UI:Rg:=[iF 173 5 1,iL 174 173,iN 175 174,iI 176 0]
def awU:Rg:=[iB 177 .lss 176 175]
def awV:Rg:=[iX 178 17 174 176,iO 179 17 178,iA 18 (.alloc [(.str []),(.int .i64 0),(.int .i64 0),(.int .i64 0),(.int .i64 0),(.int .i64 0),(.int .i64 0),(.int .i64 0),(.int .i64 0),.buJ,.buJ,(.bool false),.buJ,.buJ,(.bool false),.buJ,.buJ]),iS 17 18 179]
def awW:Rg:=[iM 180 6,iF 181 0 18,iL 182 181,iA 183 (.buO true 1 1 [(.str [])] [(0,(Tm 182))]),iA 184 (.append 1 16 (Tm 180) (Tm 183)),iM 6 184]
def UJ:Rg:=[iM 185 8,iM 186 185,gO 187 17 18 186 true,gF 188 2 1 186 true,gL 189 188 186 true,gN 190 189 186 true,gK2 191 112 187 190 186 true,iP 192 186 191,iM 8 192]
def UK:Rg:=[iC 193 .add 176 1,iM 176 193]
def EN:aB:=(sq awU (.seq (.cond (Tm 177) .skip (.exit 8)) (.seq (.block 9 (sq awV (sq awW (.region UJ)))) (.region UK))))
def UL:Rg:=[iF 194 6 1,iL 195 194,iN 196 195,iI 197 0]
def awX:Rg:=[iB 198 .lss 197 196]
def awY:Rg:=[iX 199 2 195 197,iO 200 2 199,iA 20 (.alloc [(.str []),(.int .i64 0)]),iS 2 20 200]
def awZ:Rg:=[iM 201 7,iF 202 0 20,iL 203 202,iA 204 (.buO true 1 1 [(.str [])] [(0,(Tm 203))]),iA 205 (.append 1 16 (Tm 201) (Tm 204)),iM 7 205]
def UM:Rg:=[iM 206 8,iM 207 206,gF 208 1 20 207 true,gL 209 208 207 true,gF 210 5 1 207 true,gL 211 210 207 true,gN 212 211 207 true,gC 213 .sub 212 1 207 true,iG 214 (.call 104 [(Tm 209),(Ci 0),(Tm 213)]) 207 true,iP 215 207 214,iM 8 215]
def UN:Rg:=[iC 216 .add 197 1,iM 197 216]
def EO:aB:=(sq awX (.seq (.cond (Tm 198) .skip (.exit 10)) (.seq (.block 11 (sq awY (sq awZ (.region UM)))) (.region UN))))
def vK:Rg:=[iM 217 8,iA 218 (.un .not (Tm 217)),iM 219 218,gM 220 3 219 false,gK 221 110 220 219 false,iG 222 (.un .not (Tm 221)) 219 false,iQ 223 219 222,iM 224 223,gM 225 4 224 false,gK 226 110 225 224 false,iG 227 (.un .not (Tm 226)) 224 false,iQ 228 224 227,iM 229 228,gM 230 5 229 false,gK 231 110 230 229 false,iG 232 (.un .not (Tm 231)) 229 false,iQ 233 229 232,iM 234 233,gM 235 6 234 false,gK 236 110 235 234 false,iG 237 (.un .not (Tm 236)) 234 false,iQ 238 234 237,iM 239 238,gM 240 7 239 false,gK 241 110 240 239 false,iG 242 (.un .not (Tm 241)) 239 false,iQ 243 239 242]
def kX:Rg:=[iI 2 1]
def EP:Rg:=[iI 2 0]
def KM:aB:=(sq aLJ (.seq (sq aLK (.cond (Tm 65) (sq mY .ret) .skip)) (sq aLL (sq aLM (.seq (sq agW (.block 0 (.loop EJ))) (.seq (sq UD (.block 2 (.loop EK))) (.seq (sq UF (.block 4 (.loop EL))) (.seq (sq UG (.block 6 (.loop EM))) (.seq (sq UI (.block 8 (.loop EN))) (.seq (sq UL (.block 10 (.loop EO))) (.seq (sq vK (.cond (Tm 243) (sq kX .ret) .skip)) (sq EP .ret))))))))))))
def baS:List Nat:=[1,76,94,128,141,183,204]
def awJ:aW:=⟨1,244,KM,[.tmp 2]⟩
@[go_sem] theorem biJ (a b:List UInt8):IW .eql a b=some (.bool (a==b)):=(rfl)
@[go_sem] theorem biK (a b:List UInt8):IW .neq a b=some (.bool !(a==b)):=(rfl)
@[go_sem] theorem biI (a b:List UInt8):IW .add a b=if ((a.length+b.length:Nat):Int)>9223372036854775807 then none else some (.str (a++b)):=(rfl)
@[go_sem] theorem beM:(([]:List UInt8)==[])=true:=(rfl)
@[go_sem] theorem a9I (c:UInt8) (t:List UInt8):((c::t)==[])=false:=(rfl)
theorem mU {a b:List UInt8} (h:a=b):(a==b)=true:=by simp[h]
theorem WZ {a b:List UInt8} (h:a≠b):(a==b)=false:=by simp[h]
section
variable {C:Ctx} {F:PF} {H:PH}
theorem lM {name o s:Nat} {rs:List (List PV)} {vs:List PV} {v:PV} {args:List aO} {d:Option Nat} {K:PF→PH→Prop} (h:aE C name vs .nil (aC v)) (ho:H o=some (.rows s rs))
  (ha:aO.evs (F.frz o s rs) args=some vs) (hK:K ((F.frz o s rs).put d v) (H.frz o s rs)):fQ C name args [] d K F H:=by
 refine .inr ⟨_,_,.step o ho (.refl _ _),vs,.nil,aC v,?_,PH.nil_le,h,?_⟩
 ·rw[ha]; simp
 ·rintro r H' ⟨rfl,rfl⟩ -
  rw[PH.kZ]
  exact hK
theorem iD.trans {F1 F2 F3:PF} {H1 H2 H3:PH} (h:iD F1 H1 F2 H2) (k:iD F2 H2 F3 H3):iD F1 H1 F3 H3:=by
 induction h with
 | refl=>exact k
 | step o ho h ih=>exact .step o ho (ih k)
theorem nK {c:aB} {K:cI} {s:Nat} {v:PV} {rows:List (List PV)} (ho:bR H s v rows)
  (h:∀ v1,Seen s v1 rows→∀ F1 H1,(∀ t,F t=some v→F1 t=some v1)→(∀ i u,F i=some u→Pure u→F1 i=some u)→aB.wp C (.loop c) K F1 H1):aB.wp C (.loop c) K F H:=by
 obtain⟨v1,hs,hf⟩:=ho.frz
 obtain⟨F1,H1,hz,h1,h2⟩:=hf F
 obtain⟨α,Fs,Hs,Pr,m,a0,F2,H2,hz2,rest⟩:=h v1 hs F1 H1 h1 h2
 exact⟨α,Fs,Hs,Pr,m,a0,F2,H2,hz.trans hz2,rest⟩
theorem aE.aWA {name s:Nat} {v:PV} {rows:List (List PV)} {H0:PH} {R:PV→PH→Prop} (h:aE C name [.sl s rows] H0 R) (hs:Seen s v rows):aE C name [v] H0 R:=by
 rcases hs with ⟨rfl,rfl⟩ | rfl
 ·refine h.args ⟨rfl,fun j p q hp hq=>?_⟩
  cases j with
  | zero=>simp at hp hq; subst hp; subst hq; exact .nil s
  | succ j=>simp at hp
 ·exact h
theorem bR.fresh {s:Nat} {v:PV} {rows:List (List PV)} {o:Nat} (h:bR H s v rows) (ho:H o=none) (x:cM):bR (H.set o x) s v rows∧∀ l,v≠.osl o s 0 l:=by
 refine⟨h.ext fun q y hq=>?_,fun l e=>?_⟩
 ·have:q≠o:=by rintro rfl; rw[ho] at hq; cases hq
  simp only[bL,if_neg this,hq]
 ·rcases h with ⟨_,h2⟩ | ⟨q,rs,h1,h2,_⟩
  ·rw[h2] at e; cases e
  ·rw[h1] at e
   injection e with e1
   subst e1
   rw[ho] at h2; cases h2
theorem kM {s b:Nat} {v:PV} {rows:List (List PV)} {r:List PV} {o:Nat} {x:cM} {K:PV→PH→Prop} (h:bR H s v rows) (ho:H o=none) (hr:roomFor rows.length 1 b)
  (hk:∀ v' H',bR H' s v' (rows++[r])→H' o=some x→K v' H'):mR (H.set o x) s b v (.sl s [r]) K:=by
 obtain⟨h1,h2⟩:=h.fresh ho x
 refine fN (src:=[r]) h1 (by simp[eK]) hr fun v' H' hO hp=>hk v' H' hO (hp o x (by simp only[bL,if_true]) h2)
theorem qU {o s k:Nat} {rs:List (List PV)} (hk:k≤rs.length):PV.frz o s rs (.osl o s 0 k)=.sl s (rs.take k):=by
 have:0+k≤rs.length:=by omega
 simp only[PV.frz,PV.qT,PV.dX,if_true,true_and,if_pos this,bxP]
end
open Go Go.Na
def eJ (n:Nat):Bool:=decide (97≤n)&&decide (n≤122)||decide (65≤n)&&decide (n≤90)
def jX (n:Nat):Bool:=decide (48≤n)&&decide (n≤57)
def eX (n:Nat):Bool:=eJ n||jX n||decide (n=45)||decide (n=46)
theorem aUN {C:Ctx} (n:Nat):jO.wp C (aS uN.res (aC (.bool (eJ n)))) (PF.args [.int .u8 n]) .nil:=by
 have fin:∀ (F:PF) (b:Bool),F 2=some (.bool b)→b=eJ n→aS uN.res (aC (.bool (eJ n))) .ret F .nil:=by
  intro F b h e
  subst e
  refine aI (.inr rfl) (vs:=[.bool (eJ n)]) (by simp only[go_sem,uN,h]) rfl
 unfold eJ at *
 by_cases a:97≤n
 ·have a':(n:Int)≥97:=by omega
  by_cases b:n≤122
  ·have b':(n:Int)≤122:=by omega
   simp only[go_sem,γ,reduceCtorEq,jO,nA,nB,a',b']
   exact fin _ _ rfl (by simp[a,b])
  ·have b':¬ (n:Int)≤122:=by omega
   by_cases c:65≤n
   ·have c':(n:Int)≥65:=by omega
    have d:¬ (n:Int)≤90:=by omega
    simp only[go_sem,γ,reduceCtorEq,jO,nA,nB,a',b',c',d]
    exact fin _ _ rfl (by simp[a,b,c]; omega)
   ·omega
 ·have a':¬ (n:Int)≥97:=by omega
  by_cases c:65≤n
  ·have c':(n:Int)≥65:=by omega
   by_cases d:n≤90
   ·have d':(n:Int)≤90:=by omega
    simp only[go_sem,γ,reduceCtorEq,jO,nA,nB,a',c',d']
    exact fin _ _ rfl (by simp[a,c,d])
   ·have d':¬ (n:Int)≤90:=by omega
    simp only[go_sem,γ,reduceCtorEq,jO,nA,nB,a',c',d']
    exact fin _ _ rfl (by simp[a,c,d])
  ·have c':¬ (n:Int)≥65:=by omega
   simp only[go_sem,γ,reduceCtorEq,jO,nA,nB,a',c']
   exact fin _ _ rfl (by simp[a,c])
theorem aYY {C:Ctx} (n:Nat):nT.wp C (aS BC.res (aC (.bool (jX n)))) (PF.args [.int .u8 n]) .nil:=by
 have fin:∀ (F:PF) (b:Bool),F 2=some (.bool b)→b=jX n→aS BC.res (aC (.bool (jX n))) .ret F .nil:=by
  intro F b h e
  subst e
  refine aI (.inr rfl) (vs:=[.bool (jX n)]) (by simp only[go_sem,BC,h]) rfl
 unfold jX at *
 by_cases a:48≤n
 ·have a':(n:Int)≥48:=by omega
  by_cases b:n≤57
  ·have b':(n:Int)≤57:=by omega
   simp only[go_sem,γ,reduceCtorEq,nT,xD,xE,a',b']
   exact fin _ _ rfl (by simp[a,b])
  ·have b':¬ (n:Int)≤57:=by omega
   simp only[go_sem,γ,reduceCtorEq,nT,xD,xE,a',b']
   exact fin _ _ rfl (by simp[a,b])
 ·have a':¬ (n:Int)≥48:=by omega
  simp only[go_sem,γ,reduceCtorEq,nT,xD,xE,a']
  exact fin _ _ rfl (by simp[a])
theorem aZB {C:Ctx} (h1:∀ n:Nat,aE C 126 [.int .u8 n] .nil (aC (.bool (eJ n)))) (h2:∀ n:Nat,aE C 124 [.int .u8 n] .nil (aC (.bool (jX n)))) (n:Nat) :
  yQ.wp C (aS BD.res (aC (.bool (eX n)))) (PF.args [.int .u8 n]) .nil:=by
 have fin:∀ (F:PF) (b:Bool),F 2=some (.bool b)→b=eX n→aS BD.res (aC (.bool (eX n))) .ret F .nil:=by
  intro F b h e
  subst e
  refine aI (.inr rfl) (vs:=[.bool (eX n)]) (by simp only[go_sem,BD,h]) rfl
 simp only[go_sem,reduceCtorEq,yQ,alF,alG]
 refine aA (h1 n) rfl ?_
 cases hl:eJ n with
 | true =>
  simp only[go_sem,γ]
  exact fin _ _ rfl (by simp[eX,hl])
 | false =>
  simp only[go_sem,γ,reduceCtorEq]
  refine aA (h2 n) rfl ?_
  cases hd:jX n with
  | true =>
   simp only[go_sem,γ,reduceCtorEq]
   exact fin _ _ rfl (by simp[eX,hd])
  | false =>
   by_cases c:n=45
   ·simp only[go_sem,γ,reduceCtorEq,bX (Om:(n:Int)=45)]
    exact fin _ _ rfl (by simp[eX,c])
   ·by_cases d:n=46
    ·simp only[go_sem,γ,reduceCtorEq,bD (Om:(n:Int)≠45),bX (Om:(n:Int)=46)]
     exact fin _ _ rfl (by simp[eX,d])
    ·simp only[go_sem,γ,reduceCtorEq,bD (Om:(n:Int)≠45),bD (Om:(n:Int)≠46)]
     exact fin _ _ rfl (by simp[eX,c,d,hl,hd])
def isName (s:List UInt8):Bool:=match s with
 | []=>false
 | c::_=>decide (s.length≤16)&&eJ c.toNat&&s.all fun c=>eX c.toNat
theorem mG {α:Type} {p:α→Bool} {l:List α} {k:Nat} (hk:k<l.length) (h:(l.take k).all p=true) (hp:p l[k]=true):(l.take (k+1)).all p=true:=by
 rw[byH hk,List.all_append,h]; simp[hp]
theorem mH {α:Type} {p:α→Bool} {l:List α} {k:Nat} (hk:k<l.length) (hp:p l[k]=false):l.all p=false:=by
 rw[List.all_eq_false]
 exact⟨l[k],bwS hk,by simp[hp]⟩
def axT (s:List UInt8) (k:Nat):PF:=((PF.nil.set 0 (.str s)).set 3 (.int .i64 k))
theorem a5H {C:Ctx} (h1:∀ n:Nat,aE C 126 [.int .u8 n] .nil (aC (.bool (eJ n)))) (h2:∀ n:Nat,aE C 125 [.int .u8 n] .nil (aC (.bool (eX n)))) (s:List UInt8) :
  pY.wp C (aS PR.res (aC (.bool (isName s)))) (PF.args [.str s]) .nil:=by
 have fin:∀ (F:PF) (b:Bool),F 2=some (.bool b)→b=isName s→aS PR.res (aC (.bool (isName s))) .ret F .nil:=by
  intro F b h e
  subst e
  refine aI (.inr rfl) (vs:=[.bool (isName s)]) (by simp only[go_sem,PR,h]) rfl
 cases s with
 | nil =>
  simp only[go_sem,γ,reduceCtorEq,pY,ET,EU,EV]
  exact fin _ _ rfl rfl
 | cons c t =>
  have hz:(c::t)[0]?=some c:=rfl
  have hne:(c::t==[])=false:=rfl
  have hN:isName (c::t)=(decide ((c::t).length≤16)&&eJ c.toNat&&(c::t).all fun c=>eX c.toNat):=rfl
  generalize c::t=s at *
  by_cases hl:s.length≤16
  ·have hl':¬ ((s.length:Nat):Int)>16:=by omega
   rw[decide_eq_true hl,bwY] at hN
   simp only[go_sem,ν,γ,reduceCtorEq,pY,ET,EU,hne,hl',hz,bxS]
   refine aA (h1 c.toNat) rfl ?_
   cases hc:eJ c.toNat with
   | false =>
    simp only[go_sem,γ,reduceCtorEq,bxB,EV]
    exact fin _ _ rfl (by rw[hN,hc]; rfl)
   | true =>
    rw[hc,bwY] at hN
    simp only[go_sem,γ,reduceCtorEq,bwU,axV]
    refine wp_loop (α:=Nat) (fun k=>axT s k) (fun _=>.nil) (fun k=>k≤s.length∧(s.take k).all (fun c=>eX c.toNat)=true) (fun k=>s.length-k) 0 ⟨bwZ _,rfl⟩ ?_ PH.nil_le ?_
    ·unfold axT
     exact Lq
    rintro k ⟨hk,ha⟩
    simp only[go_sem,γ,reduceCtorEq,axU,axW,axT]
    by_cases hlt:k<s.length
    ·have buP:(k:Int)<(s.length:Nat):=by omega
     have hg:s[k]?=some s[k]:=bxA hlt
     simp only[go_sem,γ,reduceCtorEq,buP,axX,hg,bxS]
     refine aA (h2 (s[k]).toNat) rfl ?_
     cases hi:eX (s[k]).toNat with
     | false =>
      simp only[go_sem,γ,reduceCtorEq,bxB,axY]
      refine fin _ false rfl ?_
      rw[hN,mH hlt hi]
     | true =>
      simp only[go_sem,γ,reduceCtorEq,bwU,axZ,wZz k]
      refine aJ (k+1) ⟨hlt,bxL.1 (mG hlt ha hi)⟩ Om ?_ PH.nil_le
      exact Lq
    ·have buP:¬ (k:Int)<(s.length:Nat):=by omega
     simp only[go_sem,buP,ayA]
     have:k=s.length:=by omega
     subst this
     rw[bxC (bwR _)] at ha
     exact fin _ true rfl (by rw[hN,ha])
  ·have hl':((s.length:Nat):Int)>16:=by omega
   simp only[go_sem,γ,reduceCtorEq,pY,ET,EU,EV,hne,hl']
   exact fin _ _ rfl (by rw[hN,decide_eq_false hl]; rfl)
abbrev cQ (x:Int):Prop:=-9223372036854775808≤x∧x≤9223372036854775807
structure cD where
 name:List UInt8
 start:List RF
 buN:List (List RF)
 exit:List RF
structure cP where
 name:List UInt8
 bvD:Int
 port:Int
 law:Int
structure bJ where
 name:List UInt8
 level:Int
 parent:Int
 bvJ:Int
 bvB:RF
structure cA where
 name:List UInt8
 model:Int
 machine:Int
structure cV where
 name:List UInt8
 k:Int
 m:Int
 bvN:Int
 s0:Int
 s1:Int
 s2:Int
 s3:Int
 s4:Int
 buI:List Int
 repair:List RF
 target:RF
 buV:RF
structure dW where
 name:List UInt8
 buX:Int
structure aL where
 bvX:Int
 buS:List cD
 buI:List cP
 buL:List bJ
 buH:List cA
 buM:List cV
 buK:List dW
abbrev aVY (l:List (List RF)):PV:=.sl 1 (l.map fun r=>[frs r])
abbrev cD.cells (x:cD):List PV:=[.str x.name,frs x.start,aVY x.buN,frs x.exit]
abbrev cP.cells (x:cP):List PV:=[.str x.name,.int .i64 x.bvD,.int .i64 x.port,.int .i64 x.law]
abbrev bJ.cells (x:bJ):List PV:=[.str x.name,.int .i64 x.level,.int .i64 x.parent,.int .i64 x.bvJ,.bool x.bvB.neg,aD x.bvB.num,aD x.bvB.den]
abbrev cA.cells (x:cA):List PV:=[.str x.name,.int .i64 x.model,.int .i64 x.machine]
abbrev cV.cells (x:cV):List PV:=[.str x.name,.int .i64 x.k,.int .i64 x.m,.int .i64 x.bvN,.int .i64 x.s0,.int .i64 x.s1,.int .i64 x.s2,.int .i64 x.s3,.int .i64 x.s4,ints x.buI,frs x.repair,
 .bool x.target.neg,aD x.target.num,aD x.target.den,.bool x.buV.neg,aD x.buV.num,aD x.buV.den]
abbrev dW.cells (x:dW):List PV:=[.str x.name,.int .i64 x.buX]
abbrev aL.cells (f:aL):List PV:=[.int .i64 f.bvX,.sl 4 (f.buS.map cD.cells),.sl 4 (f.buI.map cP.cells),.sl 7 (f.buL.map bJ.cells),.sl 3 (f.buH.map cA.cells),.sl 17 (f.buM.map cV.cells),.sl 2 (f.buK.map dW.cells)]
def cV.spread (p:cV) (level:Nat):Int:=match level with
 | 0=>p.s0
 | 1=>p.s1
 | 2=>p.s2
 | 3=>p.s3
 | _=>p.s4
abbrev Fits {α:Type} (l:List α):Prop:=l.length≤9223372036854775807
structure iR (l:List RF):Prop where
 fits:Fits l
 all:∀ x∈l,x.Ok
structure cD.Ok (x:cD):Prop where
 start:iR x.start
 exit:iR x.exit
 buN:Fits x.buN
 row:∀ r∈x.buN,iR r
structure cV.Ok (x:cV):Prop where
 k:cQ x.k
 m:cQ x.m
 bvN:cQ x.bvN
 buI:Fits x.buI
 each:∀ m∈x.buI,cQ m
 repair:iR x.repair
 target:x.target.Ok
 buV:x.buV.Ok
structure aL.Ok (f:aL):Prop where
 buS:Fits f.buS
 buI:Fits f.buI
 buL:Fits f.buL
 buH:Fits f.buH
 buM:Fits f.buM
 buK:Fits f.buK
 law:∀ x∈f.buS,x.Ok
 dom:∀ x∈f.buL,x.bvB.Ok∧cQ x.level∧cQ x.parent
 drive:∀ x∈f.buH,cQ x.model∧cQ x.machine
 buX:∀ x∈f.buM,x.Ok
 volume:∀ x∈f.buK,cQ x.buX
def lN (x:RF):FR:=if cH (val x.num) (val x.den) then fU x.neg (val x.num) (val x.den) else .error 1
theorem aVR (x:RF):PT x.neg (val x.num) (val x.den)=frV (lN x):=by
 unfold PT lN
 split
 ·exact ahC _ _ _
 ·rfl
def cC (x:RF):Bool:=match lN x with
 | .ok (n,a,b)=>!n&&(decide (bZ a≤32)&&decide (bZ b≤32))
 | .error _=>false
def bW (x:RF):Bool:=decide (val x.num≠0)
def rC (x:RF):Bool:=cH (val x.num) (val x.den)&&decide (oN x.neg (val x.num) (val x.den) false 1 1≤0)
def within (n lo hi:Int):Bool:=decide (lo≤n)&&decide (n≤hi)
def cJ (R:List Bool) (i:Nat) (row:List RF):Nat→List Bool
 | 0=>R
 | k+1=>let R':=cJ R i row k
  R'.set i (R'.getD i false||(row.map bW).getD k false&&R'.getD k false)
def vW (l:cD) (R:List Bool) (i:Nat):List Bool :=
 cJ (R.set i (R.getD i false||(l.exit.map bW).getD i false)) i (l.buN.getD i []) (l.buN.getD i []).length
def cT (l:cD) (R:List Bool):Nat→List Bool
 | 0=>R
 | i+1=>vW l (cT l R i) i
def cX (l:cD):Nat→List Bool
 | 0=>bwP l.exit.length false
 | r+1=>cT l (cX l r) l.exit.length
def tL (l:cD):Bool:=(cX l (l.exit.length+1)).all id
def jN (l:cD):Bool :=
 within l.start.length 1 4&&decide (l.exit.length=l.start.length)&&decide (l.buN.length=l.start.length)&&l.start.all cC&&l.exit.all cC
 && (bwO l.buN.length).all (fun i=>decide ((l.buN.getD i []).length=l.start.length)&&(l.buN.getD i []).all cC&&!((l.buN.getD i []).map bW).getD i false)
 && (match mQ (l.start.map RF.v) with
  | .ok (n,a,b)=>decide (oN n a b false 1 1=0)
  | .error _=>false)&&tL l
def distinct (l:List (List UInt8)):Bool:=(bwO l.length).all fun i=>isName (l.getD i [])&&!(l.take i).contains (l.getD i [])
def DP (f:aL) (i:Nat) (d:bJ):Bool :=
 within d.parent 0 i&&decide ((f.buL.map bJ.level).getD d.parent.toNat 0=IntKind.i64.wrap (d.level-1))&&within d.level 1 4&&within d.bvJ 1 64&&cC d.bvB
def wR (f:aL) (r:bJ) (t:List bJ):Bool :=
 decide (r.name=[])&&decide (r.level=0)&&decide (r.parent=-1)&&decide (r.bvJ=0)&&cC r.bvB&&!bW r.bvB
  && (bwO t.length).all fun i=>match t[i]? with
   | some d=>DP f i d
   | none=>false
def lT (f:aL):Bool:=match f.buL with
 | []=>false
 | r::t=>wR f r t
def FI (p:cV):Bool :=
 within p.k 1 6&&within p.m 0 4&&decide (p.k+p.m≤8)&&within p.bvN p.k (p.k+p.m)&&decide (p.s0=0)&&([p.s0,p.s1,p.s2,p.s3,p.s4].all fun n=>within n 0 8)
def xK (p:cV):Bool :=
 decide ((p.repair.length:Int)=max p.m 1)&&(p.repair.all fun x=>cC x&&bW x)&&cC p.target&&rC p.target&&cC p.buV
def gX (buI:Nat) (p:cV):Bool :=
 FI p&&decide (p.buI.length≠0)&&xK p&&(bwO p.buI.length).all fun j=>within (p.buI.getD j 0) 0 ((buI:Int)-1)&&!(p.buI.take j).contains (p.buI.getD j 0)
def iJ (f:aL) (m:cP):Bool:=within m.bvD 1 16&&within m.port 1 64&&within m.law 0 ((f.buS.length:Int)-1)
def fV (f:aL) (d:cA):Bool:=within d.model 0 ((f.buI.length:Int)-1)&&within d.machine 0 ((f.buL.length:Int)-1)&&decide ((f.buL.map bJ.level).getD d.machine.toNat 0=4)
def lO (f:aL) (v:dW):Bool:=within v.buX 0 ((f.buM.length:Int)-1)
def kR (f:aL):Bool:=within f.bvX 1 4&&decide (f.buS.length≤4)&&decide (f.buI.length≤4)&&decide (f.buL.length≤40)&&decide (f.buH.length≤24)&&decide (f.buM.length≤4)&&decide (f.buK.length≤12)
def dH (f:aL):Bool :=
 kR f&&lT f&&(f.buS.all jN&&f.buI.all (iJ f)&&f.buH.all (fV f)&&f.buM.all (gX f.buI.length)&&f.buK.all (lO f))
 && (distinct (f.buS.map cD.name)&&distinct (f.buI.map cP.name)&&distinct ((f.buL.drop 1).map bJ.name++f.buH.map cA.name)&&distinct (f.buM.map cV.name)&&distinct (f.buK.map dW.name))
theorem aY {t:Nat} {b b':Bool} {F:PF} {H:PH} (h:F t=some (.bool b)) (e:b=b'):aS [.tmp t] (bV (.bool b')) .ret F H:=by
 subst e
 exact aU (.inr rfl) .nil (vs:=[.bool b]) (by rw[kF,nG,h,pC]) PH.nil_le ⟨.refl _,rfl⟩
theorem bfC {C:Ctx} (n lo hi:Int):vG.wp C (aS gin.res (bV (.bool (within n lo hi)))) (PF.args [.int .i64 n,.int .i64 lo,.int .i64 hi]) .nil:=by
 by_cases a:lo≤n
 ·by_cases b:n≤hi
  ·simp only[go_sem,γ,reduceCtorEq,vG,ZR,ZS,gin,show n≥lo from a,b]
   exact aY rfl (by simp[within,a,b])
  ·simp only[go_sem,γ,reduceCtorEq,vG,ZR,ZS,gin,show n≥lo from a,b]
   exact aY rfl (by simp[within,a,b])
 ·have a':¬ n≥lo:=a
  simp only[go_sem,γ,reduceCtorEq,vG,ZR,ZS,gin,a']
  exact aY rfl (by simp[within,a])
theorem aYN {C:Ctx} (L:pP C) (x:RF) (hx:x.Ok):yM.wp C (aS KC.res (bV (.bool (bW x)))) (PF.args [.agg x.cells]) .nil:=by
 simp only[go_sem,δ,γ,θ,yM,akN,akO,KC]
 refine aA (L.bits x.num hx.1 hx.2.2.1) rfl ?_
 simp only[go_sem,γ]
 refine aY rfl ?_
 have:=@iH (val x.num)
 rw[bW,decide_eq_decide]
 omega
structure aqQ (C:Ctx):Prop extends CD C where
 frac:∀ n d:Int,cQ n→cQ d→aE C 115 [.int .i64 n,.int .i64 d] .nil (aC (aaP n d))
 red:∀ x:RF,x.Ok→aE C 116 [.agg x.cells] .nil (aC (frV (lN x)))
 ord:∀ x y:RF,x.Ok→y.Ok→aE C 114 [.agg x.cells,.agg y.cells] .nil (aC (wT x.neg (val x.num) (val x.den) y.neg (val y.num) (val y.den)))
 plus:∀ x y:RF,x.Ok→y.Ok→aE C 113 [.agg x.cells,.agg y.cells] .nil (aC (frV (gD x.v y.v)))
 tot:∀ l:List RF,iR l→aE C 117 [frs l] .nil (aC (frV (mQ (l.map RF.v))))
theorem EW {neg:Bool} {a b:Nat} {e:Int} (h:fU neg a b=.error e):e=2:=by
 unfold fU at h
 split at h
 ·injection h with h; exact h.symm
 ·cases h
theorem aCG {x:RF} {e:Int} (h:lN x=.error e):e≠0:=by
 unfold lN at h
 split at h
 ·rw[EW h]; decide
 ·injection h with h; subst h; decide
theorem bcN {x:RF} {r:FV} (h:lN x=.ok r):r.rf.Ok:=by
 unfold lN at h
 split at h
 ·exact (pZ h).2
 ·cases h
theorem baJ {C:Ctx} (L:aqQ C) (x:RF) (hx:x.Ok):KH.wp C (aS avQ.res (bV (.bool (cC x)))) (PF.args [.agg x.cells]) .nil:=by
 simp only[go_sem,δ,γ,KH,aKT,aKU,avQ]
 refine aA (L.red x hx) rfl ?_
 unfold cC
 cases hr:lN x with
 | error e =>
  have:=bD (aCG hr)
  simp only[go_sem,δ,γ,frV]
  refine aP fun o ho=>?_
  simp only[go_sem,δ,γ,reduceCtorEq,PN,this]
  exact aY rfl rfl
 | ok r =>
  obtain⟨n,a,b⟩:=r
  obtain⟨l1,l2,l3,l4⟩:=bcN hr
  simp only[go_sem,δ,γ,frV]
  refine aP fun o ho=>?_
  cases n with
  | true =>
   simp only[go_sem,ρ,δ,γ,θ,reduceCtorEq,PN]
   exact aY rfl rfl
  | false =>
   simp only[go_sem,ρ,δ,γ,θ,PN]
   refine aA (L.bits _ l1 l3) rfl ?_
   rw[show val (FV.rf (false,a,b)).num=a from aQ a]
   by_cases c1:bZ a≤32
   ·have c1':((bZ a:Nat):Int)≤32:=by omega
    simp only[go_sem,δ,γ,c1']
    refine aA (L.bits _ l2 l4) rfl ?_
    rw[show val (FV.rf (false,a,b)).den=b from aQ b]
    simp only[go_sem,γ]
    refine aY rfl ?_
    rw[decide_eq_true c1]
    simp
    omega
   ·have c1':¬ ((bZ a:Nat):Int)≤32:=by omega
    simp only[go_sem,γ,reduceCtorEq,c1']
    refine aY rfl ?_
    rw[decide_eq_false c1]
    rfl
theorem ayC:fU false 1 1=.ok (false,1,1):=by
 have:bZ 1=1:=by rw[mI (by decide),gU]
 simp[fU,this]
theorem ayH:aaP 1 1=frV (.ok (false,1,1)):=by
 rw[aaP,if_neg (by decide),ahC]
 show frV (fU false 1 1)=_
 rw[ayC]
theorem a0E:(FV.rf (false,1,1)).Ok:=(pZ ayC).2
theorem aoQ:cH 1 1=true:=by
 have:bZ 1=1:=by rw[mI (by decide),gU]
 simp[cH,this]
theorem baN {C:Ctx} (L:aqQ C) (x:RF) (hx:x.Ok):KJ.wp C (aS gone.res (bV (.bool (rC x)))) (PF.args [.agg x.cells]) .nil:=by
 simp only[go_sem,KJ,aKY,aKZ,gone]
 refine aA (L.frac 1 1 (by decide) (by decide)) rfl ?_
 rw[ayH]
 simp only[go_sem,δ,γ,frV]
 refine aP fun o ho=>?_
 simp only[go_sem,δ,γ,aLA]
 refine aA (L.ord x (FV.rf (false,1,1)) hx a0E) rfl ?_
 rw[show val (FV.rf (false,1,1)).num=1 from aQ 1,show val (FV.rf (false,1,1)).den=1 from aQ 1,show (FV.rf (false,1,1)).neg=false from rfl]
 unfold wT rC
 rw[aoQ,byL]
 cases hv:cH (val x.num) (val x.den) with
 | false =>
  simp only[go_sem,ρ,γ,reduceCtorEq,agU]
  exact aY rfl rfl
 | true =>
  simp only[go_sem,ρ,γ,agU]
  exact aY rfl rfl
theorem a4H {C:Ctx} (p:RF→Bool) (fn:Nat) (l:List RF) (hf:Fits l) (h:∀ x∈l,aE C fn [.agg x.cells] .nil (aC (.bool (p x)))) :
  EB.wp C (aS ZO.res (bV (.bool (l.all p)))) (PF.args [frs l,.fn fn []]) .nil:=by
 simp only[go_sem,γ,reduceCtorEq,EB,auN,auO,ZO]
 refine wp_loop (α:=Nat) (fun k=>((((PF.nil.set 1 (.fn fn [])).set 7 (frs l)).set 8 (.int .i64 (l.length:Nat))).set 9 (.int .i64 k))) (fun _=>.nil) (fun k=>k≤l.length∧(l.take k).all p=true) (fun k=>l.length-k) 0 ⟨bwZ _,rfl⟩ ?_ PH.nil_le ?_
 ·(repeat' (first|exact PF.nil_le|refine PF.aH ?_ ?_))<;>first|(simp only[go_sem,γ,bwN]<;>rfl)|rfl
 rintro k ⟨hk,ha⟩
 simp only[go_sem,γ,auM,auP]
 by_cases hlt:k<l.length
 ·have buP:(k:Int)<(l.length:Nat):=by omega
  have hr:(l.map RF.cells)[k]?=some (l[k]).cells:=by simp[hlt]
  simp only[go_sem,δ,γ,buP,auQ,hr]
  refine aP fun o ho=>?_
  simp only[go_sem,δ,γ,auR]
  refine⟨fn,[],rfl,?_⟩
  refine aA (h _ (bwS hlt)) rfl ?_
  cases hp:p l[k] with
  | false =>
   simp only[go_sem,γ,auS]
   exact aY (b:=false) rfl (mH (p:=p) hlt hp).symm
  | true =>
   simp only[go_sem,γ,auT,wZz k]
   refine aJ (k+1) ⟨hlt,bxL.1 (mG hlt ha hp)⟩ Om ?_ PH.nil_le
   exact Lq
 ·have buP:¬ (k:Int)<(l.length:Nat):=by omega
  simp only[go_sem,buP,auU]
  have:k=l.length:=by omega
  subst this
  rw[bxC (bwR _)] at ha
  exact aY rfl ha.symm
theorem a4J {C:Ctx} (p:Int→Bool) (fn:Nat) (l:List Int) (hf:Fits l) (h:∀ x∈l,aE C fn [.int .i64 x] .nil (aC (.bool (p x)))) :
  EC.wp C (aS ZP.res (bV (.bool (l.all p)))) (PF.args [ints l,.fn fn []]) .nil:=by
 simp only[go_sem,γ,reduceCtorEq,EC,auW,auX,ZP]
 refine wp_loop (α:=Nat) (fun k=>((((PF.nil.set 1 (.fn fn [])).set 7 (ints l)).set 8 (.int .i64 (l.length:Nat))).set 9 (.int .i64 k))) (fun _=>.nil) (fun k=>k≤l.length∧(l.take k).all p=true) (fun k=>l.length-k) 0 ⟨bwZ _,rfl⟩ ?_ PH.nil_le ?_
 ·(repeat' (first|exact PF.nil_le|refine PF.aH ?_ ?_))<;>first|(simp only[go_sem,γ,bwN]<;>rfl)|rfl
 rintro k ⟨hk,ha⟩
 simp only[go_sem,γ,auV,auY]
 by_cases hlt:k<l.length
 ·have buP:(k:Int)<(l.length:Nat):=by omega
  have hr:(l.map fun n=>[PV.int .i64 n])[k]?=some [.int .i64 l[k]]:=by simp[hlt]
  simp only[go_sem,γ,buP,auZ,hr,avA]
  refine⟨fn,[],rfl,?_⟩
  refine aA (h _ (bwS hlt)) rfl ?_
  cases hp:p l[k] with
  | false =>
   simp only[go_sem,γ,avB]
   exact aY (b:=false) rfl (mH (p:=p) hlt hp).symm
  | true =>
   simp only[go_sem,γ,avC,wZz k]
   refine aJ (k+1) ⟨hlt,bxL.1 (mG hlt ha hp)⟩ Om ?_ PH.nil_le
   exact Lq
 ·have buP:¬ (k:Int)<(l.length:Nat):=by omega
  simp only[go_sem,buP,avD]
  have:k=l.length:=by omega
  subst this
  rw[bxC (bwR _)] at ha
  exact aY rfl ha.symm
abbrev aSY (l:List Bool):PV:=.sl 1 (l.map fun b=>[PV.bool b])
theorem a4F {C:Ctx} (p:Bool→Bool) (fn:Nat) (l:List Bool) (hf:Fits l) (h:∀ x∈l,aE C fn [.bool x] .nil (aC (.bool (p x)))) :
  EA.wp C (aS ZN.res (bV (.bool (l.all p)))) (PF.args [aSY l,.fn fn []]) .nil:=by
 simp only[go_sem,γ,reduceCtorEq,EA,auE,auF,ZN]
 refine wp_loop (α:=Nat) (fun k=>((((PF.nil.set 1 (.fn fn [])).set 7 (aSY l)).set 8 (.int .i64 (l.length:Nat))).set 9 (.int .i64 k))) (fun _=>.nil) (fun k=>k≤l.length∧(l.take k).all p=true) (fun k=>l.length-k) 0 ⟨bwZ _,rfl⟩ ?_ PH.nil_le ?_
 ·(repeat' (first|exact PF.nil_le|refine PF.aH ?_ ?_))<;>first|(simp only[go_sem,γ,bwN]<;>rfl)|rfl
 rintro k ⟨hk,ha⟩
 simp only[go_sem,γ,auD,auG]
 by_cases hlt:k<l.length
 ·have buP:(k:Int)<(l.length:Nat):=by omega
  have hr:(l.map fun b=>[PV.bool b])[k]?=some [.bool l[k]]:=by simp[hlt]
  simp only[go_sem,γ,buP,auH,hr,auI]
  refine⟨fn,[],rfl,?_⟩
  refine aA (h _ (bwS hlt)) rfl ?_
  cases hp:p l[k] with
  | false =>
   simp only[go_sem,γ,auJ]
   exact aY (b:=false) rfl (mH (p:=p) hlt hp).symm
  | true =>
   simp only[go_sem,γ,auK,wZz k]
   refine aJ (k+1) ⟨hlt,bxL.1 (mG hlt ha hp)⟩ Om ?_ PH.nil_le
   exact Lq
 ·have buP:¬ (k:Int)<(l.length:Nat):=by omega
  simp only[go_sem,buP,auL]
  have:k=l.length:=by omega
  subst this
  rw[bxC (bwR _)] at ha
  exact aY rfl ha.symm
theorem aYP {C:Ctx} (b:Bool):yN.wp C (aS KD.res (bV (.bool b))) (PF.args [.bool b]) .nil:=by
 simp only[go_sem,γ,reduceCtorEq,yN,akP,akQ,KD]
 exact aY rfl rfl
theorem a4O {C:Ctx} (hin:∀ n lo hi:Int,aE C 104 [.int .i64 n,.int .i64 lo,.int .i64 hi] .nil (aC (.bool (within n lo hi)))) (n:Int):EG.wp C (aS ZT.res (bV (.bool (within n 0 8)))) (PF.args [.int .i64 n]) .nil:=by
 simp only[go_sem,reduceCtorEq,EG,avS,avT,ZT]
 refine aA (hin n 0 8) rfl ?_
 simp only[go_sem,γ]
 exact aY rfl rfl
theorem aYS {C:Ctx} (h1:∀ x:RF,x.Ok→aE C 105 [.agg x.cells] .nil (aC (.bool (cC x)))) (h2:∀ x:RF,x.Ok→aE C 97 [.agg x.cells] .nil (aC (.bool (bW x)))) (x:RF) (hx:x.Ok) :
  yO.wp C (aS KL.res (bV (.bool (cC x&&bW x)))) (PF.args [.agg x.cells]) .nil:=by
 simp only[go_sem,δ,γ,yO,akV,akW,KL]
 refine aA (h1 x hx) rfl ?_
 cases hl:cC x with
 | false =>
  simp only[go_sem,γ,reduceCtorEq]
  exact aY rfl rfl
 | true =>
  simp only[go_sem,δ,γ]
  refine aA (h2 x hx) rfl ?_
  simp only[go_sem,γ]
  exact aY rfl rfl
structure pO (C:Ctx):Prop extends aqQ C where
 inn:∀ n lo hi:Int,aE C 104 [.int .i64 n,.int .i64 lo,.int .i64 hi] .nil (aC (.bool (within n lo hi)))
 tC:∀ x:RF,x.Ok→aE C 97 [.agg x.cells] .nil (aC (.bool (bW x)))
 lim:∀ x:RF,x.Ok→aE C 105 [.agg x.cells] .nil (aC (.bool (cC x)))
 one:∀ x:RF,x.Ok→aE C 101 [.agg x.cells] .nil (aC (.bool (rC x)))
 allf:∀ (p:RF→Bool) (fn:Nat) (l:List RF),Fits l→(∀ x∈l,aE C fn [.agg x.cells] .nil (aC (.bool (p x))))→aE C 99 [frs l,.fn fn []] .nil (aC (.bool (l.all p)))
 alli:∀ (p:Int→Bool) (fn:Nat) (l:List Int),Fits l→(∀ x∈l,aE C fn [.int .i64 x] .nil (aC (.bool (p x))))→aE C 100 [ints l,.fn fn []] .nil (aC (.bool (l.all p)))
 allb:∀ (p:Bool→Bool) (fn:Nat) (l:List Bool),Fits l→(∀ x∈l,aE C fn [.bool x] .nil (aC (.bool (p x))))→aE C 98 [aSY l,.fn fn []] .nil (aC (.bool (l.all p)))
 ends1:∀ b:Bool,aE C 103 [.bool b] .nil (aC (.bool b))
 num1:∀ n:Int,aE C 107 [.int .i64 n] .nil (aC (.bool (within n 0 8)))
 rate1:∀ x:RF,x.Ok→aE C 109 [.agg x.cells] .nil (aC (.bool (cC x&&bW x)))
 name:∀ s:List UInt8,aE C 123 [.str s] .nil (aC (.bool (isName s)))
theorem pO.a5G {C:Ctx} (L:pO C) (l:List RF) (h:iR l):aE C 99 [frs l,.fn 105 []] .nil (aC (.bool (l.all cC))) :=
 L.allf cC 105 l h.fits fun x hx=>L.lim x (h.all x hx)
theorem within_iff {n lo hi:Int}:within n lo hi=true↔lo≤n∧n≤hi:=by simp[within]
theorem baL {C:Ctx} (L:pO C) (p:cV) (hp:p.Ok) :
  KI.wp C (aS avR.res (bV (.bool (FI p)))) (PF.args [.int .i64 p.k,.int .i64 p.m,.int .i64 p.bvN,.agg [.int .i64 p.s0,.int .i64 p.s1,.int .i64 p.s2,.int .i64 p.s3,.int .i64 p.s4]]) .nil:=by
 simp only[go_sem,reduceCtorEq,KI,aKV,aKW,avR]
 refine aA (L.inn p.k 1 6) rfl ?_
 unfold FI
 cases h1:within p.k 1 6 with
 | false =>
  simp only[go_sem,γ,bxB,uL]
  exact aY rfl (by simp only[bwT])
 | true =>
  obtain⟨k1,k2⟩:=within_iff.1 h1
  simp only[go_sem,γ,bwU]
  refine aA (L.inn p.m 0 4) rfl ?_
  cases h2:within p.m 0 4 with
  | false =>
   simp only[go_sem,γ,reduceCtorEq,bxB,uL]
   exact aY rfl (by simp only[bwT,bxT])
  | true =>
   obtain⟨m1,m2⟩:=within_iff.1 h2
   have hw:IntKind.i64.wrap (p.k+p.m)=p.k+p.m:=wrap_i64 Om Om
   by_cases h3:p.k+p.m≤8
   ·have h3':¬ p.k+p.m>8:=by omega
    simp only[go_sem,γ,reduceCtorEq,bwU,hw,h3']
    refine aA (L.inn p.bvN p.k (p.k+p.m)) rfl ?_
    cases h4:within p.bvN p.k (p.k+p.m) with
    | false =>
     simp only[go_sem,γ,reduceCtorEq,bxB,uL]
     exact aY rfl (by simp only[bwT,bxT])
    | true =>
     have h50:(0:Int)<((5:Nat):Int):=by decide
     by_cases h5:p.s0=0
     ·have hch:chunks 1 5 [PV.int .i64 p.s0,.int .i64 p.s1,.int .i64 p.s2,.int .i64 p.s3,.int .i64 p.s4]=([p.s0,p.s1,p.s2,p.s3,p.s4].map fun n=>[PV.int .i64 n]):=rfl
      have hm:5≤maxLen:=by decide
      simp only[go_sem,ν,δ,γ,η,θ,ζ,reduceCtorEq,bwU,h50,cO h5,aKX,hch,hm]
      refine aA (L.alli (fun n=>within n 0 8) 107 [p.s0,p.s1,p.s2,p.s3,p.s4] (show 5≤9223372036854775807 by decide) fun x _=>L.num1 x) rfl ?_
      simp only[go_sem,γ]
      exact aY rfl (by rw[decide_eq_true h3,decide_eq_true h5]; simp only[bwY])
     ·simp only[go_sem,ν,δ,γ,θ,ζ,reduceCtorEq,bwU,h50,dA h5,uL]
      exact aY rfl (by rw[decide_eq_false h5]; simp only[bwT,bxT])
   ·have h3':p.k+p.m>8:=by omega
    simp only[go_sem,γ,reduceCtorEq,bwU,hw,h3',uL]
    exact aY rfl (by rw[decide_eq_false h3]; simp only[bwT,bxT])
theorem max_eq (a b:Int):(if a<b then b else a)=max a b:=by
 rw[Int.max_def]
 by_cases h:a<b
 ·rw[if_pos h,if_pos Om]
 ·by_cases h':a≤b
  ·rw[if_neg h,if_pos h']; omega
  ·rw[if_neg h,if_neg h']
theorem a4Q {C:Ctx} (L:pO C) (p:cV) (hp:p.Ok) :
  EH.wp C (aS ZU.res (bV (.bool (xK p)))) (PF.args [.int .i64 p.m,frs p.repair,.agg p.target.cells,.agg p.buV.cells]) .nil:=by
 simp only[go_sem,γ,reduceCtorEq,EH,avY,avZ,ZU,max_eq,bwN]
 unfold xK
 by_cases h1:(p.repair.length:Int)=max p.m 1
 ·simp only[go_sem,γ,bX h1]
  refine aA (L.allf (fun x=>cC x&&bW x) 109 p.repair hp.repair.fits fun x hx=>L.rate1 x (hp.repair.all x hx)) rfl ?_
  rw[decide_eq_true h1,bwY]
  cases h2:p.repair.all fun x=>cC x&&bW x with
  | false =>
   simp only[go_sem,γ,reduceCtorEq]
   exact aY rfl rfl
  | true =>
   simp only[go_sem,δ,γ]
   refine aA (L.lim _ hp.target) rfl ?_
   cases h3:cC p.target with
   | false =>
    simp only[go_sem,γ,reduceCtorEq]
    exact aY rfl rfl
   | true =>
    simp only[go_sem,δ,γ]
    refine aA (L.one _ hp.target) rfl ?_
    cases h4:rC p.target with
    | false =>
     simp only[go_sem,γ,reduceCtorEq]
     exact aY rfl rfl
    | true =>
     simp only[go_sem,δ,γ]
     refine aA (L.lim _ hp.buV) rfl ?_
     simp only[go_sem,γ]
     exact aY rfl rfl
 ·simp only[go_sem,γ,reduceCtorEq,bD h1]
  exact aY rfl (by rw[decide_eq_false h1]; rfl)
def nI (l:List (List UInt8)) (k:List KS):Option PV:=match k with
 | [.str s]=>if l.contains s then some (.bool true) else none
 | _=>none
theorem a0U (l:List (List UInt8)) (s:List UInt8):(fun k=>if k=[KS.str s] then some (PV.bool true) else nI l k)=nI (l++[s]):=by
 funext k
 match k with
 | []=>rfl
 | [.int a b]=>simp[nI]
 | [.bool a]=>simp[nI]
 | [.str t] =>
  by_cases h:t=s
  ·subst h; simp[nI]
  ·simp[nI,h]
 | a::b::c=>simp[nI]
abbrev texts (l:List (List UInt8)):PV:=.sl 1 (l.map fun s=>[PV.str s])
theorem a0T:nI []=(fun _=>none:fZ):=by
 funext k
 match k with
 | []=>rfl
 | [.int a b]=>rfl
 | [.bool a]=>rfl
 | [.str t]=>rfl
 | a::b::c=>cases a<;>rfl
theorem a0V (l:List (List UInt8)) (s:List UInt8):fZ.upd (nI l) [KS.str s] (.bool true)=nI (l++[s]):=a0U l s
theorem aCS (l:List (List UInt8)) (s:List UInt8):(nI l [KS.str s]).getD (.bool false)=.bool (l.contains s):=by
 show (if l.contains s then some (PV.bool true) else none).getD (.bool false)=_
 cases l.contains s<;>rfl
theorem aiA {p:Nat→Bool} {k:Nat} (h:(bwO k).all p=true) (hp:p k=true):(bwO (k+1)).all p=true:=by
 rw[List.range_succ,List.all_append,h]; simp[hp]
theorem dJ {p:Nat→Bool} {n k:Nat} (hk:k<n) (hp:p k=false):(bwO n).all p=false:=by
 rw[List.all_eq_false]
 exact⟨k,byD.2 hk,by simp[hp]⟩
def lP (p:Nat→Bool) (k:Nat):Prop:=(bwO k).all p=true
theorem lP.zero {p:Nat→Bool}:lP p 0:=rfl
theorem lP.step {p:Nat→Bool} {k:Nat} (h:lP p k) (hp:p k=true):lP p (k+1):=aiA h hp
def aWP (l:List (List UInt8)) (o k:Nat):PF:=((((PF.nil.set 3 (.map o)).set 7 (texts l)).set 8 (.int .i64 (l.length:Nat))).set 9 (.int .i64 k))
theorem a4T {C:Ctx} (L:pO C) (l:List (List UInt8)) (hf:Fits l):EI.wp C (aS ZV.res (bV (.bool (distinct l)))) (PF.args [texts l]) .nil:=by
 simp only[go_sem,EI,awB,awC,ZV]
 refine aP fun o ho=>?_
 simp only[go_sem,γ,reduceCtorEq,awD]
 have e0:(PH.nil.set o (.map (false,[.str]) (fun _=>none)))=PH.nil.set o (.map (false,[.str]) (nI (l.take 0))):=by rw[List.take_zero,a0T]
 unfold distinct
 generalize hp:(fun i=>isName (l.getD i [])&&!(l.take i).contains (l.getD i []))=p
 have hpk:∀ k (h:k<l.length),p k=(isName l[k]&&!(l.take k).contains l[k]):=by
  intro k h
  rw[← hp]
  simp only[bxI,bxA h,bzG]
 refine wp_loop (α:=Nat) (fun k=>aWP l o k) (fun k=>PH.nil.set o (.map (false,[.str]) (nI (l.take k)))) (fun k=>k≤l.length∧lP p k) (fun k=>l.length-k) 0 ⟨bwZ _,.zero⟩ ?_ ?_ ?_
 ·unfold aWP
  (repeat' (first|exact PF.nil_le|refine PF.aH ?_ ?_))<;>first|(simp only[go_sem,γ,bwN]<;>rfl)|rfl
 ·rw[e0]; exact PH.le_refl
 rintro k ⟨hk,ha⟩
 simp only[go_sem,γ,awA,awE,aWP]
 by_cases hlt:k<l.length
 ·have buP:(k:Int)<(l.length:Nat):=by omega
  have hr:(l.map fun s=>[PV.str s])[k]?=some [.str l[k]]:=by simp[hlt]
  simp only[go_sem,γ,buP,awF,hr,awG]
  refine aA (L.name l[k]) rfl ?_
  have hk2:=hpk k hlt
  cases h1:isName l[k] with
  | false =>
   rw[h1,bwT] at hk2
   simp only[go_sem,γ,bxB,UB]
   exact aY (b:=false) rfl (dJ hlt hk2).symm
  | true =>
   rw[h1,bwY] at hk2
   cases h2:(l.take k).contains l[k] with
   | true =>
    rw[h2] at hk2
    simp only[go_sem,γ,reduceCtorEq,bwU,aCS,h2,UB]
    exact aY (b:=false) rfl (dJ hlt hk2).symm
   | false =>
    rw[h2] at hk2
    simp only[go_sem,γ,reduceCtorEq,bwU,aCS,h2,awH,a0V,awI,wZz k]
    refine aJ (k+1) ⟨hlt,ha.step hk2⟩ Om ?_ ?_
    ·exact Lq
    ·rw[byH hlt]
     exact PH.aH PH.nil_le Sq
 ·have buP:¬ (k:Int)<(l.length:Nat):=by omega
  simp only[go_sem,buP,akX]
  have:k=l.length:=by omega
  subst this
  exact aY (b:=true) rfl (show lP p l.length from ha).symm
def marks (n:Nat) (l:List Int):List Bool:=(bwO n).map fun (i:Nat)=>l.contains (i:Int)
theorem aZD (n:Nat):marks n []=bwP n false:=by
 refine List.ext_getElem (by simp[marks]) fun i h1 h2=>by simp[marks]
theorem a5K {n:Nat} {l:List Int} {m:Int} (h0:0≤m) (h1:m<n):(marks n l)[m.toNat]?=some (l.contains m):=by
 have:m.toNat<n:=by omega
 simp only[marks,bxW,List.getElem?_range this,bxS]
 rw[Int.toNat_of_nonneg h0]
theorem aZE {n:Nat} {l:List Int} {m:Int} (h0:0≤m) (h1:m<n):(marks n l).set m.toNat true=marks n (l++[m]):=by
 refine List.ext_getElem (by simp[marks]) fun i h2 h3=>?_
 simp only[marks,byO,List.getElem_range,List.getElem_set,List.contains_append]
 by_cases h:m.toNat=i
 ·subst h
  rw[if_pos rfl,Int.toNat_of_nonneg h0]; simp
 ·have hne:((i:Nat):Int)≠m:=by omega
  rw[if_neg h]; simp[hne]
abbrev fE (l:List Bool):List (List PV):=l.map fun b=>[PV.bool b]
theorem jW (l:List Bool) (i:Nat) (b:Bool):(fE l).set i [.bool b]=fE (l.set i b):=by unfold fE; rw[List.map_set]
structure arE (C:Ctx):Prop extends pO C where
 num:∀ p:cV,p.Ok→aE C 106 [.int .i64 p.k,.int .i64 p.m,.int .i64 p.bvN,.agg [.int .i64 p.s0,.int .i64 p.s1,.int .i64 p.s2,.int .i64 p.s3,.int .i64 p.s4]] .nil (aC (.bool (FI p)))
 rate:∀ p:cV,p.Ok→aE C 108 [.int .i64 p.m,frs p.repair,.agg p.target.cells,.agg p.buV.cells] .nil (aC (.bool (xK p)))
 uniq:∀ l:List (List UInt8),Fits l→aE C 110 [texts l] .nil (aC (.bool (distinct l)))
def a6D (p:cV) (buI:Nat) (o k:Nat):PF:=(((((PF.nil.set 1 (.int .i64 buI)).set 5 (.osl o 1 0 buI)).set 39 (ints p.buI)).set 40 (.int .i64 (p.buI.length:Nat))).set 41 (.int .i64 k))
theorem baP {C:Ctx} (L:arE C) (p:cV) (hp:p.Ok) (buI:Nat) (hm:buI≤4):KK.wp C (aS avU.res (bV (.bool (gX buI p)))) (PF.args [.agg p.cells,.int .i64 buI]) .nil:=by
 simp only[go_sem,δ,γ,θ,KK,aLB,aLC,avU]
 refine aA (L.num p hp) rfl ?_
 unfold gX
 cases h1:FI p with
 | false =>
  simp only[go_sem,γ,bxB,PO]
  exact aY rfl (by simp only[bwT])
 | true =>
  by_cases h2:p.buI.length=0
  ·simp only[go_sem,δ,γ,θ,reduceCtorEq,bwU,bwN,bX (Om:((p.buI.length:Nat):Int)=0),PO]
   refine aY rfl ?_
   have:decide (p.buI.length≠0)=false:=by simp[h2]
   rw[this]; simp only[bwT,bxT]
  ·have h2':decide (p.buI.length≠0)=true:=by simp[h2]
   simp only[go_sem,δ,γ,θ,reduceCtorEq,bwU,bwN,bD (Om:((p.buI.length:Nat):Int)≠0)]
   refine aA (L.rate p hp) rfl ?_
   rw[h2']
   cases h3:xK p with
   | false =>
    simp only[go_sem,γ,reduceCtorEq,bxB,PO]
    exact aY rfl (by simp only[bwT,bxT])
   | true =>
    have hb1:((buI:Nat):Int)*((1:Nat):Int)≤140737488355328:=by omega
    have hb2:((buI:Nat):Int)≤9223372036854775807:=by omega
    simp only[bwY]
    simp only[go_sem,γ,reduceCtorEq,bwU,aLD,hb1,hb2]
    refine aP fun o ho=>?_
    simp only[go_sem,δ,γ,θ,aLE]
    have e0:bwP buI [PV.bool false]=fE (marks buI (p.buI.take 0)):=by
     rw[List.take_zero,aZD]; simp[fE]
    rw[e0]
    generalize hq:(fun j=>within (p.buI.getD j 0) 0 ((buI:Int)-1)&&!(p.buI.take j).contains (p.buI.getD j 0))=q
    have hqk:∀ k (h:k<p.buI.length),q k=(within p.buI[k] 0 ((buI:Int)-1)&&!(p.buI.take k).contains p.buI[k]):=by
     intro k h
     rw[← hq]
     simp only[bxI,bxA h,bzG]
    refine wp_loop (α:=Nat) (fun k=>a6D p buI o k) (fun k=>PH.nil.set o (.rows 1 (fE (marks buI (p.buI.take k))))) (fun k=>k≤p.buI.length∧lP q k) (fun k=>p.buI.length-k) 0 ⟨bwZ _,.zero⟩ ?_ (PH.le_refl) ?_
    ·unfold a6D
     (repeat' (first|exact PF.nil_le|refine PF.aH ?_ ?_))<;>first|(simp only[go_sem,γ,bwN]<;>rfl)|rfl
    rintro k ⟨hk,ha⟩
    simp only[go_sem,γ,avV,aLF,a6D]
    have bvY:=hp.buI
    by_cases hlt:k<p.buI.length
    ·have buP:(k:Int)<(p.buI.length:Nat):=by omega
     have hr:(p.buI.map fun n=>[PV.int .i64 n])[k]?=some [.int .i64 p.buI[k]]:=by simp[hlt]
     have hw:IntKind.i64.wrap ((buI:Int)-1)=(buI:Int)-1:=wrap_i64 Om Om
     simp only[go_sem,γ,buP,aLG,hr,aLH,hw]
     refine aA (L.inn p.buI[k] 0 ((buI:Int)-1)) rfl ?_
     have hk2:=hqk k hlt
     cases h1:within p.buI[k] 0 ((buI:Int)-1) with
     | false =>
      rw[h1,bwT] at hk2
      simp only[go_sem,γ,bxB,agV]
      exact aY (b:=false) rfl (dJ hlt hk2).symm
     | true =>
      rw[h1,bwY] at hk2
      obtain⟨i1,i2⟩:=within_iff.1 h1
      have i3:p.buI[k]<(buI:Nat):=by omega
      have hmk:(fE (marks buI (p.buI.take k)))[p.buI[k].toNat]?=some [.bool ((p.buI.take k).contains p.buI[k])]:=by
       unfold fE
       rw[bxW,a5K i1 i3]; rfl
      cases h2:(p.buI.take k).contains p.buI[k] with
      | true =>
       rw[h2] at hk2 hmk
       simp only[go_sem,γ,reduceCtorEq,bwU,i1,i3,bxO,hmk,agV]
       exact aY (b:=false) rfl (dJ hlt hk2).symm
      | false =>
       rw[h2] at hk2 hmk
       simp only[go_sem,γ,reduceCtorEq,bwU,i1,i3,bxO,hmk,aLI,jW,aZE i1 i3,avW,wZz k]
       refine aJ (k+1) ⟨hlt,ha.step hk2⟩ Om ?_ ?_
       ·exact Lq
       ·rw[byH hlt]
        exact PH.aH PH.nil_le Sq
    ·have buP:¬ (k:Int)<(p.buI.length:Nat):=by omega
     simp only[go_sem,buP,avX]
     have:k=p.buI.length:=by omega
     subst this
     exact aY (b:=true) rfl (show lP q p.buI.length from ha).symm
def a3I:PV→RF
 | .agg [.bool n,a,b]=>⟨n,gG a,gG b⟩
 | _=>⟨false,[],[]⟩
theorem aTF (x:RF):a3I (.agg x.cells)=x:=by
 show (⟨x.neg,gG (aD x.num),gG (aD x.den)⟩:RF)=x
 rw[dP,dP]
def flS:Spec:=fun name vs=>match name,vs with
 | 104,[.int _ n,.int _ lo,.int _ hi]=>some ([],fun _=>aC (.bool (within n lo hi)))
 | 105,[x]=>some ([],fun _=>aC (.bool (cC (a3I x))))
 | 97,[x]=>some ([],fun _=>aC (.bool (bW (a3I x))))
 | _,_=>none
theorem atR (n lo hi:Int):flS 104 [.int .i64 n,.int .i64 lo,.int .i64 hi]=some ([],fun _=>aC (.bool (within n lo hi))):=rfl
theorem baA (x:RF):flS 105 [.agg x.cells]=some ([],fun _=>aC (.bool (cC x))):=by
 show some _=_; rw[aTF]
def aTZ (f:aL) (t:List bJ) (k:Nat):PF:=((((PF.nil.set 1 (.buR f.cells)).set 45 (.sl 7 (t.map bJ.cells))).set 46 (.int .i64 (t.length:Nat))).set 47 (.int .i64 k))
theorem baF {C:Ctx} (L:pO C) (f:aL) (hf:f.Ok):wY.wp C (aS agR.res (bV (.bool (lT f)))) (PF.args [.agg f.cells]) .nil:=by
 obtain⟨bvX,buS,buI,buL,buH,buM,buK⟩:=f
 cases buL with
 | nil =>
  rw[show lT ⟨bvX,buS,buI,[],buH,buM,buK⟩=false from rfl]
  simp only[go_sem,δ,γ,θ,wY,agS,agT,agR,List.map_nil,byV]
  have:(((0:Nat):Int)==0)=true:=rfl
  simp only[go_sem,this,aKF]
  exact aY rfl rfl
 | cons r t =>
  generalize hF:(⟨bvX,buS,buI,r::t,buH,buM,buK⟩:aL)=f at *
  have hd:f.buL=r::t:=by rw[← hF]
  have hP:lT f=wR f r t:=by unfold lT; rw[hd]
  rw[hP]
  unfold wR
  have hlen:f.buL.length=t.length+1:=by rw[hd]; rfl
  have bvY:=hf.buL
  have hr0:(f.buL.map bJ.cells)[0]?=some r.cells:=by rw[hd]; rfl
  have hr0':(f.buL.map bJ.cells)[Int.toNat 0]?=some r.cells:=hr0
  have hok:=hf.dom
  have hrok:=hok r (by rw[hd]; exact List.mem_cons_self ..)
  simp only[go_sem,ο,ν,δ,γ,θ,wY,agS,agT,agR,bwN,hlen,bD (Om:((t.length+1:Nat):Int)≠0),aKG,hr0]
  refine aP fun o ho=>?_
  by_cases c1:r.name=[]
  ·rw[decide_eq_true c1]
   by_cases c2:r.level=0
   ·rw[decide_eq_true c2]
    by_cases c3:r.parent=-1
    ·rw[decide_eq_true c3]
     by_cases c4:r.bvJ=0
     ·rw[decide_eq_true c4]
      simp only[go_sem,ο,δ,γ,θ,reduceCtorEq,uJ,mU c1,bwU,cO c2,cO c3,cO c4]
      refine aA (L.lim r.bvB hrok.1) rfl ?_
      cases c5:cC r.bvB with
      | false =>
       simp only[go_sem,γ,reduceCtorEq,bxB,qW]
       exact aY rfl (by simp only[bxT,bwT])
      | true =>
       simp only[go_sem,δ,γ,reduceCtorEq,bwU]
       refine aA (L.tC r.bvB hrok.1) rfl ?_
       cases c6:bW r.bvB with
       | true =>
        simp only[go_sem,γ,reduceCtorEq,qW]
        exact aY rfl (by simp only[bwU,bxT,bwT])
       | false =>
        have hsl:(0:Int)≤1∧(1:Int)≤((t.length+1:Nat):Int):=by omega
        have hdrop:((f.buL.map bJ.cells).take (t.length+1)).drop (Int.toNat 1)=t.map bJ.cells:=by
         rw[bxC (by simp[hlen]),hd]; rfl
        have hdrop':((f.buL.map bJ.cells).take (t.length+1)).drop 1=t.map bJ.cells:=hdrop
        simp only[go_sem,ν,δ,γ,θ,reduceCtorEq,aKH,bwN,hlen,hsl,hdrop',bzO]
        generalize hq:(fun i=>match t[i]? with | some d=>DP f i d | none=>false)=q
        have hqk:∀ k (h:k<t.length),q k=DP f k t[k]:=by
         intro k h
         rw[← hq]
         simp only[bxA h]
        refine wp_loop (α:=Nat) (fun k=>aTZ f t k) (fun k=>.nil) (fun k=>k≤t.length∧lP q k) (fun k=>t.length-k) 0 ⟨bwZ _,.zero⟩ ?_ PH.nil_le ?_
        ·unfold aTZ
         (repeat' (first|exact PF.nil_le|refine PF.aH ?_ ?_))<;>first|(simp only[go_sem,γ,bwN]<;>rfl)|rfl
        rintro k ⟨hk,ha⟩
        simp only[go_sem,γ,avE,aKI,aTZ]
        by_cases hlt:k<t.length
        ·have buP:(k:Int)<(t.length:Nat):=by omega
         have hrk:(t.map bJ.cells)[k]?=some (t[k]).cells:=by simp[hlt]
         have hdk:=hok t[k] (by rw[hd]; exact List.mem_cons_of_mem _ (bwS hlt))
         have hk2:=hqk k hlt
         unfold DP at hk2
         simp only[go_sem,δ,γ,buP,aKJ,hrk]
         refine aP fun o2 ho2=>?_
         simp only[go_sem,δ,γ]
         refine bM .nil flS PH.nil_le ?_
         simp only[go_sem,δ,γ,θ,reduceCtorEq,aKK]
         refine bF (atR _ 0 k) (L.inn (t[k]).parent 0 k) rfl PH.nil_le ?_
         cases e1:within (t[k]).parent 0 k with
         | false =>
          simp only[e1,bwT] at hk2
          simp only[go_sem,γ,bxB,qV]
          exact aY (b:=false) rfl (dJ hlt hk2).symm
         | true =>
          obtain⟨i1,i2⟩:=within_iff.1 e1
          have i3:(t[k]).parent.toNat<f.buL.length:=by omega
          have hpr:(f.buL.map bJ.cells)[(t[k]).parent.toNat]?=some (f.buL[(t[k]).parent.toNat]).cells:=by simp[i3]
          have hlv:(f.buL.map bJ.level).getD (t[k]).parent.toNat 0=(f.buL[(t[k]).parent.toNat]).level:=by simp[i3]
          rw[hlv,e1,bwY] at hk2
          by_cases e2:(f.buL[(t[k]).parent.toNat]).level=IntKind.i64.wrap ((t[k]).level-1)
          ·rw[decide_eq_true e2,bwY] at hk2
           simp only[go_sem,δ,γ,θ,reduceCtorEq,bwU,i1,hpr,cO e2]
           refine bF (atR _ 1 4) (L.inn (t[k]).level 1 4) rfl PH.nil_le ?_
           cases e3:within (t[k]).level 1 4 with
           | false =>
            simp only[e3,bwT] at hk2
            simp only[go_sem,γ,reduceCtorEq,bxB,qV]
            exact aY (b:=false) rfl (dJ hlt hk2).symm
           | true =>
            rw[e3,bwY] at hk2
            simp only[go_sem,δ,γ,θ,reduceCtorEq,bwU]
            refine bF (atR _ 1 64) (L.inn (t[k]).bvJ 1 64) rfl PH.nil_le ?_
            cases e4:within (t[k]).bvJ 1 64 with
            | false =>
             simp only[e4,bwT] at hk2
             simp only[go_sem,γ,reduceCtorEq,bxB,qV]
             exact aY (b:=false) rfl (dJ hlt hk2).symm
            | true =>
             rw[e4,bwY] at hk2
             simp only[go_sem,δ,γ,reduceCtorEq,bwU]
             refine bF (baA (t[k]).bvB) (L.lim _ hdk.1) rfl PH.nil_le ?_
             cases e5:cC (t[k]).bvB with
             | false =>
              rw[e5] at hk2
              simp only[go_sem,γ,reduceCtorEq,bxB,qV]
              exact aY (b:=false) rfl (dJ hlt hk2).symm
             | true =>
              rw[e5] at hk2
              simp only[go_sem,γ,reduceCtorEq,bwU,avF,wZz k]
              refine aJ (k+1) ⟨hlt,ha.step hk2⟩ Om ?_ PH.nil_le
              exact Lq
          ·simp only[decide_eq_false e2,bwT] at hk2
           simp only[go_sem,δ,γ,θ,reduceCtorEq,bwU,i1,hpr,dA e2,qV]
           exact aY (b:=false) rfl (dJ hlt hk2).symm
        ·have buP:¬ (k:Int)<(t.length:Nat):=by omega
         simp only[go_sem,buP,avG]
         have:k=t.length:=by omega
         subst this
         exact aY (b:=true) rfl (show lP q t.length from ha).symm
     ·simp only[go_sem,ο,δ,γ,θ,reduceCtorEq,uJ,mU c1,bwU,cO c2,cO c3,dA c4,qW]
      exact aY rfl (by rw[decide_eq_false c4]; simp only[bxT,bwT])
    ·simp only[go_sem,ο,δ,γ,θ,reduceCtorEq,uJ,mU c1,bwU,cO c2,dA c3,qW]
     exact aY rfl (by rw[decide_eq_false c3]; simp only[bxT,bwT])
   ·simp only[go_sem,ο,δ,γ,θ,reduceCtorEq,uJ,mU c1,bwU,dA c2,qW]
    exact aY rfl (by rw[decide_eq_false c2]; simp only[bxT,bwT])
  ·simp only[go_sem,ο,δ,γ,θ,uJ,WZ c1,bxB,qW]
   exact aY rfl (by rw[decide_eq_false c1]; simp only[bxT,bwT])
theorem qG (R:List Bool) (i:Nat) (row:List RF):∀ k,(cJ R i row k).length=R.length
 | 0=>rfl
 | k+1=>by simp only[cJ,byR,qG R i row k]
theorem aCF (l:cD) (R:List Bool) (i:Nat):(vW l R i).length=R.length:=by
 unfold vW; rw[qG,byR]
theorem nF (l:cD) (R:List Bool):∀ i,(cT l R i).length=R.length
 | 0=>rfl
 | i+1=>by simp only[cT,aCF,nF l R i]
theorem nE (l:cD):∀ r,(cX l r).length=l.exit.length
 | 0=>by simp[cX]
 | r+1=>by simp only[cX,nF,nE l r]
theorem oJ {R:List Bool} {i:Nat} (h:i<R.length):(fE R)[i]?=some [.bool (R.getD i false)]:=by
 unfold fE
 rw[bxW,bxA h,bxI,bxA h]; rfl
theorem aXN (R:List Bool):(fE R).length=R.length:=by simp[fE]
def PC (l:cD) (o r:Nat):PF:=(((PF.nil.set 1 (.buR l.cells)).set 3 (.osl o 1 0 l.exit.length)).set 4 (.int .i64 r))
def DR (l:cD) (o r i:Nat):PF:=(((((PF.nil.set 1 (.buR l.cells)).set 3 (.osl o 1 0 l.exit.length)).set 4 (.int .i64 r)).set 19 (.int .i64 (l.exit.length:Nat))).set 20 (.int .i64 i))
def pU (l:cD) (o r i:Nat) (row:List RF) (k:Nat):PF:=(((((((((PF.nil.set 1 (.buR l.cells)).set 3 (.osl o 1 0 l.exit.length)).set 4 (.int .i64 r)).set 19 (.int .i64 (l.exit.length:Nat))).set 20 (.int .i64 i)).set 5 (.int .i64 i)).set 42 (frs row)).set 43 (.int .i64 (row.length:Nat))).set 44 (.int .i64 k))
def fP (o:Nat) (R:List Bool):PH:=PH.nil.set o (.rows 1 (fE R))
theorem aHQ {C:Ctx} (L:pO C) (l:cD) (o r i:Nat) (row:List RF) (buW:iR row) (hrl:row.length=l.exit.length) (hi:i<l.exit.length) (hn:l.exit.length≤4) (R1:List Bool) (hR:R1.length=l.exit.length) (K:cI) (F:PF) (H:PH)
  (hF:(pU l o r i row 0).le F) (hH:(fP o R1).le H)
  (hK:∀ F H,(pU l o r i row row.length).le F→(fP o (cJ R1 i row row.length)).le H→K .normal F H) :
  aB.wp C (.block 4 (.loop wZ)) K F H:=by
 simp only[go_sem]
 refine wp_loop (α:=Nat) (fun k=>pU l o r i row k) (fun k=>fP o (cJ R1 i row k)) (fun k=>k≤row.length) (fun k=>row.length-k) 0 (bwZ _) hF hH ?_
 intro k hk
 simp only[go_sem,γ,wZ,avN,pU,fP]
 have hlen:=qG R1 i row k
 by_cases hlt:k<row.length
 ·have buP:(k:Int)<(row.length:Nat):=by omega
  have hr:(row.map RF.cells)[k]?=some (row[k]).cells:=by simp[hlt]
  simp only[go_sem,δ,γ,buP,akS,hr]
  refine aP fun o7 ho7=>?_
  have n7:o≠o7:=by rintro rfl; simp only[bL,if_true] at ho7; cases ho7
  have hi':(i:Int)<(l.exit.length:Nat):=by omega
  have hk':(k:Int)<(l.exit.length:Nat):=by omega
  have hat:=oJ (R:=cJ R1 i row k) (i:=i) Om
  have hatk:=oJ (R:=cJ R1 i row k) (i:=k) Om
  have buQ:cJ R1 i row (k+1)=(cJ R1 i row k).set i ((cJ R1 i row k).getD i false||bW row[k]&&(cJ R1 i row k).getD k false):=by
   simp only[cJ,bxI,bxW,bxA hlt,bxS,bzG]
  have fin:∀ (b:Bool) (F:PF) (H:PH),b=((cJ R1 i row k).getD i false||bW row[k]&&(cJ R1 i row k).getD k false)→(pU l o r i row (k+1)).le F→H o=some (.rows 1 ((fE (cJ R1 i row k)).set i [.bool b])) →
    eA (fun k=>pU l o r i row k) (fun k=>fP o (cJ R1 i row k)) (fun k=>k≤row.length) (fun k=>row.length-k) (row.length-k) (dR 4 K) .normal F H:=by
   intro b F H hb hF hH
   refine aJ (k+1) hlt Om hF ?_
   rw[jW,hb,← buQ] at hH
   exact PH.aH PH.nil_le hH
  unfold pU fP at fin
  generalize hb:(cJ R1 i row k).getD i false=b at *
  generalize hc:(cJ R1 i row k).getD k false=c at *
  generalize hA:bW row[k]=A at *
  cases b with
  | true =>
   simp only[go_sem,δ,γ,KE,n7,hi',bxO,hat,xB,wZz k]
   exact fin true _ _ (by simp) Lq Sq
  | false =>
   simp only[go_sem,δ,γ,KE,n7,hi',bxO,hat]
   refine aA (L.tC _ (buW.all _ (bwS hlt))) rfl ?_
   rw[hA]
   cases A with
   | false =>
    simp only[go_sem,γ,reduceCtorEq,hi',hk',n7,bxO,hat,hatk,xB,wZz k]
    exact fin false _ _ (by simp) Lq Sq
   | true =>
    simp only[go_sem,γ,reduceCtorEq,hi',hk',n7,bxO,hat,hatk,xB,wZz k]
    exact fin c _ _ (by simp) Lq Sq
 ·have buP:¬ (k:Int)<(row.length:Nat):=by omega
  simp only[go_sem,buP]
  have:k=row.length:=by omega
  subst this
  exact hK _ _ (by unfold pU; exact Lq) (PH.le_refl)
structure wP (l:cD):Prop where
 n:l.exit.length≤4
 buN:l.buN.length=l.exit.length
 row:∀ r∈l.buN,r.length=l.exit.length
theorem aHR {C:Ctx} (L:pO C) (l:cD) (hl:l.Ok) (he:wP l) (o r:Nat) (R:List Bool) (hR:R.length=l.exit.length) (K:cI) (F:PF) (H:PH)
  (hF:(DR l o r 0).le F) (hH:(fP o R).le H)
  (hK:∀ F H,(PC l o r).le F→(fP o (cT l R l.exit.length)).le H→K .normal F H) :
  aB.wp C (.block 2 (.loop xA)) K F H:=by
 simp only[go_sem]
 refine wp_loop (α:=Nat) (fun i=>DR l o r i) (fun i=>fP o (cT l R i)) (fun i=>i≤l.exit.length) (fun i=>l.exit.length-i) 0 (bwZ _) hF hH ?_
 intro i hi
 have hlen:=nF l R i
 have hn:=he.n
 by_cases hlt:i<l.exit.length
 ·have buP:(i:Int)<(l.exit.length:Nat):=by omega
  have hir:i<l.buN.length:=by rw[he.buN]; exact hlt
  have hat:=oJ (R:=cT l R i) (i:=i) Om
  have hx:(l.exit.map RF.cells)[i]?=some (l.exit[i]).cells:=by simp[hlt]
  have buW:(l.buN.map fun r=>[frs r])[i]?=some [frs l.buN[i]]:=by simp[hir]
  have hrl:(l.buN[i]).length=l.exit.length:=he.row _ (bwS hir)
  generalize hR1:(cT l R i).set i ((cT l R i).getD i false||bW l.exit[i])=R1
  have hR1l:R1.length=l.exit.length:=by rw[← hR1,byR]; omega
  have buQ:cT l R (i+1)=cJ R1 i l.buN[i] (l.buN[i]).length:=by
   simp only[cT,vW]
   have e1:(l.exit.map bW).getD i false=bW l.exit[i]:=by simp[bxI,hlt]
   have e2:l.buN.getD i []=l.buN[i]:=by simp[bxI,hir]
   rw[e1,e2,hR1]
  have rest:∀ (F:PF) (H:PH),(((((((PF.nil.set 1 (.buR l.cells)).set 3 (.osl o 1 0 l.exit.length)).set 4 (.int .i64 r)).set 19 (.int .i64 (l.exit.length:Nat))).set 20 (.int .i64 i)).set 5 (.int .i64 i)):PF).le F→H o=some (.rows 1 (fE R1)) →
    aB.wp C (.seq (.region TY) (.block 4 (.loop wZ))) (dR 3 (gW C (aB.wp C (.region KF)) (eA (fun i=>DR l o r i) (fun i=>fP o (cT l R i)) (fun i=>i≤l.exit.length) (fun i=>l.exit.length-i) (l.exit.length-i) (dR 2 K)))) F H:=by
   intro F H hF hH
   have f1:F 1=some (.buR l.cells):=hF 1 _ rfl
   have f3:F 3=some (.osl o 1 0 l.exit.length):=hF 3 _ rfl
   have f4:F 4=some (.int .i64 r):=hF 4 _ rfl
   have f19:F 19=some (.int .i64 (l.exit.length:Nat)):=hF 19 _ rfl
   have f20:F 20=some (.int .i64 i):=hF 20 _ rfl
   have f5:F 5=some (.int .i64 i):=hF 5 _ rfl
   rw[beA]
   simp only[go_sem,δ,γ,θ,TY,f1,f5,buW,bwN]
   have inner:=aHQ L l o r i l.buN[i] (hl.row _ (bwS hir)) hrl hlt hn R1 hR1l
   simp only[aB.wp,go_sem] at inner
   refine inner _ _ _ ?_ (PH.aH PH.nil_le hH) ?_
   ·unfold pU
    exact Lq
   ·intro F' H' hF' hH'
    have g20:F' 20=some (.int .i64 i):=hF' 20 _ (by unfold pU; simp only[go_sem,γ])
    simp only[go_sem,KF,g20,wZz i]
    refine aJ (i+1) hlt Om ?_ (by rw[buQ]; exact hH')
    have g:=fun (q:Nat) v h=>hF' q v h
    unfold DR
    unfold pU at g
    refine PF.aH (PF.aH (PF.aH (PF.aH (PF.aH PF.nil_le ?_) ?_) ?_) ?_) ?_
    ·simp only[go_sem,γ]; exact g 1 _ rfl
    ·simp only[go_sem,γ]; exact g 3 _ rfl
    ·simp only[go_sem,γ]; exact g 4 _ rfl
    ·simp only[go_sem,γ]; exact g 19 _ rfl
    ·simp only[go_sem,γ]
  simp only[aB.wp,go_sem] at rest
  simp only[go_sem,γ,xA,TW,DR,fP,buP,avM]
  generalize hb:(cT l R i).getD i false=b at *
  cases b with
  | true =>
   simp only[go_sem,γ,TX,buP,bxO,hat]
   refine rest _ _ Lq ?_
   rw[← hR1]
   simp only[go_sem,jW,Bool.true_or]
  | false =>
   simp only[go_sem,δ,γ,TX,buP,bxO,hat,hx]
   refine aA (L.tC _ (hl.exit.all _ (bwS hlt))) rfl ?_
   simp only[go_sem,γ,reduceCtorEq,buP,bxO,hat]
   refine rest _ _ Lq ?_
   rw[← hR1]
   simp only[go_sem,jW,Bool.false_or]
 ·have buP:¬ (i:Int)<(l.exit.length:Nat):=by omega
  simp only[go_sem,γ,xA,TW,DR,fP,buP]
  have:i=l.exit.length:=by omega
  subst this
  exact hK _ _ (by unfold PC; exact Lq) PH.le_refl
theorem a4M {C:Ctx} (L:pO C) (l:cD) (hl:l.Ok) (he:wP l):ED.wp C (aS ZQ.res (bV (.bool (tL l)))) (PF.args [.agg l.cells]) .nil:=by
 have hn:=he.n
 have hb1:((l.exit.length:Nat):Int)*((1:Nat):Int)≤140737488355328:=by omega
 have hb2:((l.exit.length:Nat):Int)≤9223372036854775807:=by omega
 simp only[go_sem,γ,ED,avH,avI,ZQ,bwN,hb1,hb2]
 refine aP fun o ho=>?_
 simp only[go_sem,γ,avJ]
 refine wp_loop (α:=Nat) (fun r=>PC l o r) (fun r=>fP o (cX l r)) (fun r=>r≤l.exit.length+1) (fun r=>l.exit.length+1-r) 0 (bwZ _) ?_ ?_ ?_
 ·unfold PC
  exact Lq
 ·refine PH.aH PH.nil_le ?_
  simp only[go_sem,cX]
  simp[fE]
 intro r hr
 have hlen:=nE l r
 simp only[go_sem,γ,akR,avK,PC,fP]
 by_cases hlt:r≤l.exit.length
 ·have buP:(r:Int)≤(l.exit.length:Nat):=by omega
  simp only[go_sem,γ,buP,avL]
  have inner:=aHR L l hl he o r (cX l r) hlen
  simp only[aB.wp,go_sem] at inner
  refine inner _ _ _ ?_ PH.le_refl ?_
  ·unfold DR
   exact Lq
  ·intro F' H' hF' hH'
   have g:=fun (q:Nat) v h=>hF' q v h
   unfold PC at g
   have g4:F' 4=some (.int .i64 r):=g 4 _ rfl
   simp only[go_sem,γ,akT,g4,wZz r]
   refine aJ (r+1) Om Om ?_ hH'
   refine PF.aH (PF.aH (PF.aH PF.nil_le ?_) ?_) ?_
   ·simp only[go_sem,γ]; exact g 1 _ rfl
   ·simp only[go_sem,γ]; exact g 3 _ rfl
   ·simp only[go_sem,γ]
 ·have buP:¬ (r:Int)≤(l.exit.length:Nat):=by omega
  have:r=l.exit.length+1:=by omega
  subst this
  simp only[go_sem,γ,buP,akU]
  have bvQ:=L.allb id 103 (cX l (l.exit.length+1)) (Om:(cX l (l.exit.length+1)).length≤_) fun x _=>L.ends1 x
  have hbl:(fE (cX l (l.exit.length+1))).length=l.exit.length:=by rw[aXN,hlen]
  refine lM bvQ (rs:=fE (cX l (l.exit.length+1))) (o:=o) (s:=1) Sq ?_ ?_
  ·simp only[go_sem,γ,qU (show l.exit.length≤(fE (cX l (l.exit.length+1))).length by omega),bxC (show (fE (cX l (l.exit.length+1))).length≤l.exit.length by omega)]
  ·simp only[go_sem,γ]
   exact aY rfl rfl
structure WN (C:Ctx):Prop extends arE C where
 ends:∀ l:cD,l.Ok→wP l→aE C 102 [.agg l.cells] .nil (aC (.bool (tL l)))
def oO (l:cD) (i:Nat):Bool:=decide ((l.buN.getD i []).length=l.start.length)&&(l.buN.getD i []).all cC&&!((l.buN.getD i []).map bW).getD i false
def rJ (l:cD):Bool:=match mQ (l.start.map RF.v) with
 | .ok (n,a,b)=>decide (oN n a b false 1 1=0)
 | .error _=>false
theorem aLQ (l:cD):jN l=(within l.start.length 1 4&&decide (l.exit.length=l.start.length)&&decide (l.buN.length=l.start.length)&&l.start.all cC&&l.exit.all cC&&(bwO l.buN.length).all (oO l)&&rJ l&&tL l):=rfl
theorem aDM {l:List FV} {e:Int} (h:mQ l=.error e):e≠0:=by
 have:∀ (l:List FV) (b:FV) (e:Int),l.foldlM gD b=.error e→e≠0:=by
  intro l
  induction l with
  | nil=>intro b e h; cases h
  | cons x t ih =>
   intro b e h
   rw[List.foldlM_cons] at h
   cases hx:gD b x with
   | error e' =>
    rw[hx] at h
    have:e'=e:=by injection h
    subst this
    obtain⟨n1,a1,b1⟩:=b
    obtain⟨n2,a2,b2⟩:=x
    simp only[gD] at hx
    split at hx
    ·split at hx
     ·rw[EW hx]; decide
     ·split at hx
      ·rw[EW hx]; decide
      ·rw[EW hx]; decide
    ·injection hx with hx; subst hx; decide
   | ok y=>rw[hx] at h; exact ih y e h
 exact this l _ e h
theorem aPA {l:List FV} {r:FV} (h:mQ l=.ok r):r.rf.Ok:=by
 have:∀ (l:List FV) (b r:FV),b.rf.Ok→l.foldlM gD b=.ok r→r.rf.Ok:=by
  intro l
  induction l with
  | nil=>intro b r hb h; injection h with h; subst h; exact hb
  | cons x t ih =>
   intro b r hb h
   rw[List.foldlM_cons] at h
   cases hx:gD b x with
   | error e'=>rw[hx] at h; cases h
   | ok y=>rw[hx] at h; exact ih y r (agE hx) h
 refine this l _ r ⟨aR _,aR _,?_,?_⟩ h
 ·show (aF 0).length≤_
  rw[eQ]; simp
 ·show (aF 1).length≤_
  rw[lI (by decide) (by decide)]; simp
theorem EX {neg:Bool} {a b:Nat} {r:FV} (hb:b≠0) (h:fU neg a b=.ok r):cH r.2.1 r.2.2=true:=by
 unfold fU at h
 split at h
 ·cases h
 ·rename_i hc
  injection h with h
  subst h
  have hg:bwQ a b ∣ b:=Nat.gcd_dvd_right _ _
  have h0:b/bwQ a b≠0:=by
   have:=Nat.div_pos (Nat.le_of_dvd (byN hb) hg) (byN fun h=>hb (Nat.gcd_eq_zero_iff.1 h).2)
   omega
  have h1:=@iH (b/bwQ a b)
  simp only[cH,bxJ,decide_eq_true_eq]
  omega
theorem aSP {x y r:FV} (h:gD x y=.ok r):cH r.2.1 r.2.2=true:=by
 obtain⟨n1,a1,b1⟩:=x
 obtain⟨n2,a2,b2⟩:=y
 simp only[gD] at h
 split at h
 ·rename_i hv
  rw[bxJ] at hv
  have h0:b1*b2≠0:=Nat.mul_ne_zero (eR.1 hv.1).1 (eR.1 hv.2).1
  split at h
  ·exact EX h0 h
  ·split at h
   ·exact EX h0 h
   ·exact EX h0 h
 ·cases h
theorem aWT:cH 0 1=true:=by
 have:bZ 1=1:=by rw[mI (by decide),gU]
 simp[cH,this,gU]
theorem acJ {l:List FV} {r:FV} (h:mQ l=.ok r):cH r.2.1 r.2.2=true:=by
 have:∀ (l:List FV) (b r:FV),cH b.2.1 b.2.2=true→l.foldlM gD b=.ok r→cH r.2.1 r.2.2=true:=by
  intro l
  induction l with
  | nil=>intro b r hb h; injection h with h; subst h; exact hb
  | cons x t ih =>
   intro b r hb h
   rw[List.foldlM_cons] at h
   cases hx:gD b x with
   | error e'=>rw[hx] at h; cases h
   | ok y=>rw[hx] at h; exact ih y r (aSP hx) h
 exact this l _ r aWT h
theorem a4A:(⟨false,[],[]⟩:RF).Ok:=⟨fun _ h=>absurd h (byC),fun _ h=>absurd h (byC),show 0≤35184372087808 by decide,show 0≤35184372087808 by decide⟩
def a5A (l:cD) (k:Nat):PF:=(((((PF.nil.set 1 (.buR l.cells)).set 3 (.int .i64 (l.start.length:Nat))).set 45 (aVY l.buN)).set 46 (.int .i64 (l.buN.length:Nat))).set 47 (.int .i64 k))
theorem aYR {C:Ctx} (L:WN C) (l:cD) (hl:l.Ok) (he:wP l) (F:PF) (hF:F 1=some (.buR l.cells)) :
  aB.wp C (.seq (.region TZ) (.seq (.region EE) (.seq (.region EF) (.seq (.region qX) .ret)))) (aS [.tmp 2] (bV (.bool (rJ l&&tL l)))) F .nil:=by
 simp only[go_sem,δ,θ,TZ,hF]
 refine aA (L.tot l.start hl.start) rfl ?_
 obtain⟨neg',x,y,e,hs⟩:=qS (mQ (l.start.map RF.v))
 have go:∀ (z:RF) (e:Int),z.Ok→(e=0→(wT z.neg (val z.num) (val z.den) false 1 1=.tup [.int .i64 (oN z.neg (val z.num) (val z.den) false 1 1),.int .i64 0])∧rJ l=decide (oN z.neg (val z.num) (val z.den) false 1 1=0))→(e≠0→rJ l=false) →
   frV (mQ (l.start.map RF.v))=.tup [.agg z.cells,.int .i64 e] →
   wpOps C [⟨(some 69),.mv (.tmp 72),none⟩,⟨(some 73),.extract (.tmp 69) 0,none⟩,⟨(some 74),.extract (.tmp 69) 1,none⟩,⟨(some 6),.alloc [(.bool false),.buJ,.buJ],none⟩,⟨none,.store 3 (.tmp 6) (.tmp 73),none⟩,⟨(some 7),.mv (.tmp 74),none⟩]
    (aB.wp C (.seq (.region EE) (.seq (.region EF) (.seq (.region qX) .ret))) (aS [.tmp 2] (bV (.bool (rJ l&&tL l))))) ((((F.set 70 (.buR [frs l.start,aVY l.buN,frs l.exit])).set 71 (frs l.start))).set 72 (.tup [.agg z.cells,.int .i64 e])) .nil:=by
  intro z e hz h0 h1 _
  simp only[go_sem,δ,γ]
  refine aP fun o6 ho6=>?_
  simp only[go_sem,δ,γ,EE]
  refine aA (L.frac 1 1 (by decide) (by decide)) rfl ?_
  rw[ayH]
  simp only[go_sem,δ,γ,frV]
  refine aP fun o8 ho8=>?_
  have n8:o6≠o8:=by rintro rfl; simp only[bL,if_true] at ho8; cases ho8
  simp only[go_sem,δ,γ,EF,n8]
  refine aA (L.ord z (FV.rf (false,1,1)) hz a0E) rfl ?_
  rw[show val (FV.rf (false,1,1)).num=1 from aQ 1,show val (FV.rf (false,1,1)).den=1 from aQ 1,show (FV.rf (false,1,1)).neg=false from rfl]
  by_cases c:e=0
  ·obtain⟨g1,g2⟩:=h0 c
   rw[g1,g2]
   by_cases d:oN z.neg (val z.num) (val z.den) false 1 1=0
   ·simp only[go_sem,δ,γ,qX,bX c,bX d,hF]
    refine aA (L.ends l hl he) rfl ?_
    simp only[go_sem,γ]
    exact aY rfl (by rw[decide_eq_true d,bwY])
   ·simp only[go_sem,γ,reduceCtorEq,qX,bX c,bD d]
    exact aY rfl (by rw[decide_eq_false d,bwT])
  ·rw[h1 c]
   have:∃ v w,wT z.neg (val z.num) (val z.den) false 1 1=.tup [.int .i64 v,.int .i64 w]:=by
    unfold wT
    split
    ·exact⟨_,_,rfl⟩
    ·exact⟨_,_,rfl⟩
   obtain⟨v,w,hv⟩:=this
   rw[hv]
   simp only[go_sem,γ,reduceCtorEq,qX,bD c]
   exact aY rfl rfl
 cases hs':mQ (l.start.map RF.v) with
 | error e =>
  rw[hs'] at go
  exact go ⟨false,[],[]⟩ e a4A (fun h=>absurd h (aDM hs')) (fun _=>by rw[rJ,hs']) rfl
 | ok r =>
  obtain⟨n,a,b⟩:=r
  rw[hs'] at go
  have hr:=aPA hs'
  refine go (FV.rf (n,a,b)) 0 hr (fun _=>?_) (fun h=>absurd rfl h) rfl
  rw[show val (FV.rf (n,a,b)).num=a from aQ a,show val (FV.rf (n,a,b)).den=b from aQ b,show (FV.rf (n,a,b)).neg=n from rfl]
  refine⟨?_,by rw[rJ,hs']⟩
  have hv:cH a b=true:=acJ hs'
  rw[wT,hv,aoQ]
  rfl
theorem baH {C:Ctx} (L:WN C) (l:cD) (hl:l.Ok):KG.wp C (aS avO.res (bV (.bool (jN l)))) (PF.args [.agg l.cells]) .nil:=by
 rw[aLQ]
 simp only[go_sem,δ,γ,θ,KG,aKL,aKM,avO,aKN,bwN]
 refine aA (L.inn l.start.length 1 4) rfl ?_
 cases c1:within l.start.length 1 4 with
 | false =>
  simp only[go_sem,γ,bxB,uK]
  exact aY rfl (by simp only[bwT])
 | true =>
  obtain⟨n1,n2⟩:=within_iff.1 c1
  by_cases c2:l.exit.length=l.start.length
  ·rw[decide_eq_true c2]
   by_cases c3:l.buN.length=l.start.length
   ·rw[decide_eq_true c3]
    simp only[go_sem,δ,γ,θ,reduceCtorEq,bwU,bwN,cO (Om:((l.exit.length:Nat):Int)=(l.start.length:Nat)),cO (Om:((l.buN.length:Nat):Int)=(l.start.length:Nat))]
    refine aA (L.a5G l.start hl.start) rfl ?_
    cases c4:l.start.all cC with
    | false =>
     simp only[go_sem,γ,reduceCtorEq,bxB,uK]
     exact aY rfl (by simp only[bwT])
    | true =>
     simp only[go_sem,γ,reduceCtorEq,bwU]
     refine aA (L.a5G l.exit hl.exit) rfl ?_
     cases c5:l.exit.all cC with
     | false =>
      simp only[go_sem,γ,reduceCtorEq,bxB,uK]
      exact aY rfl (by simp only[bwT])
     | true =>
      simp only[go_sem,δ,γ,θ,reduceCtorEq,bwU,aKO,bwN]
      have hrk:∀ k (h:k<l.buN.length),oO l k=(decide ((l.buN[k]).length=l.start.length)&&(l.buN[k]).all cC&&!((l.buN[k]).map bW).getD k false):=by
       intro k h
       have:l.buN.getD k []=l.buN[k]:=by simp[bxI,h]
       rw[oO,this]
      refine wp_loop (α:=Nat) (fun k=>a5A l k) (fun _=>.nil) (fun k=>k≤l.buN.length∧lP (oO l) k) (fun k=>l.buN.length-k) 0 ⟨bwZ _,.zero⟩ ?_ PH.nil_le ?_
      ·unfold a5A
       (repeat' (first|exact PF.nil_le|refine PF.aH ?_ ?_))<;>first|(simp only[go_sem,γ,bwN]<;>rfl)|rfl
      rintro k ⟨hk,ha⟩
      simp only[go_sem,γ,avP,aKP,a5A]
      by_cases hlt:k<l.buN.length
      ·have buP:(k:Int)<(l.buN.length:Nat):=by omega
       have hr:(l.buN.map fun r=>[frs r])[k]?=some [frs l.buN[k]]:=by simp[hlt]
       have hk2:=hrk k hlt
       have hrok:=hl.row l.buN[k] (bwS hlt)
       simp only[go_sem,γ,buP,aKQ,hr,aKR,bwN]
       by_cases d1:(l.buN[k]).length=l.start.length
       ·rw[decide_eq_true d1,bwY] at hk2
        simp only[go_sem,γ,cO (show (((l.buN[k]).length:Nat):Int)=(l.start.length:Nat) by omega)]
        refine aA (L.a5G _ hrok) rfl ?_
        cases d2:(l.buN[k]).all cC with
        | false =>
         rw[d2,bwT] at hk2
         simp only[go_sem,γ,reduceCtorEq,bxB,PL]
         refine aY (b:=false) rfl ?_
         have:(bwO l.buN.length).all (oO l)=false:=dJ hlt hk2
         rw[this]; simp only[bwT,bxT]
        | true =>
         have hkr:k<(l.buN[k]).length:=by omega
         have hx:((l.buN[k]).map RF.cells)[k]?=some ((l.buN[k])[k]).cells:=by simp[hkr]
         have hab:((l.buN[k]).map bW).getD k false=bW (l.buN[k])[k]:=by simp[bxI,hkr]
         rw[d2,bwY,hab] at hk2
         simp only[go_sem,δ,γ,reduceCtorEq,bwU,hx]
         refine aA (L.tC _ (hrok.all _ (bwS hkr))) rfl ?_
         cases d3:bW (l.buN[k])[k] with
         | true =>
          rw[d3] at hk2
          simp only[go_sem,γ,reduceCtorEq,PL]
          refine aY (b:=false) rfl ?_
          have:(bwO l.buN.length).all (oO l)=false:=dJ hlt hk2
          rw[this]; simp only[bwT,bxT]
         | false =>
          rw[d3] at hk2
          simp only[go_sem,γ,reduceCtorEq,aKS,wZz k]
          refine aJ (k+1) ⟨hlt,ha.step hk2⟩ Om ?_ PH.nil_le
          exact Lq
       ·simp only[decide_eq_false d1,bwT] at hk2
        simp only[go_sem,γ,dA (show (((l.buN[k]).length:Nat):Int)≠(l.start.length:Nat) by omega),PL]
        refine aY (b:=false) rfl ?_
        have:(bwO l.buN.length).all (oO l)=false:=dJ hlt hk2
        rw[this]; simp only[bwT,bxT]
      ·have buP:¬ (k:Int)<(l.buN.length:Nat):=by omega
       have:k=l.buN.length:=by omega
       subst this
       have bwA:(bwO l.buN.length).all (oO l)=true:=ha
       have he:wP l:=⟨by omega,by omega,fun r hr=>by
        obtain⟨i,hi,rfl⟩:=byP hr
        have:=bxL.1 bwA i (byD.2 hi)
        rw[hrk i hi] at this
        simp only[bxJ,decide_eq_true_eq] at this
        omega⟩
       have tail:=aYR L l hl he
       simp only[aB.wp,go_sem] at tail
       rw[bwA]
       simp only[go_sem,buP,bwY,byL]
       exact tail _ rfl
   ·simp only[go_sem,δ,γ,θ,reduceCtorEq,bwU,bwN,cO (Om:((l.exit.length:Nat):Int)=(l.start.length:Nat)),dA (Om:((l.buN.length:Nat):Int)≠(l.start.length:Nat)),uK]
    exact aY rfl (by rw[decide_eq_false c3]; simp only[bwT,bxT])
  ·simp only[go_sem,γ,reduceCtorEq,bwU,bwN,dA (Om:((l.exit.length:Nat):Int)≠(l.start.length:Nat)),uK]
   exact aY rfl (by rw[decide_eq_false c2]; simp only[bwT,bxT])
structure iW (C:Ctx):Prop extends WN C where
 law:∀ l:cD,l.Ok→aE C 95 [.agg l.cells] .nil (aC (.bool (jN l)))
 pol:∀ (p:cV) (n:Nat),p.Ok→n≤4→aE C 112 [.agg p.cells,.int .i64 n] .nil (aC (.bool (gX n p)))
 buU:∀ f:aL,f.Ok→aE C 111 [.agg f.cells] .nil (aC (.bool (lT f)))
abbrev eD (l:List (List UInt8)):List (List PV):=l.map fun s=>[PV.str s]
theorem sN (l:List (List UInt8)) {k:Nat} (h:k<l.length):eD (l.take k)++[[.str l[k]]]=eD (l.take (k+1)):=by
 unfold eD
 rw[byH h,bzD]; rfl
theorem pJ {l:List (List UInt8)} (h:l.length≤1000):roomFor (eD l).length 1 16:=by
 unfold roomFor eD
 simp only[bwN,maxLen]; omega
def fX {α:Type} (l:List α) (p:α→Bool) (k:Nat):Bool:=(l.take k).all p
theorem pR {α:Type} (l:List α) (p:α→Bool):fX l p 0=true:=rfl
theorem pQ {α:Type} (l:List α) (p:α→Bool) {k:Nat} (h:k<l.length):fX l p (k+1)=(fX l p k&&p l[k]):=by
 unfold fX
 rw[byH h,List.all_append]; simp
theorem sA {α:Type} (l:List α) (p:α→Bool):fX l p l.length=l.all p:=by unfold fX; rw[bxM]
def gE (f:aL) (w3 w4 w5 w6 w7:PV) (ok:Bool):PF:=(((((((PF.nil.set 1 (.buR f.cells)).set 3 (w3)).set 4 (w4)).set 5 (w5)).set 6 (w6)).set 7 (w7)).set 8 (.bool ok))
structure jA (F:PF) (f:aL) (w3 w4 w5 w6 w7:PV) (ok:Bool):Prop where
 a1:F 1=some (.buR f.cells)
 a3:F 3=some w3
 a4:F 4=some w4
 a5:F 5=some w5
 a6:F 6=some w6
 a7:F 7=some w7
 a8:F 8=some (.bool ok)
theorem aUC {C:Ctx} (L:iW C) (f:aL) (hf:f.Ok) (hs:f.buS.length≤4) (w4 w5 w6 w7:PV) (K:cI) (F:PF) (H:PH) (hv:jA F f .buJ w4 w5 w6 w7 true)
  (h67:F 67=some (.sl 4 (f.buS.map cD.cells))) (h68:F 68=some (.int .i64 (f.buS.length:Nat))) (h69:F 69=some (.int .i64 0))
  (hK:∀ v F' H',jA F' f v w4 w5 w6 w7 (f.buS.all jN)→bR H' 1 v (eD (f.buS.map cD.name))→K (.exit 0) F' H') :
  aB.wp C (.loop EJ) K F H:=by
 refine wp_loop (α:=Nat × PV × PH) (fun t=>(((gE f t.2.1 w4 w5 w6 w7 (fX f.buS jN t.1)).set 67 (.sl 4 (f.buS.map cD.cells))).set 68 (.int .i64 (f.buS.length:Nat))).set 69 (.int .i64 t.1)) (fun t=>t.2.2)
  (fun t=>t.1≤f.buS.length∧bR t.2.2 1 t.2.1 (eD ((f.buS.map cD.name).take t.1))) (fun t=>f.buS.length-t.1) (0,.buJ,.nil) ⟨bwZ _,.nil⟩ ?_ PH.nil_le ?_
 ·unfold gE
  (repeat' (first|exact PF.nil_le|refine PF.aH ?_ ?_))<;>first|(simp only[go_sem,hv.a1,hv.a3,hv.a4,hv.a5,hv.a6,hv.a7,hv.a8,h67,h68,h69,pR]<;>rfl)|rfl
 rintro⟨k,v,H0⟩ ⟨hk,hO⟩
 simp only at hk hO ⊢
 simp only[go_sem,γ,EJ,aLN,gE]
 by_cases hlt:k<f.buS.length
 ·have buP:(k:Int)<(f.buS.length:Nat):=by omega
  have hr:(f.buS.map cD.cells)[k]?=some (f.buS[k]).cells:=by simp[hlt]
  have hsn:=sN (f.buS.map cD.name) (k:=k) (by simpa using hlt)
  rw[byO] at hsn
  simp only[go_sem,δ,γ,buP,aLO,hr]
  refine aP fun o ho=>?_
  simp only[go_sem,υ,δ,γ,η,θ,ζ,aLP]
  refine kM hO ho (pJ (by simp; omega)) fun v' H' hO' ho'=>?_
  rw[hsn] at hO'
  have buQ:=pQ f.buS jN hlt
  cases hb:fX f.buS jN k with
  | false =>
   rw[hb,bwT] at buQ
   simp only[go_sem,γ,reduceCtorEq,agX,ho',UC,wZz k]
   refine aJ (k+1,v',H') ⟨hlt,hO'⟩ (by simp only; omega) ?_ PH.le_refl
   simp only[buQ]
   exact Lq
  | true =>
   rw[hb,bwY] at buQ
   simp only[go_sem,δ,γ,agX,ho']
   refine aA (L.law _ (hf.law _ (bwS hlt))) Ev ?_
   simp only[go_sem,γ,UC,wZz k]
   refine aJ (k+1,v',H') ⟨hlt,hO'⟩ (by simp only; omega) ?_ PH.le_refl
   simp only[buQ]
   exact Lq
 ·have buP:¬ (k:Int)<(f.buS.length:Nat):=by omega
  have:k=f.buS.length:=by omega
  subst this
  rw[bxC (by simp)] at hO
  rw[sA]
  simp only[go_sem,buP]
  exact hK v _ _ ⟨by simp only[go_sem,γ],by simp only[go_sem,γ],by simp only[go_sem,γ],by simp only[go_sem,γ],by simp only[go_sem,γ],by simp only[go_sem,γ],by simp only[go_sem,γ]⟩ hO
theorem xX {n:Nat} (h:n≤1000):IntKind.i64.wrap ((n:Int)-1)=(n:Int)-1:=wrap_i64 Om Om
theorem aUD {C:Ctx} (L:iW C) (f:aL) (hs:f.buI.length≤4) (hl:f.buS.length≤4) (b0:Bool) (w3 w5 w6 w7:PV) (K:cI) (F:PF) (H:PH) (hv:jA F f w3 .buJ w5 w6 w7 b0)
  (h67:F 85=some (.sl 4 (f.buI.map cP.cells))) (h68:F 86=some (.int .i64 (f.buI.length:Nat))) (h69:F 87=some (.int .i64 0))
  (hK:∀ v F' H',jA F' f w3 v w5 w6 w7 (b0&&f.buI.all (iJ f))→bR H' 1 v (eD (f.buI.map cP.name))→K (.exit 2) F' H') :
  aB.wp C (.loop EK) K F H:=by
 refine wp_loop (α:=Nat × PV × PH) (fun t=>(((gE f w3 t.2.1 w5 w6 w7 (b0&&fX f.buI (iJ f) t.1)).set 85 (.sl 4 (f.buI.map cP.cells))).set 86 (.int .i64 (f.buI.length:Nat))).set 87 (.int .i64 t.1)) (fun t=>t.2.2)
  (fun t=>t.1≤f.buI.length∧bR t.2.2 1 t.2.1 (eD ((f.buI.map cP.name).take t.1))) (fun t=>f.buI.length-t.1) (0,.buJ,.nil) ⟨bwZ _,.nil⟩ ?_ PH.nil_le ?_
 ·unfold gE
  (repeat' (first|exact PF.nil_le|refine PF.aH ?_ ?_))<;>first|(simp only[go_sem,hv.a1,hv.a3,hv.a4,hv.a5,hv.a6,hv.a7,hv.a8,h67,h68,h69,pR,byL]<;>rfl)|rfl
 rintro⟨k,v,H0⟩ ⟨hk,hO⟩
 simp only at hk hO ⊢
 simp only[go_sem,γ,EK,awK,gE]
 by_cases hlt:k<f.buI.length
 ·have buP:(k:Int)<(f.buI.length:Nat):=by omega
  have hr:(f.buI.map cP.cells)[k]?=some (f.buI[k]).cells:=by simp[hlt]
  have hsn:=sN (f.buI.map cP.name) (k:=k) (by simpa using hlt)
  rw[byO] at hsn
  simp only[go_sem,δ,γ,buP,awL,hr]
  refine aP fun o ho=>?_
  simp only[go_sem,υ,δ,γ,η,θ,ζ,awM]
  refine kM hO ho (pJ (by simp; omega)) fun v' H' hO' ho'=>?_
  rw[hsn] at hO'
  have buQ:=pQ f.buI (iJ f) hlt
  have fin:∀ (c:Bool) (F':PF),c=(b0&&fX f.buI (iJ f) (k+1))→((((gE f w3 v' w5 w6 w7 c).set 85 (.sl 4 (f.buI.map cP.cells))).set 86 (.int .i64 (f.buI.length:Nat))).set 87 (.int .i64 (k+1:Nat))).le F' →
    eA (fun (t:Nat × PV × PH)=>(((gE f w3 t.2.1 w5 w6 w7 (b0&&fX f.buI (iJ f) t.1)).set 85 (.sl 4 (f.buI.map cP.cells))).set 86 (.int .i64 (f.buI.length:Nat))).set 87 (.int .i64 t.1)) (fun (t:Nat × PV × PH)=>t.2.2)  (fun (t:Nat × PV × PH)=>t.1≤f.buI.length∧bR t.2.2 1 t.2.1 (eD ((f.buI.map cP.name).take t.1))) (fun (t:Nat × PV × PH)=>f.buI.length-t.1) (f.buI.length-k) K .normal F' H':=by
   intro c F' hc hle
   refine aJ (α:=Nat × PV × PH) (k+1,v',H') ⟨hlt,hO'⟩ (by simp only; omega) ?_ PH.le_refl
   rw[hc] at hle
   exact hle
  unfold gE at fin
  rw[buQ,← bzI] at fin
  have hm:iJ f f.buI[k]=(within (f.buI[k]).bvD 1 16&&within (f.buI[k]).port 1 64&&within (f.buI[k]).law 0 ((f.buS.length:Int)-1)):=rfl
  cases hb:(b0&&fX f.buI (iJ f) k) with
  | false =>
   rw[hb,bwT] at fin
   simp only[go_sem,γ,reduceCtorEq,UE,ho',vJ,wZz k]
   refine fin false _ rfl ?_
   exact Lq
  | true =>
   rw[hb,bwY] at fin
   simp only[go_sem,δ,γ,θ,UE,ho']
   refine aA (L.inn _ 1 16) Ev ?_
   cases e1:within (f.buI[k]).bvD 1 16 with
   | false =>
    simp only[go_sem,γ,reduceCtorEq,vJ,wZz k]
    refine fin false _ (by rw[hm,e1]; simp only[bwT]) ?_
    exact Lq
   | true =>
    simp only[go_sem,δ,γ,θ,ho']
    refine aA (L.inn _ 1 64) Ev ?_
    cases e2:within (f.buI[k]).port 1 64 with
    | false =>
     simp only[go_sem,γ,reduceCtorEq,vJ,wZz k]
     refine fin false _ (by rw[hm,e1,e2]; simp only[bwT,bxT]) ?_
     exact Lq
    | true =>
     simp only[go_sem,δ,γ,θ,ho',bwN,xX (Om:f.buS.length≤1000)]
     refine aA (L.inn _ 0 _) Ev ?_
     simp only[go_sem,γ,vJ,wZz k]
     refine fin (within (f.buI[k]).law 0 ((f.buS.length:Int)-1)) _ (by rw[hm,e1,e2]; simp only[bwY]) ?_
     exact Lq
 ·have buP:¬ (k:Int)<(f.buI.length:Nat):=by omega
  have:k=f.buI.length:=by omega
  subst this
  rw[bxC (by simp)] at hO
  rw[sA]
  simp only[go_sem,buP]
  exact hK v _ _ ⟨by simp only[go_sem,γ],by simp only[go_sem,γ],by simp only[go_sem,γ],by simp only[go_sem,γ],by simp only[go_sem,γ],by simp only[go_sem,γ],by simp only[go_sem,γ]⟩ hO
theorem aUE {C:Ctx} (L:iW C) (f:aL) (t:List bJ) (hs:t.length≤40) (b0:Bool) (w3 w4 w6 w7:PV) (K:cI) (F:PF) (H:PH) (hv:jA F f w3 w4 .buJ w6 w7 b0)
  (h67:F 119=some (.sl 7 (t.map bJ.cells))) (h68:F 120=some (.int .i64 (t.length:Nat))) (h69:F 121=some (.int .i64 0))
  (hK:∀ v F' H',jA F' f w3 w4 v w6 w7 b0→bR H' 1 v (eD (t.map bJ.name))→K (.exit 4) F' H') :
  aB.wp C (.loop EL) K F H:=by
 refine wp_loop (α:=Nat × PV × PH) (fun a=>(((gE f w3 w4 a.2.1 w6 w7 b0).set 119 (.sl 7 (t.map bJ.cells))).set 120 (.int .i64 (t.length:Nat))).set 121 (.int .i64 a.1)) (fun a=>a.2.2)
  (fun a=>a.1≤t.length∧bR a.2.2 1 a.2.1 (eD ((t.map bJ.name).take a.1))) (fun a=>t.length-a.1) (0,.buJ,.nil) ⟨bwZ _,.nil⟩ ?_ PH.nil_le ?_
 ·unfold gE
  (repeat' (first|exact PF.nil_le|refine PF.aH ?_ ?_))<;>first|(simp only[go_sem,hv.a1,hv.a3,hv.a4,hv.a5,hv.a6,hv.a7,hv.a8,h67,h68,h69]<;>rfl)|rfl
 rintro⟨k,v,H0⟩ ⟨hk,hO⟩
 simp only at hk hO ⊢
 simp only[go_sem,γ,EL,awN,gE]
 by_cases hlt:k<t.length
 ·have buP:(k:Int)<(t.length:Nat):=by omega
  have hr:(t.map bJ.cells)[k]?=some (t[k]).cells:=by simp[hlt]
  have hsn:=sN (t.map bJ.name) (k:=k) (by simpa using hlt)
  rw[byO] at hsn
  simp only[go_sem,δ,γ,buP,awO,hr]
  refine aP fun o ho=>?_
  simp only[go_sem,υ,δ,γ,η,θ,ζ,awP]
  refine kM hO ho (pJ (by simp; omega)) fun v' H' hO' ho'=>?_
  rw[hsn] at hO'
  simp only[go_sem,γ,awQ,wZz k]
  refine aJ (k+1,v',H') ⟨hlt,hO'⟩ (by simp only; omega) ?_ PH.le_refl
  exact Lq
 ·have buP:¬ (k:Int)<(t.length:Nat):=by omega
  have:k=t.length:=by omega
  subst this
  rw[bxC (by simp)] at hO
  simp only[go_sem,buP]
  exact hK v _ _ ⟨by simp only[go_sem,γ],by simp only[go_sem,γ],by simp only[go_sem,γ],by simp only[go_sem,γ],by simp only[go_sem,γ],by simp only[go_sem,γ],by simp only[go_sem,γ]⟩ hO
theorem aUF {C:Ctx} (L:iW C) (f:aL) (names:List (List UInt8)) (hn:names.length≤40) (hs:f.buH.length≤24) (hm:f.buI.length≤4) (hd:f.buL.length≤40) (b0:Bool) (w3 w4 v0 w6 w7:PV) (K:cI) (F:PF) (H:PH) (hv:jA F f w3 w4 v0 w6 w7 b0)
  (h0:bR H 1 v0 (eD names))
  (h67:F 132=some (.sl 3 (f.buH.map cA.cells))) (h68:F 133=some (.int .i64 (f.buH.length:Nat))) (h69:F 134=some (.int .i64 0))
  (hK:∀ v F' H',jA F' f w3 w4 v w6 w7 (b0&&f.buH.all (fV f))→bR H' 1 v (eD (names++f.buH.map cA.name))→K (.exit 6) F' H') :
  aB.wp C (.loop EM) K F H:=by
 refine wp_loop (α:=Nat × PV × PH) (fun t=>(((gE f w3 w4 t.2.1 w6 w7 (b0&&fX f.buH (fV f) t.1)).set 132 (.sl 3 (f.buH.map cA.cells))).set 133 (.int .i64 (f.buH.length:Nat))).set 134 (.int .i64 t.1)) (fun t=>t.2.2)
  (fun t=>t.1≤f.buH.length∧bR t.2.2 1 t.2.1 (eD (names++(f.buH.map cA.name).take t.1))) (fun t=>f.buH.length-t.1) (0,v0,H) ⟨bwZ _,by rw[List.take_zero,byU]; exact h0⟩ ?_ PH.le_refl ?_
 ·unfold gE
  (repeat' (first|exact PF.nil_le|refine PF.aH ?_ ?_))<;>first|(simp only[go_sem,hv.a1,hv.a3,hv.a4,hv.a5,hv.a6,hv.a7,hv.a8,h67,h68,h69,pR,byL]<;>rfl)|rfl
 rintro⟨k,v,H0⟩ ⟨hk,hO⟩
 simp only at hk hO ⊢
 simp only[go_sem,γ,EM,awR,gE]
 by_cases hlt:k<f.buH.length
 ·have buP:(k:Int)<(f.buH.length:Nat):=by omega
  have hr:(f.buH.map cA.cells)[k]?=some (f.buH[k]).cells:=by simp[hlt]
  have hsn:eD (names++(f.buH.map cA.name).take k)++[[.str (f.buH[k]).name]]=eD (names++(f.buH.map cA.name).take (k+1)):=by
   rw[byH (by simpa using hlt),← bxU,byO]
   unfold eD
   simp only[bzD,bzB,List.map_nil]
  simp only[go_sem,δ,γ,buP,awS,hr]
  refine aP fun o ho=>?_
  simp only[go_sem,υ,δ,γ,η,θ,ζ,awT]
  refine kM hO ho (pJ (by simp; omega)) fun v' H' hO' ho'=>?_
  rw[hsn] at hO'
  have buQ:=pQ f.buH (fV f) hlt
  have fin:∀ (c:Bool) (F':PF),c=(b0&&fX f.buH (fV f) (k+1))→((((gE f w3 w4 v' w6 w7 c).set 132 (.sl 3 (f.buH.map cA.cells))).set 133 (.int .i64 (f.buH.length:Nat))).set 134 (.int .i64 (k+1:Nat))).le F' →
    eA (fun (t:Nat × PV × PH)=>(((gE f w3 w4 t.2.1 w6 w7 (b0&&fX f.buH (fV f) t.1)).set 132 (.sl 3 (f.buH.map cA.cells))).set 133 (.int .i64 (f.buH.length:Nat))).set 134 (.int .i64 t.1)) (fun (t:Nat × PV × PH)=>t.2.2)  (fun (t:Nat × PV × PH)=>t.1≤f.buH.length∧bR t.2.2 1 t.2.1 (eD (names++(f.buH.map cA.name).take t.1))) (fun (t:Nat × PV × PH)=>f.buH.length-t.1) (f.buH.length-k) K .normal F' H':=by
   intro c F' hc hle
   refine aJ (α:=Nat × PV × PH) (k+1,v',H') ⟨hlt,hO'⟩ (by simp only; omega) ?_ PH.le_refl
   rw[hc] at hle
   exact hle
  unfold gE at fin
  rw[buQ,← bzI] at fin
  have hmd:fV f f.buH[k]=(within (f.buH[k]).model 0 ((f.buI.length:Int)-1)&&within (f.buH[k]).machine 0 ((f.buL.length:Int)-1)&&decide ((f.buL.map bJ.level).getD (f.buH[k]).machine.toNat 0=4)):=rfl
  cases hb:(b0&&fX f.buH (fV f) k) with
  | false =>
   rw[hb,bwT] at fin
   simp only[go_sem,γ,reduceCtorEq,UH,ho',qY,wZz k]
   refine fin false _ rfl ?_
   exact Lq
  | true =>
   rw[hb,bwY] at fin
   simp only[go_sem,δ,γ,θ,UH,ho',bwN,xX (Om:f.buI.length≤1000)]
   refine aA (L.inn _ 0 _) Ev ?_
   cases e1:within (f.buH[k]).model 0 ((f.buI.length:Int)-1) with
   | false =>
    simp only[go_sem,γ,reduceCtorEq,qY,wZz k]
    refine fin false _ (by rw[hmd,e1]; simp only[bwT]) ?_
    exact Lq
   | true =>
    simp only[go_sem,δ,γ,θ,ho',bwN,xX (Om:f.buL.length≤1000)]
    refine aA (L.inn _ 0 _) Ev ?_
    cases e2:within (f.buH[k]).machine 0 ((f.buL.length:Int)-1) with
    | false =>
     simp only[go_sem,γ,reduceCtorEq,qY,wZz k]
     refine fin false _ (by rw[hmd,e1,e2]; simp only[bwT,bxT]) ?_
     exact Lq
    | true =>
     obtain⟨i1,i2⟩:=within_iff.1 e2
     have i3:(f.buH[k]).machine.toNat<f.buL.length:=by omega
     have hpr:(f.buL.map bJ.cells)[(f.buH[k]).machine.toNat]?=some (f.buL[(f.buH[k]).machine.toNat]).cells:=by simp[i3]
     have hlv:(f.buL.map bJ.level).getD (f.buH[k]).machine.toNat 0=(f.buL[(f.buH[k]).machine.toNat]).level:=by simp[i3]
     rw[hlv] at hmd
     by_cases e3:(f.buL[(f.buH[k]).machine.toNat]).level=4
     ·simp only[go_sem,δ,γ,θ,ho',i1,hpr,bX e3,qY,wZz k]
      refine fin true _ (by rw[hmd,e1,e2,decide_eq_true e3]; rfl) ?_
      exact Lq
     ·simp only[go_sem,δ,γ,θ,ho',i1,hpr,bD e3,qY,wZz k]
      refine fin false _ (by rw[hmd,e1,e2,decide_eq_false e3]; rfl) ?_
      exact Lq
 ·have buP:¬ (k:Int)<(f.buH.length:Nat):=by omega
  have:k=f.buH.length:=by omega
  subst this
  rw[bxC (by simp)] at hO
  rw[sA]
  simp only[go_sem,buP]
  exact hK v _ _ ⟨by simp only[go_sem,γ],by simp only[go_sem,γ],by simp only[go_sem,γ],by simp only[go_sem,γ],by simp only[go_sem,γ],by simp only[go_sem,γ],by simp only[go_sem,γ]⟩ hO
theorem aUG {C:Ctx} (L:iW C) (f:aL) (hf:f.Ok) (hs:f.buM.length≤4) (hm:f.buI.length≤4) (b0:Bool) (w3 w4 w5 w7:PV) (K:cI) (F:PF) (H:PH) (hv:jA F f w3 w4 w5 .buJ w7 b0)
  (h67:F 174=some (.sl 17 (f.buM.map cV.cells))) (h68:F 175=some (.int .i64 (f.buM.length:Nat))) (h69:F 176=some (.int .i64 0))
  (hK:∀ v F' H',jA F' f w3 w4 w5 v w7 (b0&&f.buM.all (gX f.buI.length))→bR H' 1 v (eD (f.buM.map cV.name))→K (.exit 8) F' H') :
  aB.wp C (.loop EN) K F H:=by
 refine wp_loop (α:=Nat × PV × PH) (fun t=>(((gE f w3 w4 w5 t.2.1 w7 (b0&&fX f.buM (gX f.buI.length) t.1)).set 174 (.sl 17 (f.buM.map cV.cells))).set 175 (.int .i64 (f.buM.length:Nat))).set 176 (.int .i64 t.1)) (fun t=>t.2.2)
  (fun t=>t.1≤f.buM.length∧bR t.2.2 1 t.2.1 (eD ((f.buM.map cV.name).take t.1))) (fun t=>f.buM.length-t.1) (0,.buJ,.nil) ⟨bwZ _,.nil⟩ ?_ PH.nil_le ?_
 ·unfold gE
  (repeat' (first|exact PF.nil_le|refine PF.aH ?_ ?_))<;>first|(simp only[go_sem,hv.a1,hv.a3,hv.a4,hv.a5,hv.a6,hv.a7,hv.a8,h67,h68,h69,pR,byL]<;>rfl)|rfl
 rintro⟨k,v,H0⟩ ⟨hk,hO⟩
 simp only at hk hO ⊢
 simp only[go_sem,γ,EN,awU,gE]
 by_cases hlt:k<f.buM.length
 ·have buP:(k:Int)<(f.buM.length:Nat):=by omega
  have hr:(f.buM.map cV.cells)[k]?=some (f.buM[k]).cells:=by simp[hlt]
  have hsn:=sN (f.buM.map cV.name) (k:=k) (by simpa using hlt)
  rw[byO] at hsn
  simp only[go_sem,δ,γ,buP,awV,hr]
  refine aP fun o ho=>?_
  simp only[go_sem,υ,δ,γ,η,θ,ζ,awW]
  refine kM hO ho (pJ (by simp; omega)) fun v' H' hO' ho'=>?_
  rw[hsn] at hO'
  have buQ:=pQ f.buM (gX f.buI.length) hlt
  have fin:∀ (c:Bool) (F':PF),c=(b0&&fX f.buM (gX f.buI.length) (k+1))→((((gE f w3 w4 w5 v' w7 c).set 174 (.sl 17 (f.buM.map cV.cells))).set 175 (.int .i64 (f.buM.length:Nat))).set 176 (.int .i64 (k+1:Nat))).le F' →
    eA (fun (t:Nat × PV × PH)=>(((gE f w3 w4 w5 t.2.1 w7 (b0&&fX f.buM (gX f.buI.length) t.1)).set 174 (.sl 17 (f.buM.map cV.cells))).set 175 (.int .i64 (f.buM.length:Nat))).set 176 (.int .i64 t.1)) (fun (t:Nat × PV × PH)=>t.2.2)  (fun (t:Nat × PV × PH)=>t.1≤f.buM.length∧bR t.2.2 1 t.2.1 (eD ((f.buM.map cV.name).take t.1))) (fun (t:Nat × PV × PH)=>f.buM.length-t.1) (f.buM.length-k) K .normal F' H':=by
   intro c F' hc hle
   refine aJ (α:=Nat × PV × PH) (k+1,v',H') ⟨hlt,hO'⟩ (by simp only; omega) ?_ PH.le_refl
   rw[hc] at hle
   exact hle
  unfold gE at fin
  rw[buQ,← bzI] at fin
  cases hb:(b0&&fX f.buM (gX f.buI.length) k) with
  | false =>
   rw[hb,bwT] at fin
   simp only[go_sem,γ,reduceCtorEq,UJ,ho',UK,wZz k]
   refine fin false _ rfl ?_
   exact Lq
  | true =>
   rw[hb,bwY] at fin
   simp only[go_sem,δ,γ,θ,UJ,ho',bwN]
   refine aA (L.pol _ _ (hf.buX _ (bwS hlt)) hm) Ev ?_
   simp only[go_sem,γ,UK,wZz k]
   refine fin _ _ rfl ?_
   exact Lq
 ·have buP:¬ (k:Int)<(f.buM.length:Nat):=by omega
  have:k=f.buM.length:=by omega
  subst this
  rw[bxC (by simp)] at hO
  rw[sA]
  simp only[go_sem,buP]
  exact hK v _ _ ⟨by simp only[go_sem,γ],by simp only[go_sem,γ],by simp only[go_sem,γ],by simp only[go_sem,γ],by simp only[go_sem,γ],by simp only[go_sem,γ],by simp only[go_sem,γ]⟩ hO
theorem aUH {C:Ctx} (L:iW C) (f:aL) (hs:f.buK.length≤12) (hl:f.buM.length≤4) (b0:Bool) (w3 w4 w5 w6:PV) (K:cI) (F:PF) (H:PH) (hv:jA F f w3 w4 w5 w6 .buJ b0)
  (h67:F 195=some (.sl 2 (f.buK.map dW.cells))) (h68:F 196=some (.int .i64 (f.buK.length:Nat))) (h69:F 197=some (.int .i64 0))
  (hK:∀ v F' H',jA F' f w3 w4 w5 w6 v (b0&&f.buK.all (lO f))→bR H' 1 v (eD (f.buK.map dW.name))→K (.exit 10) F' H') :
  aB.wp C (.loop EO) K F H:=by
 refine wp_loop (α:=Nat × PV × PH) (fun t=>(((gE f w3 w4 w5 w6 t.2.1 (b0&&fX f.buK (lO f) t.1)).set 195 (.sl 2 (f.buK.map dW.cells))).set 196 (.int .i64 (f.buK.length:Nat))).set 197 (.int .i64 t.1)) (fun t=>t.2.2)
  (fun t=>t.1≤f.buK.length∧bR t.2.2 1 t.2.1 (eD ((f.buK.map dW.name).take t.1))) (fun t=>f.buK.length-t.1) (0,.buJ,.nil) ⟨bwZ _,.nil⟩ ?_ PH.nil_le ?_
 ·unfold gE
  (repeat' (first|exact PF.nil_le|refine PF.aH ?_ ?_))<;>first|(simp only[go_sem,hv.a1,hv.a3,hv.a4,hv.a5,hv.a6,hv.a7,hv.a8,h67,h68,h69,pR,byL]<;>rfl)|rfl
 rintro⟨k,v,H0⟩ ⟨hk,hO⟩
 simp only at hk hO ⊢
 simp only[go_sem,γ,EO,awX,gE]
 by_cases hlt:k<f.buK.length
 ·have buP:(k:Int)<(f.buK.length:Nat):=by omega
  have hr:(f.buK.map dW.cells)[k]?=some (f.buK[k]).cells:=by simp[hlt]
  have hsn:=sN (f.buK.map dW.name) (k:=k) (by simpa using hlt)
  rw[byO] at hsn
  simp only[go_sem,δ,γ,buP,awY,hr]
  refine aP fun o ho=>?_
  simp only[go_sem,υ,δ,γ,η,θ,ζ,awZ]
  refine kM hO ho (pJ (by simp; omega)) fun v' H' hO' ho'=>?_
  rw[hsn] at hO'
  have buQ:=pQ f.buK (lO f) hlt
  have fin:∀ (c:Bool) (F':PF),c=(b0&&fX f.buK (lO f) (k+1))→((((gE f w3 w4 w5 w6 v' c).set 195 (.sl 2 (f.buK.map dW.cells))).set 196 (.int .i64 (f.buK.length:Nat))).set 197 (.int .i64 (k+1:Nat))).le F' →
    eA (fun (t:Nat × PV × PH)=>(((gE f w3 w4 w5 w6 t.2.1 (b0&&fX f.buK (lO f) t.1)).set 195 (.sl 2 (f.buK.map dW.cells))).set 196 (.int .i64 (f.buK.length:Nat))).set 197 (.int .i64 t.1)) (fun (t:Nat × PV × PH)=>t.2.2)  (fun (t:Nat × PV × PH)=>t.1≤f.buK.length∧bR t.2.2 1 t.2.1 (eD ((f.buK.map dW.name).take t.1))) (fun (t:Nat × PV × PH)=>f.buK.length-t.1) (f.buK.length-k) K .normal F' H':=by
   intro c F' hc hle
   refine aJ (α:=Nat × PV × PH) (k+1,v',H') ⟨hlt,hO'⟩ (by simp only; omega) ?_ PH.le_refl
   rw[hc] at hle
   exact hle
  unfold gE at fin
  rw[buQ,← bzI] at fin
  have hm:lO f f.buK[k]=within (f.buK[k]).buX 0 ((f.buM.length:Int)-1):=rfl
  cases hb:(b0&&fX f.buK (lO f) k) with
  | false =>
   rw[hb,bwT] at fin
   simp only[go_sem,γ,reduceCtorEq,UM,ho',UN,wZz k]
   refine fin false _ rfl ?_
   exact Lq
  | true =>
   rw[hb,bwY,hm] at fin
   simp only[go_sem,δ,γ,θ,UM,ho',bwN,xX (Om:f.buM.length≤1000)]
   refine aA (L.inn _ 0 _) Ev ?_
   simp only[go_sem,γ,UN,wZz k]
   refine fin _ _ rfl ?_
   exact Lq
 ·have buP:¬ (k:Int)<(f.buK.length:Nat):=by omega
  have:k=f.buK.length:=by omega
  subst this
  rw[bxC (by simp)] at hO
  rw[sA]
  simp only[go_sem,buP]
  exact hK v _ _ ⟨by simp only[go_sem,γ],by simp only[go_sem,γ],by simp only[go_sem,γ],by simp only[go_sem,γ],by simp only[go_sem,γ],by simp only[go_sem,γ],by simp only[go_sem,γ]⟩ hO
theorem kS {f:aL} (h:¬ (f.buS.length≤4∧f.buI.length≤4∧f.buL.length≤40∧f.buH.length≤24∧f.buM.length≤4∧f.buK.length≤12)):kR f=false:=by
 rw[← Bool.not_eq_true]
 intro hs
 simp only[kR,bxJ,decide_eq_true_eq] at hs
 omega
theorem aIA {f:aL} (h:f.buS.length≤4∧f.buI.length≤4∧f.buL.length≤40∧f.buH.length≤24∧f.buM.length≤4∧f.buK.length≤12):kR f=within f.bvX 1 4:=by
 obtain⟨h1,h2,h3,h4,h5,h6⟩:=h
 simp[kR,h1,h2,h3,h4,h5,h6]
theorem kE {t:Nat} {n m:Int} {F:PF} {H:PH} (h:F t=some (.int .i64 n)) (e:n=m):aS [.tmp t] (bV (.int .i64 m)) .ret F H:=by
 subst e
 exact aU (.inr rfl) .nil (vs:=[.int .i64 n]) (by rw[kF,nG,h,pC]) PH.nil_le ⟨.refl _,rfl⟩
def oS (f:aL):Int:=if dH f then 0 else 1
theorem aWS {f:aL} (h:dH f=false):oS f=1:=by rw[oS,h]; rfl
theorem qM {C:Ctx} {F:PF} {H:PH} {name t s:Nat} {v r:PV} {rows:List (List PV)} {d:Option Nat} {K:PF→PH→Prop} (h:aE C name [.sl s rows] .nil (aC r)) (hO:bR H s v rows) (ht:F t=some v)
  (hK:∀ (F1:PF) (H1:PH),(∀ i u,F i=some u→Pure u→F1 i=some u)→K (F1.put d r) H1):fQ C name [.tmp t] [] d K F H:=by
 rcases hO with ⟨rfl,rfl⟩ | ⟨q,rs,rfl,h1,h2,h3⟩
 ·refine aA (h.aWA (.inl ⟨rfl,rfl⟩)) (by rw[vD,YT,ht,PD]) ?_
  exact hK F H fun i u hi _=>hi
 ·rw[← h3] at h
  refine nJ (k:=rows.length) h ht h1 h2 (hK _ _ fun i u hi hp=>?_)
  rw[sE,hi,bxS,hp q s rs]
theorem Seen.pure {s:Nat} {v:PV} {rows:List (List PV)} (h:Seen s v rows):Pure v:=by
 rcases h with ⟨_,rfl⟩ | rfl
 ·exact fun _ _ _=>rfl
 ·exact fun _ _ _=>rfl
def bI (b:Bool):Int:=if b then 0 else 1
abbrev PS (f:aL):List (List UInt8):=(f.buL.drop 1).map bJ.name++f.buH.map cA.name
def rW (f:aL):Bool:=distinct (f.buS.map cD.name)&&distinct (f.buI.map cP.name)&&distinct (PS f)&&distinct (f.buM.map cV.name)&&distinct (f.buK.map dW.name)
structure Small (f:aL):Prop where
 buS:f.buS.length≤4
 buI:f.buI.length≤4
 buL:f.buL.length≤40
 buH:f.buH.length≤24
 buM:f.buM.length≤4
 buK:f.buK.length≤12
theorem xL {C:Ctx} (L:iW C) {v:PV} {l:List (List UInt8)} (h:Seen 1 v (eD l)) (hl:l.length≤1000):aE C 110 [v] .nil (aC (.bool (distinct l))) :=
 (L.uniq l (Om:l.length≤9223372036854775807)).aWA h
theorem a4V {C:Ctx} (L:iW C) (f:aL) (hs:Small f) (w3 w4 w5 w6 w7:PV) (ok:Bool) (F:PF) (H:PH) (hv:jA F f w3 w4 w5 w6 w7 ok)
  (h3:Seen 1 w3 (eD (f.buS.map cD.name))) (h4:Seen 1 w4 (eD (f.buI.map cP.name))) (h5:Seen 1 w5 (eD (PS f))) (h6:Seen 1 w6 (eD (f.buM.map cV.name))) (h7:bR H 1 w7 (eD (f.buK.map dW.name))) :
  aB.wp C (.seq (.seq (.region vK) (.cond (.tmp 243) (.seq (.region kX) .ret) .skip)) (.seq (.region EP) .ret)) (aS [.tmp 2] (bV (.int .i64 (bI (ok&&rW f))))) F H:=by
 obtain⟨s1,s2,s3,s4,s5,s6⟩:=hs
 have l3:(f.buS.map cD.name).length≤1000:=by simp; omega
 have l4:(f.buI.map cP.name).length≤1000:=by simp; omega
 have l5:(PS f).length≤1000:=by simp; omega
 have l6:(f.buM.map cV.name).length≤1000:=by simp; omega
 have l7:(f.buK.map dW.name).length≤9223372036854775807:=by simp; omega
 cases ok with
 | false =>
  simp only[go_sem,γ,vK,hv.a8,kX]
  exact kE rfl rfl
 | true =>
  simp only[go_sem,γ,vK,hv.a8,hv.a3]
  refine aA (xL L h3 l3) rfl ?_
  unfold rW
  cases c1:distinct (f.buS.map cD.name) with
  | false =>
   simp only[go_sem,γ,reduceCtorEq,kX,bxB]
   exact kE rfl rfl
  | true =>
   simp only[go_sem,γ,reduceCtorEq,hv.a4,bwU]
   refine aA (xL L h4 l4) rfl ?_
   cases c2:distinct (f.buI.map cP.name) with
   | false =>
    simp only[go_sem,γ,reduceCtorEq,kX,bxB]
    exact kE rfl rfl
   | true =>
    simp only[go_sem,γ,reduceCtorEq,hv.a5,bwU]
    refine aA (xL L h5 l5) rfl ?_
    cases c3:distinct (PS f) with
    | false =>
     simp only[go_sem,γ,reduceCtorEq,kX,bxB]
     exact kE rfl rfl
    | true =>
     simp only[go_sem,γ,reduceCtorEq,hv.a6,bwU]
     refine aA (xL L h6 l6) rfl ?_
     cases c4:distinct (f.buM.map cV.name) with
     | false =>
      simp only[go_sem,γ,reduceCtorEq,kX,bxB]
      exact kE rfl rfl
     | true =>
      simp only[go_sem,γ,reduceCtorEq,hv.a7,bwU]
      refine qM (L.uniq _ l7) h7 rfl fun F1 H1 hp=>?_
      have g:F1 239=some (.bool false):=hp 239 _ rfl fun _ _ _=>rfl
      cases c5:distinct (f.buK.map dW.name) with
      | false =>
       simp only[go_sem,γ,reduceCtorEq,kX,bxB,g]
       exact kE rfl rfl
      | true =>
       simp only[go_sem,γ,reduceCtorEq,EP,bwU,g]
       exact kE rfl rfl
abbrev aiS (b:Bool):cI:=aS [.tmp 2] (bV (.int .i64 (bI b)))
def arA:aB:=.seq (.seq (.region UL) (.block 10 (.loop EO))) (.seq (.seq (.region vK) (.cond (.tmp 243) (.seq (.region kX) .ret) .skip)) (.seq (.region EP) .ret))
def aqZ:aB:=.seq (.seq (.region UI) (.block 8 (.loop EN))) arA
def aqY:aB:=.seq (.seq (.region UG) (.block 6 (.loop EM))) aqZ
def aqX:aB:=.seq (.seq (.region UF) (.block 4 (.loop EL))) aqY
def aqW:aB:=.seq (.seq (.region UD) (.block 2 (.loop EK))) aqX
def aWR:aB:=.seq (.seq (.region agW) (.block 0 (.loop EJ))) aqW
theorem baY {C:Ctx} (L:iW C) (f:aL) (hs:Small f) (w3 w4 w5 w6:PV) (ok:Bool) (F:PF) (H:PH) (hv:jA F f w3 w4 w5 w6 .buJ ok)
  (h3:Seen 1 w3 (eD (f.buS.map cD.name))) (h4:Seen 1 w4 (eD (f.buI.map cP.name))) (h5:Seen 1 w5 (eD (PS f))) (h6:bR H 1 w6 (eD (f.buM.map cV.name))) :
  aB.wp C arA (aiS (ok&&f.buK.all (lO f)&&rW f)) F H:=by
 unfold arA
 simp only[go_sem,γ,UL,hv.a1,bwN]
 refine nK h6 fun v1 hv1 F1 H1 ht hp=>?_
 refine aUH L f hs.buK hs.buM ok w3 w4 w5 v1 _ F1 H1 ⟨hp 1 _ (by simp only[go_sem,γ,hv.a1]) fun _ _ _=>rfl,hp 3 _ (by simp only[go_sem,γ,hv.a3]) h3.pure,hp 4 _ (by simp only[go_sem,γ,hv.a4]) h4.pure,hp 5 _ (by simp only[go_sem,γ,hv.a5]) h5.pure,ht 6 (by simp only[go_sem,γ,hv.a6]),hp 7 _ (by simp only[go_sem,γ,hv.a7]) fun _ _ _=>rfl,hp 8 _ (by simp only[go_sem,γ,hv.a8]) fun _ _ _=>rfl⟩
  (hp 195 _ rfl fun _ _ _=>rfl) (hp 196 _ rfl fun _ _ _=>rfl) (hp 197 _ rfl fun _ _ _=>rfl) fun v F' H' hv' hO=>?_
 have e:=a4V L f hs w3 w4 w5 v1 v _ F' H' hv' h3 h4 h5 hv1 hO
 simp only[aB.wp,go_sem] at e
 simp only[go_sem]
 exact e
theorem baX {C:Ctx} (L:iW C) (f:aL) (hf:f.Ok) (hs:Small f) (w3 w4 w5:PV) (ok:Bool) (F:PF) (H:PH) (hv:jA F f w3 w4 w5 .buJ .buJ ok)
  (h3:Seen 1 w3 (eD (f.buS.map cD.name))) (h4:Seen 1 w4 (eD (f.buI.map cP.name))) (h5:bR H 1 w5 (eD (PS f))) :
  aB.wp C aqZ (aiS (ok&&f.buM.all (gX f.buI.length)&&f.buK.all (lO f)&&rW f)) F H:=by
 unfold aqZ
 simp only[go_sem,δ,γ,θ,UI,hv.a1,bwN]
 refine nK h5 fun v1 hv1 F1 H1 ht hp=>?_
 refine aUG L f hf hs.buM hs.buI ok w3 w4 v1 .buJ _ F1 H1 ⟨hp 1 _ (by simp only[go_sem,γ,hv.a1]) fun _ _ _=>rfl,hp 3 _ (by simp only[go_sem,γ,hv.a3]) h3.pure,hp 4 _ (by simp only[go_sem,γ,hv.a4]) h4.pure,ht 5 (by simp only[go_sem,γ,hv.a5]),hp 6 _ (by simp only[go_sem,γ,hv.a6]) fun _ _ _=>rfl,hp 7 _ (by simp only[go_sem,γ,hv.a7]) fun _ _ _=>rfl,hp 8 _ (by simp only[go_sem,γ,hv.a8]) fun _ _ _=>rfl⟩
  (hp 174 _ rfl fun _ _ _=>rfl) (hp 175 _ rfl fun _ _ _=>rfl) (hp 176 _ rfl fun _ _ _=>rfl) fun v F' H' hv' hO=>?_
 simp only[go_sem]
 exact baY L f hs w3 w4 v1 v _ F' H' hv' h3 h4 hv1 hO
theorem baW {C:Ctx} (L:iW C) (f:aL) (hf:f.Ok) (hs:Small f) (w3 w4 w5:PV) (ok:Bool) (F:PF) (H:PH) (hv:jA F f w3 w4 w5 .buJ .buJ ok)
  (h3:Seen 1 w3 (eD (f.buS.map cD.name))) (h4:Seen 1 w4 (eD (f.buI.map cP.name))) (h5:bR H 1 w5 (eD ((f.buL.drop 1).map bJ.name))) :
  aB.wp C aqY (aiS (ok&&f.buH.all (fV f)&&f.buM.all (gX f.buI.length)&&f.buK.all (lO f)&&rW f)) F H:=by
 unfold aqY
 simp only[go_sem,δ,γ,θ,UG,hv.a1,bwN]
 refine aUF L f ((f.buL.drop 1).map bJ.name) (by have:=hs.buL; simp; omega) hs.buH hs.buI hs.buL ok w3 w4 w5 .buJ .buJ _ _ H ⟨by simp only[go_sem,γ,hv.a1],by simp only[go_sem,γ,hv.a3],by simp only[go_sem,γ,hv.a4],by simp only[go_sem,γ,hv.a5],by simp only[go_sem,γ,hv.a6],by simp only[go_sem,γ,hv.a7],by simp only[go_sem,γ,hv.a8]⟩ h5
  rfl rfl rfl fun v F' H' hv' hO=>?_
 simp only[go_sem]
 exact baX L f hf hs w3 w4 v _ F' H' hv' h3 h4 hO
theorem baV {C:Ctx} (L:iW C) (f:aL) (hf:f.Ok) (hs:Small f) (hd:0<f.buL.length) (w3 w4:PV) (ok:Bool) (F:PF) (H:PH) (hv:jA F f w3 w4 .buJ .buJ .buJ ok)
  (h3:Seen 1 w3 (eD (f.buS.map cD.name))) (h4:bR H 1 w4 (eD (f.buI.map cP.name))) :
  aB.wp C aqX (aiS (ok&&f.buH.all (fV f)&&f.buM.all (gX f.buI.length)&&f.buK.all (lO f)&&rW f)) F H:=by
 unfold aqX
 have hsl:(1:Int)≤(f.buL.length:Nat):=by omega
 have hsd:=hs.buL
 have hdrop:((f.buL.map bJ.cells).take f.buL.length).drop 1=(f.buL.drop 1).map bJ.cells:=by
  rw[bxC (by simp),List.map_drop]
 simp only[go_sem,κ,ν,δ,γ,θ,reduceCtorEq,UF,hv.a1,bwN,hsl,bzO,hdrop]
 refine nK h4 fun v1 hv1 F1 H1 ht hp=>?_
 refine aUE L f (f.buL.drop 1) (by simp; omega) ok w3 v1 .buJ .buJ _ F1 H1 ⟨hp 1 _ (by simp only[go_sem,γ,hv.a1]) fun _ _ _=>rfl,hp 3 _ (by simp only[go_sem,γ,hv.a3]) h3.pure,ht 4 (by simp only[go_sem,γ,hv.a4]),hp 5 _ (by simp only[go_sem,γ,hv.a5]) fun _ _ _=>rfl,hp 6 _ (by simp only[go_sem,γ,hv.a6]) fun _ _ _=>rfl,hp 7 _ (by simp only[go_sem,γ,hv.a7]) fun _ _ _=>rfl,hp 8 _ (by simp only[go_sem,γ,hv.a8]) fun _ _ _=>rfl⟩
  (hp 119 _ rfl fun _ _ _=>rfl) (hp 120 _ rfl fun _ _ _=>rfl) (hp 121 _ rfl fun _ _ _=>rfl) fun v F' H' hv' hO=>?_
 simp only[go_sem]
 exact baW L f hf hs w3 v1 v _ F' H' hv' h3 hv1 hO
theorem baU {C:Ctx} (L:iW C) (f:aL) (hf:f.Ok) (hs:Small f) (hd:0<f.buL.length) (w3:PV) (ok:Bool) (F:PF) (H:PH) (hv:jA F f w3 .buJ .buJ .buJ .buJ ok)
  (h3:bR H 1 w3 (eD (f.buS.map cD.name))) :
  aB.wp C aqW (aiS (ok&&f.buI.all (iJ f)&&f.buH.all (fV f)&&f.buM.all (gX f.buI.length)&&f.buK.all (lO f)&&rW f)) F H:=by
 unfold aqW
 simp only[go_sem,δ,γ,θ,UD,hv.a1,bwN]
 refine nK h3 fun v1 hv1 F1 H1 ht hp=>?_
 refine aUD L f hs.buI hs.buS ok v1 .buJ .buJ .buJ _ F1 H1 ⟨hp 1 _ (by simp only[go_sem,γ,hv.a1]) fun _ _ _=>rfl,ht 3 (by simp only[go_sem,γ,hv.a3]),hp 4 _ (by simp only[go_sem,γ,hv.a4]) fun _ _ _=>rfl,hp 5 _ (by simp only[go_sem,γ,hv.a5]) fun _ _ _=>rfl,hp 6 _ (by simp only[go_sem,γ,hv.a6]) fun _ _ _=>rfl,hp 7 _ (by simp only[go_sem,γ,hv.a7]) fun _ _ _=>rfl,hp 8 _ (by simp only[go_sem,γ,hv.a8]) fun _ _ _=>rfl⟩
  (hp 85 _ rfl fun _ _ _=>rfl) (hp 86 _ rfl fun _ _ _=>rfl) (hp 87 _ rfl fun _ _ _=>rfl) fun v F' H' hv' hO=>?_
 simp only[go_sem]
 exact baV L f hf hs hd v1 v _ F' H' hv' hv1 hO
theorem baT {C:Ctx} (L:iW C) (f:aL) (hf:f.Ok) (hs:Small f) (hd:0<f.buL.length) (F:PF) (H:PH) (hv:jA F f .buJ .buJ .buJ .buJ .buJ true) :
  aB.wp C aWR (aiS (f.buS.all jN&&f.buI.all (iJ f)&&f.buH.all (fV f)&&f.buM.all (gX f.buI.length)&&f.buK.all (lO f)&&rW f)) F H:=by
 unfold aWR
 simp only[go_sem,δ,γ,θ,agW,hv.a1,bwN]
 refine aUC L f hf hs.buS .buJ .buJ .buJ .buJ _ _ H ⟨by simp only[go_sem,γ,hv.a1],by simp only[go_sem,γ,hv.a3],by simp only[go_sem,γ,hv.a4],by simp only[go_sem,γ,hv.a5],by simp only[go_sem,γ,hv.a6],by simp only[go_sem,γ,hv.a7],by simp only[go_sem,γ,hv.a8]⟩ rfl rfl rfl fun v F' H' hv' hO=>?_
 simp only[go_sem]
 exact baU L f hf hs hd v _ F' H' hv' hO
theorem baR {C:Ctx} (L:iW C) (f:aL) (hf:f.Ok):KM.wp C (aS awJ.res (bV (.int .i64 (oS f)))) (PF.args [.agg f.cells]) .nil:=by
 have he:dH f=(kR f&&lT f&&(f.buS.all jN&&f.buI.all (iJ f)&&f.buH.all (fV f)&&f.buM.all (gX f.buI.length)&&f.buK.all (lO f))&&rW f):=rfl
 simp only[go_sem,δ,γ,θ,KM,aLJ,aLK,awJ]
 refine aA (L.inn f.bvX 1 4) rfl ?_
 have bad:∀ (F:PF) (H:PH),dH f=false→F 2=some (.int .i64 1)→aS [.tmp 2] (bV (.int .i64 (oS f))) .ret F H:=fun F H h1 h2=>kE h2 (aWS h1).symm
 cases e0:within f.bvX 1 4 with
 | false =>
  have:kR f=false:=by simp[kR,e0]
  simp only[go_sem,γ,bxB,mY]
  exact bad _ _ (by rw[he,this]; simp only[bwT]) rfl
 | true =>
  by_cases s1:f.buS.length≤4
  ·have s1':¬ ((f.buS.length:Nat):Int)>4:=by omega
   by_cases s2:f.buI.length≤4
   ·have s2':¬ ((f.buI.length:Nat):Int)>4:=by omega
    by_cases s3:f.buL.length≤40
    ·have s3':¬ ((f.buL.length:Nat):Int)>40:=by omega
     by_cases s4:f.buH.length≤24
     ·have s4':¬ ((f.buH.length:Nat):Int)>24:=by omega
      by_cases s5:f.buM.length≤4
      ·have s5':¬ ((f.buM.length:Nat):Int)>4:=by omega
       by_cases s6:f.buK.length≤12
       ·have s6':¬ ((f.buK.length:Nat):Int)>12:=by omega
        have hsz:=aIA ⟨s1,s2,s3,s4,s5,s6⟩
        rw[e0] at hsz
        simp only[go_sem,δ,γ,θ,reduceCtorEq,bwU,bwN,s1',s2',s3',s4',s5',s6']
        refine aA (L.buU f hf) rfl ?_
        cases e1:lT f with
        | false =>
         simp only[go_sem,γ,reduceCtorEq,bxB,mY]
         exact bad _ _ (by rw[he,e1]; simp only[bxT,bwT]) rfl
        | true =>
         have hd:0<f.buL.length:=by
          rcases bzK f.buL.length with h | h
          ·have:f.buL=[]:=bzY h
           rw[lT,this] at e1
           cases e1
          ·exact h
         have hz:oS f=bI (f.buS.all jN&&f.buI.all (iJ f)&&f.buH.all (fV f)&&f.buM.all (gX f.buI.length)&&f.buK.all (lO f)&&rW f):=by
          rw[oS,he,hsz,e1]; rfl
         rw[hz]
         simp only[go_sem,γ,reduceCtorEq,bwU,aLL,aLM]
         have e:=fun F H hv=>baT L f hf ⟨s1,s2,s3,s4,s5,s6⟩ hd F H hv
         simp only[aWR,aqW,aqX,aqY,aqZ,arA,aB.wp,go_sem] at e
         exact e _ _ ⟨by simp only[go_sem,γ],by simp only[go_sem,γ],by simp only[go_sem,γ],by simp only[go_sem,γ],by simp only[go_sem,γ],by simp only[go_sem,γ],by simp only[go_sem,γ]⟩
       ·have s6':((f.buK.length:Nat):Int)>12:=by omega
        simp only[go_sem,δ,γ,θ,reduceCtorEq,bwU,bwN,s1',s2',s3',s4',s5',s6',mY]
        exact bad _ _ (by rw[he,kS Om]; simp only[bwT]) rfl
      ·have s5':((f.buM.length:Nat):Int)>4:=by omega
       simp only[go_sem,δ,γ,θ,reduceCtorEq,bwU,bwN,s1',s2',s3',s4',s5',mY]
       exact bad _ _ (by rw[he,kS Om]; simp only[bwT]) rfl
     ·have s4':((f.buH.length:Nat):Int)>24:=by omega
      simp only[go_sem,δ,γ,θ,reduceCtorEq,bwU,bwN,s1',s2',s3',s4',mY]
      exact bad _ _ (by rw[he,kS Om]; simp only[bwT]) rfl
    ·have s3':((f.buL.length:Nat):Int)>40:=by omega
     simp only[go_sem,δ,γ,θ,reduceCtorEq,bwU,bwN,s1',s2',s3',mY]
     exact bad _ _ (by rw[he,kS Om]; simp only[bwT]) rfl
   ·have s2':((f.buI.length:Nat):Int)>4:=by omega
    simp only[go_sem,δ,γ,θ,reduceCtorEq,bwU,bwN,s1',s2',mY]
    exact bad _ _ (by rw[he,kS Om]; simp only[bwT]) rfl
  ·have s1':((f.buS.length:Nat):Int)>4:=by omega
   simp only[go_sem,δ,γ,θ,reduceCtorEq,bwU,bwN,s1',mY]
   exact bad _ _ (by rw[he,kS Om]; simp only[bwT]) rfl
def lvl (f:aL) (i:Nat):Int:=(f.buL.map bJ.level).getD i 0
def par (f:aL) (i:Nat):Int:=(f.buL.map bJ.parent).getD i 0
def aAX (f:aL) (i:Nat):Nat:=(par f i).toNat
def ayF (f:aL) (d:Nat):Nat:=((f.buH.map cA.machine).getD d 0).toNat
def mdl (f:aL) (d:Nat):Nat:=((f.buH.map cA.model).getD d 0).toNat
def ext (f:aL) (d:Nat):Int:=(f.buI.map cP.bvD).getD (mdl f d) 0
def tA (f:aL) (v:Nat):Nat:=((f.buK.map dW.buX).getD v 0).toNat
def bjJ:cV:=⟨[],0,0,0,0,0,0,0,0,[],[],⟨false,[],[]⟩,⟨false,[],[]⟩⟩
def eY (f:aL) (v:Nat):cV:=f.buM.getD (tA f v) bjJ
def upN (f:aL):Nat→Nat→Nat
 | 0,i=>i
 | k+1,i=>aAX f (upN f k i)
theorem mX {α β:Type} {l:List α} {g:α→β} {i:Nat} {b:β} (h:i<l.length):(l.map g).getD i b=g l[i]:=by
 simp[bxI,h]
structure VF (f:aL):Prop where
 small:Small f
 root:0<f.buL.length∧lvl f 0=0∧par f 0=-1
 dom:∀ i,0<i→i<f.buL.length→0≤par f i∧aAX f i<i∧lvl f (aAX f i)=lvl f i-1∧1≤lvl f i∧lvl f i≤4
 drive:∀ d (h:d<f.buH.length),0≤(f.buH[d]).model∧mdl f d<f.buI.length∧0≤(f.buH[d]).machine∧ayF f d<f.buL.length∧lvl f (ayF f d)=4
 buX:∀ p∈f.buM,1≤p.k∧p.k≤6∧0≤p.m∧p.m≤4∧p.k+p.m≤8∧p.s0=0∧(∀ l,0≤p.spread l∧p.spread l≤8)∧∀ m∈p.buI,0≤m∧m<f.buI.length
 volume:∀ v (h:v<f.buK.length),0≤(f.buK[v]).buX∧tA f v<f.buM.length
 model:∀ m∈f.buI,1≤m.bvD∧m.bvD≤16
theorem bcI {p:cV} {n:Nat} (h:gX n p=true):∀ m∈p.buI,0≤m∧m<n:=by
 intro m hm
 simp only[gX,bxJ] at h
 obtain⟨i,hi,rfl⟩:=byP hm
 have:=bxL.1 h.2 i (byD.2 hi)
 rw[bxJ] at this
 have h1:=within_iff.1 this.1
 simp only[bxI,bxA hi,bzG] at h1
 omega
theorem aeR {x:Int} (h1:1≤x) (h2:x≤4):IntKind.i64.wrap (x-1)=x-1:=wrap_i64 Om Om
theorem VF.of {f:aL} (h:dH f=true):VF f:=by
 simp only[dH,bxJ] at h
 obtain⟨⟨⟨hs,hd⟩,⟨⟨⟨hlaw,hmod⟩,hdrv⟩,hpol⟩,hvol⟩,-⟩:=h
 simp only[kR,bxJ,decide_eq_true_eq] at hs
 obtain⟨⟨⟨⟨⟨⟨s0,s1⟩,s2⟩,s3⟩,s4⟩,s5⟩,s6⟩:=hs
 cases hdm:f.buL with
 | nil=>rw[lT,hdm] at hd; cases hd
 | cons r t =>
  rw[lT,hdm] at hd
  simp only[wR,bxJ,decide_eq_true_eq] at hd
  obtain⟨⟨⟨⟨⟨⟨r1,r2⟩,r3⟩,r4⟩,r5⟩,r6⟩,bwA⟩:=hd
  have hlen:f.buL.length=t.length+1:=by rw[hdm]; rfl
  refine⟨⟨s1,s2,s3,s4,s5,s6⟩,⟨by omega,by rw[lvl,hdm]; exact r2,by rw[par,hdm]; exact r3⟩,?_,?_,?_,?_,?_⟩
  ·intro i h0 hi
   obtain⟨k,rfl⟩:∃ k,i=k+1:=⟨i-1,by omega⟩
   have hk:k<t.length:=by omega
   have:=bxL.1 bwA k (byD.2 hk)
   rw[bxA hk] at this
   simp only[DP,bxJ,decide_eq_true_eq] at this
   obtain⟨⟨⟨⟨d1,d2⟩,d3⟩,d4⟩,d5⟩:=this
   obtain⟨p0,p1⟩:=within_iff.1 d1
   obtain⟨l1,l4⟩:=within_iff.1 d3
   have e1:par f (k+1)=(t[k]).parent:=by rw[par,hdm]; simp[bxI,hk]
   have e2:lvl f (k+1)=(t[k]).level:=by rw[lvl,hdm]; simp[bxI,hk]
   rw[aeR l1 l4] at d2
   have e3:lvl f (t[k]).parent.toNat=(t[k]).level-1:=d2
   refine⟨by rw[e1]; exact p0,?_,?_,by rw[e2]; exact l1,by rw[e2]; exact l4⟩
   ·rw[aAX,e1]; omega
   ·rw[aAX,e1,e2]; exact e3
  ·intro d hd
   have:=bxL.1 hdrv _ (bwS hd)
   simp only[fV,bxJ,decide_eq_true_eq] at this
   obtain⟨⟨d1,d2⟩,d3⟩:=this
   have a1:=within_iff.1 d1
   have a2:=within_iff.1 d2
   have e1:mdl f d=(f.buH[d]).model.toNat:=by rw[mdl,mX hd]
   have e2:ayF f d=(f.buH[d]).machine.toNat:=by rw[ayF,mX hd]
   refine⟨a1.1,by rw[e1]; omega,a2.1,by rw[e2]; omega,by rw[e2]; exact d3⟩
  ·intro p hp
   have h1:=bxL.1 hpol p hp
   have h2:=bcI h1
   simp only[gX,FI,bxJ,decide_eq_true_eq,List.all_cons,List.all_nil,byL] at h1
   obtain⟨⟨⟨⟨⟨⟨⟨⟨k1,m1⟩,km⟩,q1⟩,z0⟩,sp⟩,-⟩,-⟩,-⟩:=h1
   obtain⟨g0,g1,g2,g3,g4⟩:=sp
   have b1:=within_iff.1 k1
   have b2:=within_iff.1 m1
   have b3:=within_iff.1 g0
   have b4:=within_iff.1 g1
   have b5:=within_iff.1 g2
   have b6:=within_iff.1 g3
   have b7:=within_iff.1 g4
   refine⟨b1.1,b1.2,b2.1,b2.2,km,z0,fun l=>?_,h2⟩
   unfold cV.spread
   split<;>omega
  ·intro v hv
   have:=bxL.1 hvol _ (bwS hv)
   have a1:=within_iff.1 this
   have e1:tA f v=(f.buK[v]).buX.toNat:=by rw[tA,mX hv]
   exact⟨a1.1,by rw[e1]; omega⟩
  ·intro m hm
   have:=bxL.1 hmod m hm
   simp only[iJ,bxJ] at this
   exact within_iff.1 this.1.1
def beT (f:aL) (d:Nat) (level:Int):Nat:=upN f (4-level.toNat) (ayF f d)
def eW (f:aL) (v:Nat):Int:=(eY f v).k+(eY f v).m
def anQ:Rg:=[iA 1 (.box true (Tm 0)),iT 2 false]
def anR:Rg:=[iO 3 7 1,iK 4 96 3,iC 5 .eql 4 0,iM 2 5]
def zK:aB:=(sq anQ (sq anR .ret))
def a1E:List Nat:=[1]
def NF:aW:=⟨1,6,zK,[.tmp 2]⟩
def aDR:Rg:=[iA 2 (.box true (Tm 0)),iI 4 0]
def aDS:Rd:=[(iF 6 5 2,false),(iL 7 6,false),(iF 8 6 2,false),(iL 9 8,false),(iM 10 1,false),(iX 11 2 9 10,false),(iF 12 1 11,false),(iL 13 12,false),(iX 14 17 7 13,false),(iO 15 17 14,false),(iA 5 (.alloc [(.str []),(.int .i64 0),(.int .i64 0),(.int .i64 0),(.int .i64 0),(.int .i64 0),(.int .i64 0),(.int .i64 0),(.int .i64 0),.buJ,.buJ,(.bool false),.buJ,.buJ,(.bool false),.buJ,.buJ]),true),(iS 17 5 15,true)]
def aDT:Rg:=[iF 16 1 5,iL 17 16,iF 18 2 5,iL 19 18,iB 20 .add 17 19,iM 4 20]
def GM:aB:=(sq aDR (dq aDS (sq aDT .ret)))
def aDU:List Nat:=[2]
def xN:aW:=⟨2,21,GM,[.tmp 4]⟩
def anK:Rg:=[iA 3 (.box true (Tm 0)),iA 6 (.alloc [(.int .i64 0),(.int .i64 0),(.int .i64 0)]),iT 7 false]
def anL:Rd:=[(iM 10 1,true),(iM 11 2,true),(iX 12 1 10 11,true),(iL 13 12,true),(iN 14 13,true),(iO 15 7 3,false),(iM 16 2,false),(iK2 17 156 15 16,true),(iB 18 .neq 14 17,false)]
def anM:Rg:=[iM 19 2,iM 20 1,iM 21 2,iX 22 1 20 21,iL 23 22,iN 24 23,iA 25 (.build [(.int .i64 0),(.int .i64 0),(.int .i64 0)] [(0,1,(Ci 1)),(1,1,(Tm 19)),(2,1,(Tm 24))]),iS 3 6 25,iT 7 true]
def anN:Rg:=[iM 26 1,iM 27 2,iX 28 1 26 27,iL 29 28,iN 30 29,iI 31 0]
def anO:Rg:=[iB 32 .lss 31 30]
def xO:Rg:=[iM 33 31,iX 34 1 29 31,iL 35 34,iM 8 33,iM 9 35]
def xP:Rg:=[iM 36 9,iC 37 .lss 36 (-1),iM 38 37,gM 39 9 38 false,gF 40 4 3 38 false,gL 41 40 38 false,gN 42 41 38 false,gB 43 .geq 39 42 38 false,iQ 44 38 43]
def NE:Rg:=[iM 45 2,iM 46 8,iA 47 (.build [(.int .i64 0),(.int .i64 0),(.int .i64 0)] [(0,1,(Ci 1)),(1,1,(Tm 45)),(2,1,(Tm 46))]),iS 3 6 47,iT 7 true]
def anP:Rg:=[iC 48 .add 31 1,iM 31 48]
def anJ:aB:=(sq anO (.seq (.cond (Tm 32) .skip (.exit 0)) (.seq (.block 1 (sq xO (sq xP (.cond (Tm 44) (sq NE .ret) .skip)))) (.region anP))))
def acU:Rg:=[iA 49 (.build [(.int .i64 0),(.int .i64 0),(.int .i64 0)] []),iS 3 6 49,iT 7 false]
def zJ:aB:=(sq anK (.seq (dq anL (.cond (Tm 18) (sq anM .ret) .skip)) (.seq (sq anN (.block 0 (.loop anJ))) (sq acU .ret))))
def a1C:List Nat:=[3]
def wC:aW:=⟨3,50,zJ,[.cell 6 (some 3),.tmp 7]⟩
def acK:Rg:=[iA 2 (.box true (Tm 0)),iT 4 false]
def acL:Rg:=[iO 8 7 2,iK 9 161 8,iA 10 (.un .not (Tm 9)),iM 11 10,gM 12 1 11 false,gN 13 12 11 false,gF 14 6 2 11 false,gL 15 14 11 false,gN 16 15 11 false,gB 17 .neq 13 16 11 false,iQ 18 11 17]
def GJ:Rg:=[iT 4 false]
def acM:Rg:=[iM 19 1,iN 20 19,iI 21 0]
def acN:Rg:=[iB 22 .lss 21 20]
def acO:Rg:=[iM 23 21,iM 5 23]
def acP:Rg:=[iO 25 7 2,iM 26 1,iM 27 5,iA 28 (.call 160 [(Tm 25),(Tm 26),(Tm 27)]),iM 24 28,iE 29 24 0,iE 30 24 1,iA 6 (.alloc [(.int .i64 0),(.int .i64 0),(.int .i64 0)]),iS 3 6 29,iM 7 30]
def GK:Rg:=[iM 31 7]
def acQ:Rg:=[iT 4 false]
def acR:Rg:=[iC 32 .add 21 1,iM 21 32]
def SB:aB:=(sq acN (.seq (.cond (Tm 22) .skip (.exit 0)) (.seq (.block 1 (sq acO (sq acP (sq GK (.cond (Tm 31) (sq acQ .ret) .skip))))) (.region acR))))
def SC:Rg:=[iT 4 true]
def wB:aB:=(sq acK (.seq (sq acL (.cond (Tm 18) (sq GJ .ret) .skip)) (.seq (sq acM (.block 0 (.loop SB))) (sq SC .ret))))
def aWI:List Nat:=[2]
def BS:aW:=⟨2,33,wB,[.tmp 4]⟩
theorem a1D {C:Ctx} (h:∀ f:aL,f.Ok→aE C 96 [.agg f.cells] .nil (aC (.int .i64 (oS f)))) (f:aL) (hf:f.Ok) :
  zK.wp C (aS NF.res (bV (.bool (dH f)))) (PF.args [.agg f.cells]) .nil:=by
 simp only[go_sem,δ,γ,zK,anQ,anR,NF]
 refine aA (h f hf) rfl ?_
 simp only[go_sem,γ]
 refine aY rfl ?_
 unfold oS
 cases dH f<;>rfl
theorem ajS {f:aL} {d:Nat} (h:d<f.buH.length):(f.buH.map cA.cells)[d]?=some (f.buH[d]).cells:=by simp[h]
theorem tJ {f:aL} {d:Nat} (h:d<f.buL.length):(f.buL.map bJ.cells)[d]?=some (f.buL[d]).cells:=by simp[h]
theorem tY {f:aL} {d:Nat} (h:d<f.buK.length):(f.buK.map dW.cells)[d]?=some (f.buK[d]).cells:=by simp[h]
theorem nZ {f:aL} {d:Nat} (h:d<f.buM.length):(f.buM.map cV.cells)[d]?=some (f.buM[d]).cells:=by simp[h]
theorem aZG {f:aL} {d:Nat} (h:d<f.buI.length):(f.buI.map cP.cells)[d]?=some (f.buI[d]).cells:=by simp[h]
theorem VF.bfY {f:aL} (h:VF f) {d:Nat} (hd:d<f.buH.length):(f.buH[d]).model=((mdl f d:Nat):Int):=by
 have:=(h.drive d hd).1
 rw[mdl,mX hd]; omega
theorem VF.abM {f:aL} (h:VF f) {v:Nat} (hv:v<f.buK.length):(f.buK[v]).buX=((tA f v:Nat):Int):=by
 have:=(h.volume v hv).1
 rw[tA,mX hv]; omega
theorem rE {f:aL} (h:VF f) {v:Nat} (hv:v<f.buK.length):∃ hp:tA f v<f.buM.length,f.buM[tA f v]=eY f v:=by
 have hp:=(h.volume v hv).2
 exact⟨hp,by simp[eY,bxI,hp]⟩
theorem aDQ {C:Ctx} (f:aL) (hv:VF f) (v:Nat) (h:v<f.buK.length) :
  GM.wp C (aS xN.res (bV (.int .i64 (eW f v)))) (PF.args [.agg f.cells,.int .i64 v]) .nil:=by
 obtain⟨hp,he⟩:=rE hv h
 have hpol:=hv.buX _ (bwS hp)
 rw[he] at hpol
 have hw:IntKind.i64.wrap ((eY f v).k+(eY f v).m)=(eY f v).k+(eY f v).m:=wrap_i64 Om Om
 simp only[go_sem,GM,aDR,xN]
 refine bM .nil dV PH.nil_le ?_
 simp only[go_sem,δ,γ,θ,aDS,tY h,hv.abM h,nZ hp,he]
 refine aP fun o ho=>?_
 simp only[go_sem,δ,γ,θ,aDT,hw]
 refine⟨PH.nil_le,?_⟩
 exact kE (n:=(eY f v).k+(eY f v).m) rfl rfl
def pick (n:Nat) (p:Nat→Bool):List Int:=((bwO n).filter p).map fun (i:Nat)=>(i:Int)
theorem aUM (l:List Int) (x:Int):bT l++[[.int .i64 x]]=bT (l++[x]):=by unfold bT; rw[bzD]; rfl
theorem pV (l:List Int):(bT l).length=l.length:=by unfold bT; rw[bwN]
def toS (f:aL):Spec:=fun name vs=>match name,vs with
 | 155,[_,.int _ d,.int _ l]=>some ([],fun _=>aC (.int .i64 (beT f d.toNat l:Nat)))
 | 156,[_,.int _ v]=>some ([],fun _=>aC (.int .i64 (eW f v.toNat)))
 | _,_=>none
theorem a6V (f:aL) (v:Nat):toS f 156 [.agg f.cells,.int .i64 v]=some ([],fun _=>aC (.int .i64 (eW f v))):=rfl
section
variable (o s:Nat) (rs:List (List PV))
@[go_sem] theorem boV (k:IntKind) (n:Int):PV.frz o s rs (.int k n)=.int k n:=(rfl)
@[go_sem] theorem bkJ (b:Bool):PV.frz o s rs (.bool b)=.bool b:=(rfl)
@[go_sem] theorem boZ (l:List UInt8):PV.frz o s rs (.str l)=.str l:=(rfl)
@[go_sem] theorem bkK:PV.frz o s rs .buJ=.buJ:=(rfl)
@[go_sem] theorem bsT (n:Nat) (r:List (List PV)):PV.frz o s rs (.sl n r)=.sl n r:=(rfl)
@[go_sem] theorem bkL (c:List PV):PV.frz o s rs (.buR c)=.buR c:=(rfl)
@[go_sem] theorem boY (q z i c:Nat):PV.frz o s rs (.ptr q z i c)=.ptr q z i c:=(rfl)
@[go_sem] theorem bsS (n:Nat) (c:List PV):PV.frz o s rs (.fn n c)=.fn n c:=(rfl)
@[go_sem] theorem boW (q:Nat):PV.frz o s rs (.map q)=.map q:=(rfl)
@[go_sem] theorem boX (q z off len:Nat):PV.frz o s rs (.osl q z off len)=if q=o then (if z=s∧off+len≤rs.length then .sl s ((rs.drop off).take len) else .junk) else .osl q z off len:=(rfl)
end
def jV (s:Nat) (rows:List (List PV)) (r:PV) (H:PH):Prop :=
 (rows=[]∧r=.buJ∧H=PH.nil)∨∃ q rs,r=.osl q s 0 rows.length∧H=PH.nil.set q (.rows s rs)∧rows.length≤rs.length∧rs.take rows.length=rows
theorem aJV (q s:Nat) (rs:List (List PV)):(PH.nil.set q (.rows s rs)).frz q s rs=PH.nil:=PH.ext fun o=>by
 rw[PP]
 by_cases e:o=q
 ·rw[if_pos e]; rfl
 ·rw[if_neg e,bL,if_neg e]; rfl
section
variable {C:Ctx} {K:cI} {F:PF} {H:PH} {s:Nat} {v:PV} {rows:List (List PV)}
theorem jV.eM {r:PV} {H':PH} (h:jV s rows r H') (ha:kG H .nil H'):bR (H.eM .nil H') s r rows∧∀ o x,H o=some x→(H.eM .nil H') o=some x:=by
 rcases h with ⟨h1,h2,rfl⟩ | ⟨q,rs,h1,rfl,h3,h4⟩
 ·rw[PH.kZ]; exact⟨.inl ⟨h1,h2⟩,fun o x h=>h⟩
 ·rw[PH.kO]
  have hq:H q=none:=ha q (.rows s rs) (by simp only[bL,if_true]) rfl
  refine⟨.inr ⟨q,rs,h1,by simp only[bL,if_true],h3,h4⟩,fun o x ho=>?_⟩
  have:o≠q:=by rintro rfl; rw[hq] at ho; cases ho
  simp only[bL,if_neg this,ho]
theorem FY {t:Nat} {e:lS} (he:e=.normal∨e=.ret) (h:bR H s v rows) (ht:F t=some v):aS [.tmp t] (jV s rows) e F H:=by
 rcases h with ⟨rfl,rfl⟩ | ⟨q,rs,rfl,h1,h2,h3⟩
 ·exact aU (vs:=[.buJ]) he .nil (by rw[kF,nG,ht,pC]) PH.nil_le (.inl ⟨rfl,rfl,rfl⟩)
 ·exact aU (vs:=[.osl q s 0 rows.length]) he (PH.nil.set q (.rows s rs)) (by rw[kF,nG,ht,pC]) (PH.aH PH.nil_le h1) (.inr ⟨q,rs,rfl,rfl,h2,h3⟩)
theorem BM {t:Nat} {e:lS} (he:e=.normal∨e=.ret) (ht:F t=some .buJ):aS [.tmp t] (jV s []) e F H:=FY he .nil ht
theorem a0R {t:Nat} {e:lS} {r:PV} {H':PH} (he:e=.normal∨e=.ret) (h:jV s rows r H') (ht:F t=some r):aS [.tmp t] (jV s rows) e F (H.eM .nil H'):=by
 refine aU (vs:=[r]) he H' (by rw[kF,nG,ht,pC]) (fun o x ho=>?_) h
 rw[lK,ho]
theorem aE.freeze {name:Nat} {args:List PV} (h:aE C name args H (jV s rows)):aE C name args H (aC (.sl s rows)) :=
 ⟨h.1,fun E w vs hN hW hvs=>(h.2 E w vs hN hW hvs).mono fun e w' he=>by
  obtain⟨u,pv,E',H',rfl,hW',hr,hE,hp⟩:=he
  rcases hp with ⟨rfl,rfl,rfl⟩ | ⟨q,rs,rfl,rfl,h3,h4⟩
  ·exact⟨u,_,E',_,rfl,hW',(Co.nil s).sound hr,hE,rfl,rfl⟩
  ·have hz:iD (PF.nil.set 0 (.osl q s 0 rows.length)) (PH.nil.set q (.rows s rs)) _ _:=.step q (s:=s) (rs:=rs) (by simp only[bL,if_true]) (.refl _ _)
   obtain⟨E2,k1,k2,k3⟩:=hz.sound hW'
   have bwI:=k3 (fun _=>u) (fun i p hi=>by
    rw[mN] at hi
    split at hi
    ·cases hi; exact hr
    ·cases hi) 0 (.sl s rows) (by rw[sE,mN,if_pos rfl,bxS,qU h3,h4])
   rw[aJV] at k1 k2
   exact⟨u,_,E2,_,rfl,k1,bwI,hE.trans k2,rfl,rfl⟩⟩
theorem eH.of:∀ {E:Env} (ps:List PV) (vs:List Value),vs.length=ps.length→(∀ (i:Nat) p v,ps[i]?=some p→vs[i]?=some v→aX E p v)→eH E ps vs
 | _,[],[],_,_=>.nil
 | _,[],_::_,h,_=>by simp at h
 | _,_::_,[],h,_=>by simp at h
 | _,p::ps,v::vs,h,k=>.cons (k 0 p v rfl rfl) (eH.of ps vs (by simpa using h) fun i q u a b=>k (i+1) q u (by simpa using a) (by simpa using b))
theorem bH.same {E:Env} {w w':World} (hW:bH E H w) (hs:w.heap.size≤w'.heap.size) (hb:∀ b,b<w.heap.size→H b=none→w'.heap[b]?=w.heap[b]?) (hH:∀ o x,H o=some x→w'.heap[o]?=w.heap[o]?):bH E H w':=by
 have key:∀ b,b<w.heap.size→w'.heap[b]?=w.heap[b]?:=fun b hlt=>by
  cases e:H b with
  | none=>exact hb b hlt e
  | some x=>exact hH b x e
 refine⟨fun b cs h=>?_,fun o x h=>?_,fun o n h=>?_⟩
 ·obtain⟨h1,ty,fr,h2⟩:=hW.g b cs h
  exact⟨h1,ty,fr,(key b (bzT.1 h2).1).trans h2⟩
 ·obtain⟨h1,h2⟩:=hW.h o x h
  exact⟨Nat.lt_of_lt_of_le h1 hs,h2.mono (.refl E) (key o h1)⟩
 ·obtain⟨cur,ty,fr,h1,h2⟩:=hW.s o n h
  exact⟨cur,ty,fr,(key o (bzT.1 h1).1).trans h1,h2⟩
inductive Plain:PV→Prop
 | int (k:IntKind) (n:Int):Plain (.int k n)
 | bool (b:Bool):Plain (.bool b)
 | str (l:List UInt8):Plain (.str l)
theorem Plain.rep {v:PV} (h:Plain v) {E E':Env} {u:Value} (r:aX E v u):aX E' v u:=by
 cases h<;>cases r
 ·exact .int _ _
 ·exact .bool _
 ·exact .str _
theorem aE.bfV {name o:Nat} {rs:List (List PV)} {args:List PV} (hv:Plain v) (h:aE C name (args.map (PV.frz o s rs)) .nil (aC v)) :
  aE C name args (PH.nil.set o (.rows s rs)) (fun r H'=>r=v∧H'=PH.nil.set o (.rows s rs)):=by
 refine⟨h.1,fun E w vs hN hW hvs=>?_⟩
 have hz:iD (PF.args args) (PH.nil.set o (.rows s rs)) _ _:=.step o (s:=s) (rs:=rs) (by simp only[bL,if_true]) (.refl _ _)
 obtain⟨E1,k1,k2,k3⟩:=hz.sound hW
 rw[aJV] at k1 k2
 have hlen:=hvs.len
 have hvs1:eH E1 (args.map (PV.frz o s rs)) vs.toList:=by
  refine eH.of _ _ (by rw[bwN]; exact hlen) fun i p u hp hu=>?_
  have:=k3 (fun i=>(vs.toList[i]?).getD undef) (fun j q hj=>by
   have hjl:=(bxZ.1 hj).1
   have hjv:j<vs.toList.length:=by omega
   simp only[bxA hjv,bzG]
   exact hvs.at_ j q _ hj (bxA hjv)) i p (by rw[sE,args_at,← bxW]; exact hp)
  simp only[hu,bzG] at this
  exact this
 refine (h.2 E1 w vs (k2.env.num.trans hN) k1 hvs1).mono fun e w' he=>?_
 obtain⟨u,pv,E2,H2,rfl,hW2,hr,hE,rfl,rfl⟩:=he
 have hblk:∀ b,b<w.heap.size→w'.heap[b]?=w.heap[b]?:=fun b hb=>hE.block b hb rfl
 refine⟨u,pv,E,_,rfl,hW.same hE.size (fun b hb _=>hblk b hb) (fun q x hq=>hblk q (hW.h q x hq).1),hv.rep hr,⟨.refl E,hE.os,hE.tape,hE.output,hE.size,fun b hb _=>hblk b hb,fun q x hq=>.inl ⟨x,hq⟩,fun b cs hb=>.inl hb⟩,rfl,rfl⟩
theorem SU {name o:Nat} {rs:List (List PV)} {args:List aO} {vs:List PV} {d:Option Nat} {K:PF→PH→Prop} (hv:Plain v) (h:aE C name (vs.map (PV.frz o s rs)) .nil (aC v)) (ho:H o=some (.rows s rs)) (ha:aO.evs F args=some vs)
  (hk:K (F.put d v) H):fQ C name args [] d K F H:=by
 refine fA (h.bfV hv) ha (PH.aH PH.nil_le ho) ?_
 rintro r H' ⟨rfl,rfl⟩ -
 rw[PH.amJ _ (PH.aH PH.nil_le ho)]
 exact hk
theorem a3H {Hs:PH} {S:Spec} {name o:Nat} {rs:List (List PV)} {vs:List PV} {R:PH→PV→PH→Prop} {args:List aO} {st:Bool} {d:Option Nat} {K:PF→PH→Prop} (hS:S name vs=some ([o],R)) (hv:Plain v) (ho:H o=some (.rows s rs))
  (h:aE C name (vs.map (PV.frz o s rs)) .nil (aC v)) (hR1:R (PH.nil.set o (.rows s rs)) v (PH.nil.set o (.rows s rs))) (hR2:∀ r H',R (PH.nil.set o (.rows s rs)) r H'→r=v∧H'=PH.nil.set o (.rows s rs)) (ha:aO.evs F args=some vs) (hle:Hs.le H) (hk:K (F.put d v) H) :
  dOp C Hs S st (.call name args) d K F H:=TH hS ho (h.bfV hv) hR1 hR2 ha hle hk
theorem aqP {name t:Nat} {R:PV→PH→Prop} {d:Option Nat} {K:PF→PH→Prop} (h:aE C name [.sl s rows] .nil R) (hO:bR H s v rows) (ht:F t=some v)
  (hK:∀ (F1:PF) (H1:PH),(∀ i u,F i=some u→Pure u→F1 i=some u)→∀ r H',R r H'→kG H1 .nil H'→K (F1.put d r) (H1.eM .nil H')):fQ C name [.tmp t] [] d K F H:=by
 rcases hO with ⟨rfl,rfl⟩ | ⟨q,rs,rfl,h1,h2,h3⟩
 ·exact .inl ⟨[.buJ],.nil,R,by rw[vD,YT,ht,PD]; rfl,PH.nil_le,h.aWA (.inl ⟨rfl,rfl⟩),hK F H fun i u hi _=>hi⟩
 ·refine .inr ⟨_,_,.step q h1 (.refl _ _),[.sl s rows],.nil,R,?_,PH.nil_le,h,hK _ _ fun i u hi hp=>?_⟩
  ·simp only[vD,PD,YT,sE,ht,bxS,qU h2,h3,byU]
  ·rw[sE,hi,bxS,hp q s rs]
end
theorem aYW (l:List Int) (i:Nat) (x:Int):(bT l).set i [.int .i64 x]=bT (l.set i x):=by unfold bT; rw[List.map_set]
def qH (f:aL) (room:List Int) (d:Nat):Int:=if room.length=f.buH.length then min (max (room.getD d 0) 0) (ext f d) else ext f d
def fB (f:aL) (room:List Int):List Int:=(bwO f.buH.length).map (qH f room)
def abW (f:aL) (room:List Int):List Int:=if dH f then fB f room else []
theorem MP (f:aL) (room:List Int):(fB f room).length=f.buH.length:=by simp[fB]
theorem aCK (f:aL) (room:List Int) {d:Nat} (h:d<(fB f room).length):(fB f room)[d]=qH f room d:=by simp[fB]
theorem VF.aYE {f:aL} (h:VF f) {d:Nat} (hd:d<f.buH.length):∃ hm:mdl f d<f.buI.length,(f.buI[mdl f d]).bvD=ext f d:=by
 have hm:=(h.drive d hd).2.1
 exact⟨hm,by rw[ext,mX hm]⟩
theorem bbQ (a b:Int):(if b<a then b else a)=min a b:=by
 rw[Int.min_def]
 by_cases h:b<a
 ·rw[if_pos h,if_neg Om]
 ·rw[if_neg h,if_pos Om]
abbrev lay (l:List (List Int)):PV:=.sl 1 (l.map fun r=>[ints r])
def boJ (n:Nat) (xs:List Int):List Int:=(bwO n).map fun (d:Nat)=>((xs.count (d:Int):Nat):Int)
def bfW (f:aL) (l:List (List Int)):List Int:=boJ f.buH.length l.flatten
structure jU (l:List (List Int)):Prop where
 rows:l.length≤16777216
 all:l.flatten.length≤16777216
theorem JU (l:List (List Int)) {i:Nat} (h:i<l.length):(l.take (i+1)).flatten=(l.take i).flatten++l[i]:=by
 rw[byH h,List.flatten_append]
 simp only[List.flatten_cons,List.flatten_nil,byU]
theorem atT (l:List (List Int)) (i:Nat):(l.take i).flatten.length≤l.flatten.length:=by
 have:l.flatten=(l.take i).flatten++(l.drop i).flatten:=by rw[← List.flatten_append,byX]
 rw[this,bwW]; omega
structure arN where
 kind:Int
 vol:Int
 wher:Int
abbrev arN.cells (x:arN):List PV:=[.int .i64 x.kind,.int .i64 x.vol,.int .i64 x.wher]
def fI (p:Int→Bool):List Int→Nat→Option Nat
 | [],_=>none
 | x::t,i=>if p x then some i else fI p t (i+1)
def jH (f:aL) (d:Int):Bool:=decide (d < -1)||decide (d≥(f.buH.length:Nat))
def lG (f:aL) (l:List (List Int)) (v:Nat):Option arN :=
 if ((l.getD v []).length:Int)=eW f v then (fI (jH f) (l.getD v []) 0).map fun (i:Nat)=>⟨1,v,i⟩ else some ⟨1,v,((l.getD v []).length:Nat)⟩
def shV:Option arN→PV
 | some x=>.tup [.agg x.cells,.bool true]
 | none=>.tup [.agg [.int .i64 0,.int .i64 0,.int .i64 0],.bool false]
def a6X (f:aL) (o:Nat) (v:Nat) (row:List Int) (k:Nat):PF:=((((((PF.nil.set 2 (.int .i64 v)).set 3 (.buR f.cells)).set 6 (.ptr o 3 0 0)).set 29 (ints row)).set 30 (.int .i64 (row.length:Nat))).set 31 (.int .i64 k))
def iU (f:aL) (l:List (List Int)):Bool:=dH f&&decide (l.length=f.buK.length)&&(bwO l.length).all fun v=>(lG f l v).isNone
def tSF (f:aL) (l:List (List Int)) (k:Nat):PF:=((((PF.nil.set 1 (lay l)).set 2 (.buR f.cells)).set 20 (.int .i64 (l.length:Nat))).set 21 (.int .i64 k))
section
variable {C:Ctx} {F:PF} {H:PH}
theorem bR.ne {s s':Nat} {v:PV} {rows:List (List PV)} {o:Nat} {y:List (List PV)} (h:bR H s v rows) (ho:H o=some (.rows s' y)) (hs:s≠s'):∀ l,v≠.osl o s 0 l:=by
 intro l e
 rcases h with ⟨_,h2⟩ | ⟨q,rs,h1,h2,_⟩
 ·rw[h2] at e; cases e
 ·rw[h1] at e
  injection e with e1
  subst e1
  rw[ho] at h2
  injection h2 with h2
  injection h2 with h2
  exact hs h2.symm
theorem bR.set {s s':Nat} {v:PV} {rows:List (List PV)} {o:Nat} {y:List (List PV)} {x:cM} (h:bR H s v rows) (ho:H o=some (.rows s' y)) (hs:s≠s'):bR (H.set o x) s v rows:=by
 have hne:=h.ne ho hs
 rcases h with ⟨h1,h2⟩ | ⟨q,rs,h1,h2,h3,h4⟩
 ·exact .inl ⟨h1,h2⟩
 ·refine .inr ⟨q,rs,h1,?_,h3,h4⟩
  have:q≠o:=by rintro rfl; exact hne _ h1
  simp only[bL,if_neg this,h2]
def Dis (s:Nat) (v u:PV):Prop:=∀ q l q' l',v=.osl q s 0 l→u=.osl q' s 0 l'→q≠q'
theorem Dis.nil {s:Nat}:Dis s .buJ .buJ:=fun _ _ _ _ h=>by cases h
theorem Dis.symm {s:Nat} {v u:PV} (h:Dis s v u):Dis s u v:=fun q l q' l' h1 h2=>(h q' l' q l h2 h1).symm
end
structure Obs where
 o5:Nat
 o7:Nat
 o8:Nat
 oD:Nat
 oB:Nat
structure Obs.Ne (o:Obs):Prop where
 a1:o.o5≠o.oD
 a2:o.o5≠o.oB
 a3:o.o7≠o.oD
 a4:o.o7≠o.oB
 a5:o.o8≠o.oD
 a6:o.o8≠o.oB
 a7:o.oD≠o.oB
structure a2Y (H:PH) (o:Obs) (v:Nat) (p:cV) (A:List Bool) (D B:List Int):Prop where
 h5:H o.o5=some (.rows 1 [[.int .i64 v]])
 h7:H o.o7=some (.rows 17 [p.cells])
 h8:H o.o8=some (.rows 1 (fE A))
 hD:H o.oD=some (.rows 1 (bT D))
 hB:H o.oB=some (.rows 1 (bT B))
theorem a2Y.keep {H H':PH} {o:Obs} {v:Nat} {p:cV} {A:List Bool} {D B:List Int} (h:a2Y H o v p A D B) (hk:∀ q s' z,3≠s'→H q=some (.rows s' z)→H' q=some (.rows s' z)):a2Y H' o v p A D B :=
 ⟨hk _ _ _ (by decide) h.h5,hk _ _ _ (by decide) h.h7,hk _ _ _ (by decide) h.h8,hk _ _ _ (by decide) h.hD,hk _ _ _ (by decide) h.hB⟩
def home (row:List Int) (i:Nat):Bool:=decide (row.getD i 0<0)
def bfZ (f:aL) (p:cV) (i:Nat):Int:=p.spread (lvl f i).toNat
def lW (down:List Int) (d:Int):Bool:=decide (0≤d)&&down.contains d
def lY (down:List Int) (d:Int):Bool:=decide (0≤d)&&!down.contains d
def sX (down row:List Int):Bool:=row.any (lW down)
def gT (down row:List Int):Nat:=row.countP (lY down)
def vX (f:aL) (reserve:Int) (down:List Int) (v:Nat) (row:List Int):Bool:=sX down row&&decide (((gT down row:Nat):Int)<(eY f v).k+reserve)
def wU (f:aL) (now:List (List Int)) (reserve:Int) (down:List Int) (n:Nat):Bool:=(bwO n).all fun v=>!vX f reserve down v (now.getD v [])
def DU (f:aL) (now:List (List Int)) (reserve:Int) (down:List Int):Bool:=wU f now reserve down now.length
def gY (f:aL) (now:List (List Int)) (reserve:Int):Bool:=(dH f&&iU f now)&&(decide (0≤reserve)&&decide (reserve≤4))
def kW (f:aL) (now:List (List Int)) (reserve:Int) (down:List Int):Bool:=gY f now reserve&&DU f now reserve down
theorem YX (f:aL) (now:List (List Int)) (reserve:Int) (down:List Int) (n:Nat):wU f now reserve down (n+1)=(wU f now reserve down n&&!vX f reserve down n (now.getD n [])):=by
 unfold wU
 rw[List.range_succ,List.all_append]
 simp
theorem atQ {f:aL} {now:List (List Int)} {reserve:Int} {down:List Int} {v n:Nat} (h:v<n) (hs:vX f reserve down v (now.getD v [])=true):wU f now reserve down n=false:=by
 unfold wU
 rw[Bool.eq_false_iff,ne_eq,bxL]
 intro hk
 have:=hk v (byD.2 h)
 rw[hs] at this
 cases this
theorem akY {down row:List Int} {k:Nat} (h:k<row.length):sX down (row.take (k+1))=(sX down (row.take k)||lW down row[k]):=by
 unfold sX
 rw[byH h,List.any_append]
 simp
theorem RX {down row:List Int} {k:Nat} (h:k<row.length):gT down (row.take (k+1))=gT down (row.take k)+if lY down row[k] then 1 else 0:=by
 unfold gT
 rw[byH h,List.countP_append,List.countP_cons,List.countP_nil]
 omega
theorem aWB {f:aL} {l:List (List Int)} (h:iU f l=true):l.length=f.buK.length:=by
 unfold iU at h
 simp only[bxJ,decide_eq_true_eq] at h
 omega
def aNX:Rg:=[iT 4 false]
def aNY:Rg:=[iI 5 0]
def aNZ:Rg:=[iM 6 5,iM 7 0,iN 8 7,iB 9 .lss 6 8]
def aiE:Rg:=[iM 12 0,iM 13 5,iX 14 1 12 13,iL 15 14,iM 16 1,iB 17 .eql 15 16]
def aOA:Rg:=[iT 4 true]
def aOB:Rg:=[iM 10 5,iC 11 .add 10 1,iM 5 11]
def aNV:aB:=(.seq (sq aNZ (.cond (Tm 9) .skip (.exit 0))) (.seq (.block 1 (sq aiE (.cond (Tm 17) (sq aOA .ret) .skip))) (.region aOB)))
def aOC:Rg:=[iT 4 false]
def MN:aB:=(sq aNX (.seq (sq aNY (.block 0 (.loop aNV))) (sq aOC .ret)))
def aOD:List Nat:=[]
def MM:aW:=⟨2,18,MN,[.tmp 4]⟩
def aDC:Rg:=[iA 2 (.box true (Tm 0)),iZ 4]
def aDD:Rg:=[iO 8 7 2,iK 9 67 8,iA 10 (.un .not (Tm 9))]
def aDE:Rg:=[iZ 4]
def aDF:Rg:=[iZ 5]
def aDG:Rg:=[iI 6 0]
def aDH:Rg:=[iM 11 6,iF 12 4 2,iL 13 12,iN 14 13,iB 15 .lss 11 14]
def aDI:Rd:=[(iF 18 2 2,false),(iL 19 18,false),(iF 20 4 2,false),(iL 21 20,false),(iM 22 6,false),(iX 23 3 21 22,false),(iF 24 1 23,false),(iL 25 24,false),(iX 26 4 19 25,false),(iF 27 1 26,false),(iL 28 27,false),(iM 7 28,false)]
def VP:Rg:=[iM 29 1,iN 30 29,iF 31 4 2,iL 32 31,iN 33 32,iB 34 .eql 30 33]
def aDJ:Rg:=[iM 35 1,iM 36 6,iX 37 1 35 36,iL 38 37,iM 39 7,iA 40 (.bvK false (Tm 38) (Tm 39)),iA 41 (.bvK true (Ci 0) (Tm 40)),iM 7 41]
def VQ:Rg:=[iM 42 5,iM 43 7,iA 44 (.buO true 1 1 [(.int .i64 0)] [(0,(Tm 43))]),iA 45 (.append 1 8 (Tm 42) (Tm 44)),iM 5 45]
def NA:Rg:=[iM 16 6,iC 17 .add 16 1,iM 6 17]
def anI:aB:=(.seq (sq aDH (.cond (Tm 15) .skip (.exit 0))) (.seq (.block 1 (dq aDI (.seq (sq VP (.cond (Tm 34) (.region aDJ) .skip)) (.region VQ)))) (.region NA)))
def NB:Rg:=[iM 46 5,iM 4 46]
def GF:aB:=(sq aDC (.seq (sq aDD (.cond (Tm 10) (sq aDE .ret) .skip)) (sq aDF (.seq (sq aDG (.block 0 (.loop anI))) (sq NB .ret)))))
def a6R:List Nat:=[2,44]
def acA:aW:=⟨2,47,GF,[.tmp 4]⟩
def aOQ:Rg:=[iA 2 (.box true (Tm 0)),iI 4 0]
def aOR:Rg:=[iI 5 0]
def aOS:Rg:=[iM 6 5,iM 7 1,iN 8 7,iB 9 .lss 6 8]
def PU:Rd:=[(iM 12 1,false),(iM 13 5,false),(iX 14 1 12 13,false),(iL 15 14,false),(iC 16 .lss 15 (-1),false),(iM 17 16,false),(gM 18 1 17 false,false),(gM 19 5 17 false,false),(iG 20 (.bvE 1 (Tm 18) (Tm 19)) 17 false,false),(gL 21 20 17 false,false),(gF 22 4 2 17 false,false),(gL 23 22 17 false,false),(gN 24 23 17 false,false),(gB 25 .geq 21 24 17 false,false),(iQ 26 17 25,false)]
def aiF:Rg:=[iM 27 5,iM 4 27]
def aOT:Rg:=[iM 10 5,iC 11 .add 10 1,iM 5 11]
def aOP:aB:=(.seq (sq aOS (.cond (Tm 9) .skip (.exit 0))) (.seq (.block 1 (dq PU (.cond (Tm 26) (sq aiF .ret) .skip))) (.region aOT)))
def aOU:Rg:=[iI 4 (-1)]
def MU:aB:=(sq aOQ (.seq (sq aOR (.block 0 (.loop aOP))) (sq aOU .ret)))
def bcT:List Nat:=[2]
def aCR:aW:=⟨2,28,MU,[.tmp 4]⟩
def acC:Rg:=[iA 2 (.box true (Tm 0)),iT 4 false]
def acD:Rg:=[iO 6 7 2,iK 7 67 6,iA 8 (.un .not (Tm 7)),iM 9 8,gM 10 1 9 false,gN 11 10 9 false,gF 12 6 2 9 false,gL 13 12 9 false,gN 14 13 9 false,gB 15 .neq 11 14 9 false,iQ 16 9 15]
def GG:Rg:=[iT 4 false]
def acE:Rg:=[iI 5 0]
def acF:Rg:=[iM 17 5,iM 18 1,iN 19 18,iB 20 .lss 17 19]
def acG:Rd:=[(iM 23 1,true),(iM 24 5,true),(iX 25 1 23 24,true),(iL 26 25,true),(iN 27 26,true),(iO 28 7 2,false),(iM 29 5,false),(iK2 30 82 28 29,true),(iB 31 .neq 27 30,false),(iM 32 31,false),(gO 33 7 2 32 false,false),(gM 34 1 32 false,false),(gM 35 5 32 false,false),(iG 36 (.bvE 1 (Tm 34) (Tm 35)) 32 false,false),(gL 37 36 32 false,false),(gK2 38 89 33 37 32 false,true),(gC 39 .geq 38 0 32 false,false),(iQ 40 32 39,false)]
def GH:Rg:=[iT 4 false]
def acH:Rg:=[iM 21 5,iC 22 .add 21 1,iM 5 22]
def acB:aB:=(.seq (sq acF (.cond (Tm 20) .skip (.exit 0))) (.seq (.block 1 (dq acG (.cond (Tm 40) (sq GH .ret) .skip))) (.region acH)))
def acI:Rg:=[iT 4 true]
def vZ:aB:=(sq acC (.seq (sq acD (.cond (Tm 16) (sq GG .ret) .skip)) (.seq (sq acE (.block 0 (.loop acB))) (sq acI .ret))))
def aWG:List Nat:=[2]
def BR:aW:=⟨2,41,vZ,[.tmp 4]⟩

def eM (f:aL) (l:List (List Int)) (room:List Int) (d:Nat):Bool:=decide ((bfW f l).getD d 0>(fB f room).getD d 0)
def PV.oid:PV→Option Nat
 | .osl q _ _ _=>some q
 | _=>none
abbrev LI:=PV × Nat × List (List PV)
abbrev BX:=Nat × cM
def dY (B:List BX):List Nat:=B.map (·.1)
def dO (L:List LI):List Nat:=L.filterMap fun x=>x.1.oid
structure bA (H:PH) (B:List BX) (L:List LI):Prop where
 box:∀ b∈B,H b.1=some b.2
 lst:∀ x∈L,bR H x.2.1 x.1 x.2.2
 nd:(dY B++dO L).Nodup
section
variable {C:Ctx} {H:PH} {B:List BX} {L:List LI} {K:PV→PH→Prop}
theorem bR.id {s q:Nat} {v:PV} {rows:List (List PV)} (h:bR H s v rows) (hq:v.oid=some q):∃ rs,H q=some (.rows s rs)∧v=.osl q s 0 rows.length∧rows.length≤rs.length∧rs.take rows.length=rows:=by
 rcases h with ⟨_,rfl⟩ | ⟨p,rs,rfl,h1,h2,h3⟩
 ·cases hq
 ·cases hq
  exact⟨rs,h1,rfl,h2,h3⟩
theorem bR.same {s:Nat} {v:PV} {rows:List (List PV)} {H':PH} (h:bR H s v rows) (hk:∀ q,v.oid=some q→H' q=H q):bR H' s v rows:=by
 rcases h with h | ⟨p,rs,rfl,h1,h2,h3⟩
 ·exact .inl h
 ·exact .inr ⟨p,rs,rfl,by rw[hk p rfl]; exact h1,h2,h3⟩
theorem jP {x:LI} {q:Nat} (h:x∈L) (hq:x.1.oid=some q):q∈dO L:=List.mem_filterMap.2 ⟨x,h,hq⟩
theorem qZ {b:BX} (h:b∈B):b.1∈dY B:=bxV.2 ⟨b,h,rfl⟩
theorem bA.nil:bA H [] []:=⟨by simp,by simp,by simp[dY,dO]⟩
theorem bA.at (h:bA H B L) (i:Nat) {o:Nat} {x:cM} (hi:B[i]?=some (o,x)):H o=some x:=h.box _ (bzC hi)
theorem bA.own (h:bA H B L) (i:Nat) {s:Nat} {v:PV} {rows:List (List PV)} (hi:L[i]?=some (v,s,rows)):bR H s v rows:=h.lst _ (bzC hi)
theorem bA.ndB (h:bA H B L):(dY B).Nodup:=(bzE.1 h.nd).1
theorem bA.ndL (h:bA H B L):(dO L).Nodup:=(bzE.1 h.nd).2.1
theorem bA.ndX (h:bA H B L) {o q:Nat} (ho:o∈dY B) (hq:q∈dO L):o≠q:=(bzE.1 h.nd).2.2 o ho q hq
theorem bA.ne (h:bA H B L) (i j:Nat) {o p:Nat} {x y:cM} (hi:B[i]?=some (o,x)) (hj:B[j]?=some (p,y)) (hij:i≠j):o≠p:=by
 intro e
 have h1:(dY B)[i]?=some o:=by unfold dY; rw[bxW,hi]; rfl
 have h2:(dY B)[j]?=some p:=by unfold dY; rw[bxW,hj]; rfl
 obtain⟨li,e1⟩:=bxZ.1 h1
 obtain⟨lj,e2⟩:=bxZ.1 h2
 have hp:=List.pairwise_iff_getElem.1 h.ndB
 rcases Nat.lt_or_gt_of_ne hij with g | g
 ·exact hp i j li lj g (by rw[e1,e2,e])
 ·exact hp j i lj li g (by rw[e1,e2,e])
theorem bA.neL (h:bA H B L) (i j:Nat) {o q:Nat} {x:cM} {y:LI} (hi:B[i]?=some (o,x)) (hj:L[j]?=some y) (hq:y.1.oid=some q):o≠q :=
 h.ndX (qZ (bzC hi)) (jP (bzC hj) hq)
theorem bA.fresh (h:bA H B L) {o:Nat} (ho:H o=none):o ∉ dY B∧o ∉ dO L:=by
 refine⟨fun hm=>?_,fun hm=>?_⟩
 ·obtain⟨b,hb,rfl⟩:=bxV.1 hm
  rw[h.box b hb] at ho; cases ho
 ·obtain⟨x,hx,e⟩:=List.mem_filterMap.1 hm
  obtain⟨rs,h1,_⟩:=(h.lst x hx).id e
  rw[h1] at ho; cases ho
theorem bA.keep (h:bA H B L) {H':PH} (hk:∀ q,q∈dY B∨q∈dO L→H' q=H q):bA H' B L :=
 ⟨fun b hb=>by rw[hk _ (.inl (qZ hb))]; exact h.box b hb,fun x hx=>(h.lst x hx).same fun q hq=>hk q (.inr (jP hx hq)),h.nd⟩
theorem a4X {i:Nat} {o:Nat} {x y:cM} (hi:B[i]?=some (o,x)):dY (B.set i (o,y))=dY B:=by
 unfold dY
 rw[List.map_set]
 refine List.ext_getElem? fun j=>?_
 rw[List.getElem?_set]
 split
 ·rename_i e
  subst e
  rw[bxW,hi]
  have:=(bxZ.1 hi).1
  simp[this]
 ·rfl
theorem bA.set (h:bA H B L) (i:Nat) {o:Nat} {x:cM} (hi:B[i]?=some (o,x)) (y:cM):bA (H.set o y) (B.set i (o,y)) L:=by
 have hoB:o∈dY B:=qZ (bzC hi)
 refine⟨fun b hb=>?_,fun z hz=>(h.lst z hz).same fun q hq=>?_,by rw[a4X hi]; exact h.nd⟩
 ·obtain⟨j,hj⟩:=List.mem_iff_getElem?.1 hb
  rw[List.getElem?_set] at hj
  split at hj
  ·split at hj
   ·cases hj; simp only[bL,if_true]
   ·cases hj
  ·rename_i hne
   have:b.1≠o:=fun e=>h.ne i j hi (show B[j]?=some (b.1,b.2) from hj) hne e.symm
   rw[bL,if_neg this]
   exact h.box b (bzC hj)
 ·have:q≠o:=fun e=>h.ndX hoB (jP hz hq) e.symm
  rw[bL,if_neg this]
theorem bA.new (h:bA H B L) {o:Nat} (ho:H o=none) (y:cM):bA (H.set o y) (B++[(o,y)]) L:=by
 obtain⟨f1,f2⟩:=h.fresh ho
 refine⟨fun b hb=>?_,fun z hz=>(h.lst z hz).same fun q hq=>?_,?_⟩
 ·rw[byA,byJ] at hb
  rcases hb with hb | rfl
  ·have:b.1≠o:=fun e=>f1 (e ▸ qZ hb)
   rw[bL,if_neg this]; exact h.box b hb
  ·simp only[bL,if_true]
 ·have:q≠o:=fun e=>f2 (e ▸ jP hz hq)
  rw[bL,if_neg this]
 ·have:=h.nd
  simp only[dY,bzD,bzB,List.map_nil] at *
  rw[bxU,bzE] at *
  obtain⟨a,b,c⟩:=this
  refine⟨a,?_,fun p hp q hq=>?_⟩
  ·rw[List.singleton_append,List.nodup_cons]; exact⟨f2,b⟩
  ·rw[List.singleton_append,bxF] at hq
   rcases hq with rfl | hq
   ·intro e; subst e; exact f1 hp
   ·exact c p hp q hq
theorem jF (L1 L2:List LI):dO (L1++L2)=dO L1++dO L2:=List.filterMap_append ..
theorem bA.sY (h:bA H B L) (s:Nat):bA H B (L++[(.buJ,s,[])]):=by
 refine⟨h.box,fun z hz=>?_,?_⟩
 ·rw[byA,byJ] at hz
  rcases hz with hz | rfl
  ·exact h.lst z hz
  ·exact .nil
 ·rw[jF,show dO [((.buJ:PV),s,([]:List (List PV)))]=[] from rfl,byU]; exact h.nd
theorem bA.bgA (h:bA H B L) {o s:Nat} {rows:List (List PV)} (ho:H o=none):bA (H.set o (.rows s rows)) B (L++[(.osl o s 0 rows.length,s,rows)]):=by
 obtain⟨f1,f2⟩:=h.fresh ho
 have hk:=h.keep (H':=H.set o (.rows s rows)) fun q hq=>by
  have:q≠o:=by rintro rfl; exact hq.elim f1 f2
  rw[bL,if_neg this]
 refine⟨hk.box,fun z hz=>?_,?_⟩
 ·rw[byA,byJ] at hz
  rcases hz with hz | rfl
  ·exact hk.lst z hz
  ·exact .inr ⟨o,rows,rfl,by simp only[bL,if_true],bwR _,bxM⟩
 ·rw[jF,show dO [((.osl o s 0 rows.length:PV),s,rows)]=[o] from rfl,← bxU,bzE]
  refine⟨h.nd,by simp,fun p hp q hq=>?_⟩
  rw[byJ] at hq
  subst hq
  rintro rfl
  rcases byA.1 hp with hp | hp
  ·exact f1 hp
  ·exact f2 hp
theorem axC {i:Nat} {v v':PV} {s s':Nat} {rows rows':List (List PV)} (hi:L[i]?=some (v,s,rows)):∃ L1 L2,L=L1++(v,s,rows)::L2∧L.set i (v',s',rows')=L1++(v',s',rows')::L2:=by
 obtain⟨hl,he⟩:=bxZ.1 hi
 refine⟨L.take i,L.drop (i+1),?_,?_⟩
 ·rw[← he,← byG hl,byX]
 ·rw[List.set_eq_take_append_cons_drop,if_pos hl]
theorem bA.xQ (h:bA H B L) (i:Nat) {s:Nat} {v:PV} {rows:List (List PV)} (hi:L[i]?=some (v,s,rows)) {s':Nat} {v':PV} {rows':List (List PV)} {H':PH} (ho:bR H' s' v' rows')
  (hid:∀ q,v'.oid=some q→v.oid=some q∨H q=none) (hk:∀ q,q∈dY B∨q∈dO L→(∀ p,v.oid=some p→q≠p)→H' q=H q):bA H' B (L.set i (v',s',rows')):=by
 obtain⟨L1,L2,e1,e2⟩:=axC (v':=v') (s':=s') (rows':=rows') hi
 rw[e2]
 subst e1
 have hnd:=h.nd
 have eL:dO (L1++(v,s,rows)::L2)=dO L1++(v.oid.toList++dO L2):=by
  rw[jF]
  congr 1
  unfold dO
  rw[List.filterMap_cons]
  cases e:v.oid<;>simp
 have eL':dO (L1++(v',s',rows')::L2)=dO L1++(v'.oid.toList++dO L2):=by
  rw[jF]
  congr 1
  unfold dO
  rw[List.filterMap_cons]
  cases e:v'.oid<;>simp
 rw[eL] at hnd
 have other:∀ q,q∈dY B∨q∈dO L1∨q∈dO L2→∀ p,v.oid=some p→q≠p:=by
  intro q hq p hp e
  subst e
  rw[hp] at hnd
  simp only[Option.toList_some] at hnd
  rw[bzE] at hnd
  obtain⟨a,b,c⟩:=hnd
  rw[bzE] at b
  obtain⟨b1,b2,b3⟩:=b
  rw[List.singleton_append,List.nodup_cons] at b2
  rcases hq with hq | hq | hq
  ·exact c q hq q (by simp) rfl
  ·exact b3 q hq q (by simp) rfl
  ·exact b2.1 hq
 have keepq:∀ q,q∈dY B∨q∈dO L1∨q∈dO L2→H' q=H q:=by
  intro q hq
  refine hk q ?_ (other q hq)
  rw[eL]
  simp only[byA]
  rcases hq with hq | hq | hq
  ·exact .inl hq
  ·exact .inr (.inl hq)
  ·exact .inr (.inr (.inr hq))
 refine⟨fun b hb=>by rw[keepq _ (.inl (qZ hb))]; exact h.box b hb,fun z hz=>?_,?_⟩
 ·rw[byA,bxF] at hz
  rcases hz with hz | rfl | hz
  ·exact (h.lst z (by simp[hz])).same fun q hq=>keepq q (.inr (.inl (jP hz hq)))
  ·exact ho
  ·exact (h.lst z (by simp[hz])).same fun q hq=>keepq q (.inr (.inr (jP hz hq)))
 ·rw[eL']
  cases e:v'.oid with
  | none =>
   simp only[Option.toList_none,byW]
   refine List.Nodup.sublist ?_ hnd
   exact byT.append (byT.refl _) (byT.append (byT.refl _) (List.sublist_append_right _ _))
  | some q =>
   rcases hid q e with hv | hn
   ·rw[hv] at hnd
    exact hnd
   ·obtain⟨f1,f2⟩:=h.fresh hn
    rw[eL] at f2
    simp only[byA,not_or] at f2
    have hnd':(dY B++(dO L1++dO L2)).Nodup:=List.Nodup.sublist (byT.append (byT.refl _) (byT.append (byT.refl _) (List.sublist_append_right _ _))) hnd
    simp only[Option.toList_some]
    rw[bzE] at hnd' ⊢
    obtain⟨a,b,c⟩:=hnd'
    rw[bzE] at b
    obtain⟨b1,b2,b3⟩:=b
    refine⟨a,?_,?_⟩
    ·rw[bzE]
     refine⟨b1,by rw[List.singleton_append,List.nodup_cons]; exact⟨f2.2.2,b2⟩,fun p hp r hr=>?_⟩
     rw[List.singleton_append,bxF] at hr
     rcases hr with rfl | hr
     ·rintro rfl; exact f2.1 hp
     ·exact b3 p hp r hr
    ·intro p hp r hr
     rw[byA,List.singleton_append,bxF] at hr
     rcases hr with hr | rfl | hr
     ·exact c p hp r (by simp[hr])
     ·rintro rfl; exact f1 hp
     ·exact c p hp r (by simp[hr])
theorem bA.append (h:bA H B L) (i:Nat) {s b:Nat} {v y:PV} {rows src:List (List PV)} (hi:L[i]?=some (v,s,rows)) (hy:eK H s y=some src) (hr:roomFor rows.length src.length b)
  (hk:∀ v' H',bA H' B (L.set i (v',s,rows++src))→(src≠[]→∃ q,v'=.osl q s 0 (rows++src).length)→K v' H'):mR H s b v y K:=by
 rcases h.own i hi with ⟨rfl,rfl⟩ | ⟨q,rs,rfl,h1,h2,h3⟩
 ·refine⟨src,hy,hr,fun e=>?_,fun e o ho=>?_⟩
  ·subst e
   refine hk _ _ ?_ fun h=>absurd rfl h
   exact h.xQ i hi (.inl ⟨rfl,rfl⟩) (fun q hq=>by cases hq) fun q _ _=>rfl
  ·refine hk _ _ (h.xQ i hi (.inr ⟨o,src,rfl,by simp only[bL,if_true],bwR _,bxM⟩) (fun q hq=>by cases hq; exact .inr ho) fun q hq _=>?_) fun _=>⟨o,rfl⟩
   obtain⟨f1,f2⟩:=h.fresh ho
   have:q≠o:=by rintro rfl; exact hq.elim f1 f2
   rw[bL,if_neg this]
 ·have hlen:(rows++src).length=rows.length+src.length:=bwW
  refine⟨src,hy,rfl,rfl,hr,rs,h1,h2,?_,fun o ho=>?_⟩
  ·rw[h3]
   refine hk _ _ (h.xQ i hi (.inr ⟨q,rows++src,by rw[hlen],by simp only[bL,if_true],bwR _,bxM⟩) (fun p hp=>by cases hp; exact .inl rfl) fun p _ hp=>?_) fun _=>⟨q,by rw[hlen]⟩
   rw[bL,if_neg (hp q rfl)]
  ·rw[h3]
   refine hk _ _ (h.xQ i hi (.inr ⟨o,rows++src,by rw[hlen],by simp only[bL,if_true],bwR _,bxM⟩) (fun p hp=>by cases hp; exact .inr ho) fun p hpm hp=>?_) fun _=>⟨o,by rw[hlen]⟩
   obtain⟨f1,f2⟩:=h.fresh ho
   have n1:p≠o:=by rintro rfl; exact hpm.elim f1 f2
   rw[bL,if_neg n1]
theorem bA.sub (h:bA H B L) {B':List BX} {L':List LI} (hB:B'.Sublist B) (hL:L'.Sublist L):bA H B' L' :=
 ⟨fun b hb=>h.box b (hB.subset hb),fun x hx=>h.lst x (hL.subset hx),List.Nodup.sublist (byT.append (hB.map _) (hL.filterMap _)) h.nd⟩
theorem bA.biZ (h:bA H B L) (i:Nat):bA H (B.eraseIdx i) L:=h.sub (List.eraseIdx_sublist ..) (byT.refl _)
theorem bA.bjA (h:bA H B L) (i:Nat):bA H B (L.eraseIdx i):=h.sub (byT.refl _) (List.eraseIdx_sublist ..)
end
section
variable {C:Ctx} {F:PF} {H:PH} {B:List BX} {L:List LI}
theorem bA.BQ (h:bA H B L) {q:Nat} (hq:q∈dY B∨q∈dO L):∃ x,H q=some x:=by
 rcases hq with hq | hq
 ·obtain⟨b,hb,rfl⟩:=bxV.1 hq
  exact⟨_,h.box b hb⟩
 ·obtain⟨x,hx,e⟩:=List.mem_filterMap.1 hq
  obtain⟨rs,h1,_⟩:=(h.lst x hx).id e
  exact⟨_,h1⟩
theorem bA.perm (h:bA H B L) {B':List BX} {L':List LI} (hB:B.Perm B') (hL:L.Perm L'):bA H B' L' :=
 ⟨fun b hb=>h.box b (hB.mem_iff.2 hb),fun x hx=>h.lst x (hL.mem_iff.2 hx),(List.Perm.nodup_iff ((hB.map _).append (hL.filterMap _))).1 h.nd⟩
theorem bA.only (h:bA H B L) {B1:List BX} {L1:List LI} (hB:B1.Sublist B) (hL:L1.Sublist L):bA (H.only (dY B1++dO L1)) B1 L1:=by
 refine (h.sub hB hL).keep fun q hq=>?_
 rw[oZ]
 rw[if_pos (byA.2 hq)]
theorem bgB {a b c d:List Nat} (h1:(a++c).Nodup) (h2:(b++d).Nodup) (h3:∀ q,q∈a∨q∈c→q∈b∨q∈d→False):((a++b)++(c++d)).Nodup:=by
 have e:List.Perm ((a++b)++(c++d)) ((a++c)++(b++d)):=by
  rw[bxU,bxU]
  exact List.Perm.append_left a (by rw[← bxU,← bxU]; exact List.Perm.append_right d List.perm_append_comm)
 rw[e.nodup_iff,bzE]
 refine⟨h1,h2,fun p hp q hq=>?_⟩
 rintro rfl
 exact h3 p (byA.1 hp) (byA.1 hq)
theorem bA.frame {H':PH} {B1 B2 B':List BX} {L1 L2 L':List LI} (h:bA H (B1++B2) (L1++L2)) (h':bA H' B' L') (ha:kG H (H.only (dY B1++dO L1)) H'):bA (H.eM (H.only (dY B1++dO L1)) H') (B'++B2) (L'++L2):=by
 have h2:bA H B2 L2:=h.sub (List.sublist_append_right ..) (List.sublist_append_right ..)
 have dis:∀ q,q∈dY B2∨q∈dO L2→¬ (q∈dY B1++dO L1):=by
  intro q hq hm
  have hnd:=h.nd
  rw[show dY (B1++B2)=dY B1++dY B2 from bzD,jF] at hnd
  have e:List.Perm ((dY B1++dY B2)++(dO L1++dO L2)) ((dY B1++dO L1)++(dY B2++dO L2)):=by
   rw[bxU,bxU]
   exact List.Perm.append_left _ (by rw[← bxU,← bxU]; exact List.Perm.append_right _ List.perm_append_comm)
  rw[e.nodup_iff,bzE] at hnd
  exact hnd.2.2 q hm q (byA.2 hq) rfl
 have new:∀ q,q∈dY B'∨q∈dO L'→(H.eM (H.only (dY B1++dO L1)) H') q=H' q:=by
  intro q hq
  obtain⟨x,hx⟩:=h'.BQ hq
  rw[lK,hx]
 have old:∀ q,q∈dY B2∨q∈dO L2→(H.eM (H.only (dY B1++dO L1)) H') q=H q:=by
  intro q hq
  obtain⟨x,hx⟩:=h2.BQ hq
  have h0:(H.only (dY B1++dO L1)) q=none:=by rw[oZ,if_neg (dis q hq)]
  rw[lK]
  cases e:H' q with
  | none=>simp only[h0]
  | some y =>
   have:=ha q y e h0
   rw[hx] at this; cases this
 have k1:=h'.keep new
 have k2:=h2.keep old
 refine⟨fun b hb=>?_,fun x hx=>?_,?_⟩
 ·rcases byA.1 hb with hb | hb
  ·exact k1.box b hb
  ·exact k2.box b hb
 ·rcases byA.1 hx with hx | hx
  ·exact k1.lst x hx
  ·exact k2.lst x hx
 ·rw[show dY (B'++B2)=dY B'++dY B2 from bzD,jF]
  refine bgB h'.nd h2.nd fun q hq hq2=>?_
  obtain⟨x,hx⟩:=h'.BQ hq
  obtain⟨y,hy⟩:=h2.BQ hq2
  have h0:(H.only (dY B1++dO L1)) q=none:=by rw[oZ,if_neg (dis q hq2)]
  have:=ha q x hx h0
  rw[hy] at this; cases this
theorem ST {name:Nat} {vs:List PV} {args:List aO} {d:Option Nat} {K:PF→PH→Prop} {B1 B2:List BX} {L1 L2:List LI} {Q:PV→List BX→List LI→Prop} (h:bA H (B1++B2) (L1++L2))
  (hc:∀ H0,bA H0 B1 L1→aE C name vs H0 (fun r H'=>∃ B' L',Q r B' L'∧bA H' B' L')) (ha:aO.evs F args=some vs)
  (hk:∀ r B' L' H',Q r B' L'→bA H' (B'++B2) (L'++L2)→K (F.put d r) H'):fQ C name args [] d K F H:=by
 refine fA (hc (H.only (dY B1++dO L1)) (h.only (List.sublist_append_left ..) (List.sublist_append_left ..))) ha (ahY H _) ?_
 rintro r H' ⟨B',L',hq,h'⟩ hap
 exact hk r B' L' _ hq (h.frame h' hap)
theorem AH {name o:Nat} {x y:cM} {r:PV} {vs:List PV} {args:List aO} {d:Option Nat} {K:PF→PH→Prop} (h:aE C name vs (PH.nil.set o x) (fun r' H'=>r'=r∧H'=PH.nil.set o y)) (ho:H o=some x) (ha:aO.evs F args=some vs)
  (hk:K (F.put d r) (H.set o y)):fQ C name args [] d K F H:=by
 refine fA h ha (PH.aH PH.nil_le ho) ?_
 rintro r' H' ⟨rfl,rfl⟩ -
 rw[PH.kP]
 exact hk
theorem asL {Hs:PH} {S:Spec} {name o:Nat} {x y:cM} {r:PV} {vs:List PV} {R:PH→PV→PH→Prop} {args:List aO} {st:Bool} {d:Option Nat} {K:PF→PH→Prop} (hS:S name vs=some ([o],R)) (ho:H o=some x)
  (h:aE C name vs (PH.nil.set o x) (fun r' H'=>r'=r∧H'=PH.nil.set o y)) (hR1:R (PH.nil.set o x) r (PH.nil.set o y)) (hR2:∀ r' H',R (PH.nil.set o x) r' H'→r'=r∧H'=PH.nil.set o y) (ha:aO.evs F args=some vs)
  (hle:Hs.le (H.set o y)) (hk:K (F.put d r) (H.set o y)):dOp C Hs S st (.call name args) d K F H:=by
 have e:=aAS ho
 refine⟨vs,[o],_,ha,hS,fun q hq=>?_,?_,fun G=>⟨r,_,by rw[e]; exact hR1,fun q z hz hn=>?_⟩,fun r' H' hr _=>?_⟩
 ·simp at hq; subst hq; exact⟨x,ho⟩
 ·rw[e]
  exact h.post fun r' H' hr=>⟨r',.refl _,by rw[hr.1,hr.2]; exact hR1⟩
 ·rw[e] at hn
  rw[bL] at hz hn
  split at hn
  ·cases hn
  ·rename_i hne
   rw[if_neg hne] at hz; cases hz
 ·rw[e] at hr
  obtain⟨rfl,rfl⟩:=hR2 r' H' hr
  rw[e,PH.kP]
  exact⟨hle,hk⟩
theorem a6U {s:Nat} {q z:Nat} {rs:List (List PV)} {v:PV} {rows:List (List PV)} (h:bR H s v rows) (hv:v.oid≠some q):bR (H.frz q z rs) s v (rows.map fun r=>r.map (PV.dX q z rs)):=by
 rcases h with ⟨rfl,rfl⟩ | ⟨p,rs',rfl,h1,h2,h3⟩
 ·exact .inl ⟨rfl,rfl⟩
 ·have hne:¬ p=q:=fun e=>hv (by rw[e]; rfl)
  refine .inr ⟨p,rs'.map fun r=>r.map (PV.dX q z rs),by rw[bwN],?_,by simpa using h2,?_⟩
  ·rw[PP,if_neg hne,h1]; rfl
  ·rw[bwN,← List.map_take,h3]
theorem bA.frz (h:bA H B L) (i:Nat) {q s k:Nat} {rows:List (List PV)} (hi:L[i]?=some (.osl q s 0 k,s,rows)):∃ rs,H q=some (.rows s rs)∧PV.dX q s rs (.osl q s 0 k)=.sl s rows∧PV.frz q s rs (.osl q s 0 k)=.sl s rows∧(∀ j x,j≠i→L[j]?=some x→PV.dX q s rs x.1=x.1) ∧
  bA (H.frz q s rs) (B.map fun b=>(b.1,b.2.frz q s rs)) ((L.eraseIdx i).map fun x=>(x.1,x.2.1,x.2.2.map fun r=>r.map (PV.dX q s rs))):=by
 obtain⟨rs,h1,h2,h3,h4⟩:=(h.own i hi).id rfl
 injection h2 with _ _ _ hk
 subst hk
 have e:PV.frz q s rs (.osl q s 0 rows.length)=.sl s rows:=by rw[qU h3,h4]
 refine⟨rs,h1,e,e,?_⟩
 refine⟨fun j x hji hj=>?_,?_⟩
 ·have hxq:x.1.oid≠some q:=by
   intro hxq
   obtain⟨hl,he⟩:=bxZ.1 hi
   obtain⟨hl2,he2⟩:=bxZ.1 hj
   have hmem:x∈L.eraseIdx i:=List.mem_eraseIdx_iff_getElem?.2 ⟨j,hji,hj⟩
   have hnd:=h.ndL
   have hs:L=L.take i++(L[i]::L.drop (i+1)):=by rw[← byG hl,byX]
   rw[List.eraseIdx_eq_take_drop_succ] at hmem
   rw[hs,jF] at hnd
   have e3:dO (L[i]::L.drop (i+1))=q::dO (L.drop (i+1)):=by rw[he]; rfl
   rw[e3,bzE] at hnd
   obtain⟨a,b,c⟩:=hnd
   rcases byA.1 hmem with hx | hx
   ·exact c q (jP hx hxq) q (by simp) rfl
   ·exact (List.nodup_cons.1 b).1 (jP hx hxq)
  cases hx:x.1<;>try rfl
  rename_i p z off len
  have:¬ p=q:=fun e=>hxq (by rw[hx,e]; rfl)
  simp only[PV.dX,if_neg this]
 obtain⟨L1,L2,e1,e2⟩:=axC (v':=.buJ) (s':=s) (rows':=rows) hi
 have hil:i=L1.length∨True:=.inr trivial
 have ers:(L.eraseIdx i).Sublist L:=List.eraseIdx_sublist ..
 have hqn:∀ x∈L.eraseIdx i,x.1.oid≠some q:=by
  intro x hx hxq
  obtain⟨hl,he⟩:=bxZ.1 hi
  have hnd:=h.ndL
  have hs:L=L.take i++(L[i]::L.drop (i+1)):=by rw[← byG hl,byX]
  rw[List.eraseIdx_eq_take_drop_succ] at hx
  rw[hs,jF] at hnd
  have e3:dO (L[i]::L.drop (i+1))=q::dO (L.drop (i+1)):=by
   rw[he]; rfl
  rw[e3,bzE] at hnd
  obtain⟨a,b,c⟩:=hnd
  rcases byA.1 hx with hx | hx
  ·exact c q (jP hx hxq) q (by simp) rfl
  ·exact (List.nodup_cons.1 b).1 (jP hx hxq)
 refine⟨fun b hb=>?_,fun x hx=>?_,?_⟩
 ·obtain⟨b0,hb0,rfl⟩:=bxV.1 hb
  have:¬ b0.1=q:=h.ndX (qZ hb0) (jP (bzC hi) rfl)
  simp only
  rw[PP,if_neg this,h.box b0 hb0]; rfl
 ·obtain⟨x0,hx0,rfl⟩:=bxV.1 hx
  exact a6U (h.lst x0 (ers.subset hx0)) (hqn x0 hx0)
 ·have i1:dY (B.map fun b=>(b.1,b.2.frz q s rs))=dY B:=by unfold dY; rw[List.map_map]; rfl
  have i2:dO ((L.eraseIdx i).map fun x=>(x.1,x.2.1,x.2.2.map fun r=>r.map (PV.dX q s rs)))=dO (L.eraseIdx i):=by unfold dO; rw[List.filterMap_map]; rfl
  rw[i1,i2]
  exact List.Nodup.sublist (byT.append (byT.refl _) (ers.filterMap _)) h.nd
def Flat (rows:List (List PV)):Prop:=∀ q s rs,rows.map (fun r=>r.map (PV.dX q s rs))=rows
theorem Flat.nil:Flat []:=fun _ _ _=>rfl
theorem Flat.of {rows:List (List PV)} (h:∀ r∈rows,∀ c∈r,∀ q s rs,PV.dX q s rs c=c):Flat rows:=fun q s rs=>by
 conv=>rhs; rw[← List.map_id rows]
 refine List.map_congr_left fun r hr=>?_
 conv=>rhs; rw[id,← List.map_id r]
 exact List.map_congr_left fun c hc=>h r hr c hc q s rs
theorem Flat.map {α:Type} {f:α→List PV} (l:List α) (h:∀ x,∀ c∈f x,∀ q s rs,PV.dX q s rs c=c):Flat (l.map f):=Flat.of fun r hr=>by
 obtain⟨x,_,rfl⟩:=bxV.1 hr
 exact h x
theorem Flat.append {r1 r2:List (List PV)} (h1:Flat r1) (h2:Flat r2):Flat (r1++r2):=fun q s rs=>by rw[bzD,h1,h2]
theorem bA.flat {φ:PV→List (List PV)} (h:bA H B L):bA H B L:=h
def wQ (v:PV) (H:PH) (R:PV→PH→Prop):Prop:=∃ F1 H1 H2,iD (PF.nil.set 0 v) H F1 H1∧H2.le H1∧∃ u,F1 0=some u∧R u H2
theorem wQ.done {v:PV} {H2:PH} {R:PV→PH→Prop} (hR:R v H2) (hle:H2.le H):wQ v H R:=⟨_,_,H2,.refl _ _,hle,v,by rw[mN,if_pos rfl],hR⟩
theorem wQ.step {v:PV} {q s:Nat} {rs:List (List PV)} {R:PV→PH→Prop} (hq:H q=some (.rows s rs)) (h:wQ (PV.frz q s rs v) (H.frz q s rs) R):wQ v H R:=by
 obtain⟨F1,H1,H2,h1,h2,h3⟩:=h
 have e:(PF.nil.set 0 v).frz q s rs=PF.nil.set 0 (PV.frz q s rs v):=by
  funext i
  rw[sE,mN,mN]
  split<;>rfl
 exact⟨F1,H1,H2,.step q hq (by rw[e]; exact h1),h2,h3⟩
theorem aiB {res:List dQ} {R:PV→PH→Prop} {vs:List PV} {e:lS} (he:e=.normal∨e=.ret) (h:dQ.evs F H res=some vs) (hf:wQ (aT vs) H R):aS res R e F H:=by
 have key:∃ vs,dQ.evs F H res=some vs∧∃ F1 H1 H2,iD (PF.nil.set 0 (aT vs)) H F1 H1∧H2.le H1∧∃ u,F1 0=some u∧R u H2:=⟨vs,h,hf⟩
 rcases he with rfl | rfl<;>exact key
theorem tN {u:PV} (h:u.oid=none) (q s:Nat) (rs:List (List PV)):PV.dX q s rs u=u:=by
 cases u<;>first | rfl | (simp[PV.oid] at h)
theorem Seen.co {s:Nat} {v:PV} {rows:List (List PV)} (h:Seen s v rows):Co v (.sl s rows):=by
 rcases h with ⟨rfl,rfl⟩ | rfl
 ·exact .nil s
 ·exact .refl _
theorem bA.giveUp:∀ (L:List LI) {H:PH} {B:List BX},bA H B L→(∀ x∈L,Flat x.2.2)→(∀ b∈B,∀ q s rs,cM.frz q s rs b.2=b.2) →
  ∃ (φ:PV→PV) (H1:PH),(∀ x∈L,Seen x.2.1 (φ x.1) x.2.2)∧(∀ u,u.oid=none→φ u=u)∧bA H1 B []∧∀ cs R,wQ (.agg (cs.map φ)) H1 R→wQ (.agg cs) H R
 | [],H,B,h,_,_=>⟨id,H,by simp,fun _ _=>rfl,h,fun cs R hf=>by rwa [List.map_id] at hf⟩
 | (w,s,rows)::L,H,B,h,hL,hB=>by
  have hflat:∀ q z rs,(L.map fun x=>(x.1,x.2.1,x.2.2.map fun r=>r.map (PV.dX q z rs)))=L:=fun q z rs=>by
   conv=>rhs; rw[← List.map_id L]
   refine List.map_congr_left fun x hx=>?_
   rw[hL x (by simp[hx]) q z rs]; rfl
  rcases h.own 0 rfl with ⟨h1,h2⟩ | ⟨q,rs,h1,_⟩
  ·obtain⟨φ,H1,k1,k2,k3,k4⟩:=bA.giveUp L (h.bjA 0) (fun x hx=>hL x (by simp[hx])) hB
   refine⟨φ,H1,fun x hx=>?_,k2,k3,k4⟩
   rw[bxF] at hx
   rcases hx with rfl | hx
   ·exact .inl ⟨h1,by simp only; rw[h2]; exact k2 _ rfl⟩
   ·exact k1 x hx
  ·subst h1
   obtain⟨rs,z1,z2,z3,z4,z5⟩:=h.frz 0 rfl
   have z6:bA (H.frz q s rs) B L:=by
    have eB:(B.map fun b=>(b.1,b.2.frz q s rs))=B:=by
     conv=>rhs; rw[← List.map_id B]
     refine List.map_congr_left fun b hb=>?_
     rw[hB b hb q s rs]; rfl
    rw[eB] at z5
    have:=z5
    simp only[List.eraseIdx_cons_zero] at this
    rwa [hflat q s rs] at this
   obtain⟨φ,H1,k1,k2,k3,k4⟩:=bA.giveUp L z6 (fun x hx=>hL x (by simp[hx])) hB
   refine⟨fun u=>φ (PV.dX q s rs u),H1,fun x hx=>?_,fun u hu=>?_,k3,fun cs R hf=>?_⟩
   ·rw[bxF] at hx
    rcases hx with rfl | hx
    ·simp only
     rw[z2]
     exact .inr (k2 _ rfl)
    ·obtain⟨j,hj⟩:=List.mem_iff_getElem?.1 hx
     have:=z4 (j+1) x Om (by simpa using hj)
     simp only
     rw[this]
     exact k1 x hx
   ·simp only
    rw[tN hu,k2 u hu]
   ·refine .step z1 ?_
    have e:PV.frz q s rs (.agg cs)=.agg (cs.map (PV.dX q s rs)):=rfl
    rw[e]
    refine k4 _ R ?_
    rw[List.map_map]
    exact hf
theorem alI {K:cI} {α:Type} {Fs:α→PF} {Hs:α→PH} {Pr:α→Prop} {m:α→Nat} {n q s:Nat} {rs:List (List PV)} (a:α) (hq:H q=some (.rows s rs)) (h0:Pr a) (hm:m a<n) (hF:(Fs a).le (F.frz q s rs)) (hH:(Hs a).le (H.frz q s rs)):eA Fs Hs Pr m n K .normal F H :=
 ⟨a,_,_,.step q hq (.refl _ _),h0,hm,hF,hH⟩
end
section
variable {C:Ctx} {F F':PF} {H:PH}
theorem cE (hle:F.le F') {x:aO} {v:PV} (h:x.ev F=some v):x.ev F'=some v:=by
 cases x
 ·exact hle _ _ h
 all_goals exact h
theorem YU (hle:F.le F'):∀ {xs:List aO} {vs:List PV},aO.evs F xs=some vs→aO.evs F' xs=some vs
 | [],_,h=>h
 | x::xs,vs,h=>by
  rw[vD] at h ⊢
  cases hx:x.ev F with
  | none=>simp[hx] at h
  | some v =>
   cases hs:aO.evs F xs with
   | none=>simp[hs] at h
   | some ws =>
    rw[hx,hs] at h
    rw[cE hle hx,YU hle hs]
    exact h
theorem atO (hle:F.le F'):∀ {ps:List (Nat × Nat × aO)} {cs ds:List PV},mV cs F ps=some ds→mV cs F' ps=some ds
 | [],_,_,h=>h
 | (off,size,x)::ps,cs,ds,h=>by
  simp only[mV] at h ⊢
  cases hx:x.ev F with
  | none=>simp[hx] at h
  | some v =>
   rw[hx] at h
   rw[cE hle hx]
   simp only at h ⊢
   split at h
   ·rename_i hc; rw[if_pos hc]; exact atO hle h
   ·cases h
theorem yJ (hle:F.le F') {size:Nat}:∀ {ps:List (Nat × aO)} {cs ds:List (List PV)},fH size cs F ps=some ds→fH size cs F' ps=some ds
 | [],_,_,h=>h
 | (i,x)::ps,cs,ds,h=>by
  simp only[fH] at h ⊢
  cases hx:x.ev F with
  | none=>simp[hx] at h
  | some v =>
   rw[hx] at h
   rw[cE hle hx]
   simp only at h ⊢
   split at h
   ·rename_i hc; rw[if_pos hc]; exact yJ hle h
   ·cases h
theorem IY (hle:F.le F') {d n:Int} {x:Option aO} (h:bnd F d x=some n):bnd F' d x=some n:=by
 cases x with
 | none=>exact h
 | some x =>
  simp only[bnd] at h ⊢
  cases hx:x.ev F with
  | none=>simp[hx] at h
  | some v=>rw[cE hle hx,← hx]; exact h
theorem aBB {op:POp} {v:PV} (hle:F.le F') (h:aN op F H=some v):aN op F' H=some v:=by
 cases op
 case mv x=>exact cE hle h
 case pick c a b =>
  simp only[aN] at h ⊢
  cases hc:c.ev F with
  | none=>simp[hc] at h
  | some t =>
   rw[hc] at h
   rw[cE hle hc]
   cases t<;>simp only at h ⊢<;>try cases h
   rename_i t
   cases t
   ·simp only[bzN,if_false] at h ⊢; exact cE hle h
   ·simp only[if_true] at h ⊢; exact cE hle h
 case same x =>
  simp only[aN] at h ⊢
  cases hx:x.ev F with
  | none=>simp[hx] at h
  | some a=>rw[cE hle hx,← hx]; exact h
 case un o x =>
  simp only[aN] at h ⊢
  cases hx:x.ev F with
  | none=>simp[hx] at h
  | some a=>rw[cE hle hx,← hx]; exact h
 case conv k x =>
  simp only[aN] at h ⊢
  cases hx:x.ev F with
  | none=>simp[hx] at h
  | some a=>rw[cE hle hx,← hx]; exact h
 case buY x =>
  simp only[aN] at h ⊢
  cases hx:x.ev F with
  | none=>simp[hx] at h
  | some a=>rw[cE hle hx,← hx]; exact h
 case bvV o x =>
  simp only[aN] at h ⊢
  cases hx:x.ev F with
  | none=>simp[hx] at h
  | some a=>rw[cE hle hx,← hx]; exact h
 case field o n x =>
  simp only[aN] at h ⊢
  cases hx:x.ev F with
  | none=>simp[hx] at h
  | some a=>rw[cE hle hx,← hx]; exact h
 case bvR x =>
  simp only[aN] at h ⊢
  cases hx:x.ev F with
  | none=>simp[hx] at h
  | some a=>rw[cE hle hx,← hx]; exact h
 case bwL x =>
  simp only[aN] at h ⊢
  cases hx:x.ev F with
  | none=>simp[hx] at h
  | some a=>rw[cE hle hx,← hx]; exact h
 case extract x i =>
  simp only[aN] at h ⊢
  cases hx:x.ev F with
  | none=>simp[hx] at h
  | some a=>rw[cE hle hx,← hx]; exact h
 case buZ x =>
  simp only[aN] at h ⊢
  cases hx:x.ev F with
  | none=>simp[hx] at h
  | some a=>rw[cE hle hx,← hx]; exact h
 case len x =>
  simp only[aN] at h ⊢
  cases hx:x.ev F with
  | none=>simp[hx] at h
  | some a=>rw[cE hle hx,← hx]; exact h
 case box r x =>
  cases r
  ·cases h
  simp only[aN] at h ⊢
  cases hx:x.ev F with
  | none=>simp[hx] at h
  | some a=>rw[cE hle hx,← hx]; exact h
 case load n p =>
  cases n
  all_goals
   simp only[aN] at h ⊢
   cases hx:p.ev F with
   | none=>simp[hx] at h
   | some a=>rw[cE hle hx,← hx]; exact h
 case bin o x y =>
  simp only[aN] at h ⊢
  cases hx:x.ev F with
  | none=>simp[hx] at h
  | some a =>
   cases hy:y.ev F with
   | none=>simp[hx,hy] at h
   | some b=>rw[cE hle hx,cE hle hy,← hx,← hy]; exact h
 case eqb n x y =>
  simp only[aN] at h ⊢
  cases hx:x.ev F with
  | none=>simp[hx] at h
  | some a =>
   cases hy:y.ev F with
   | none=>simp[hx,hy] at h
   | some b=>rw[cE hle hx,cE hle hy,← hx,← hy]; exact h
 case eqs n k x y =>
  simp only[aN] at h ⊢
  cases hx:x.ev F with
  | none=>simp[hx] at h
  | some a =>
   cases hy:y.ev F with
   | none=>simp[hx,hy] at h
   | some b=>rw[cE hle hx,cE hle hy,← hx,← hy]; exact h
 case bvE s x i =>
  simp only[aN] at h ⊢
  cases hx:x.ev F with
  | none=>simp[hx] at h
  | some a =>
   cases hy:i.ev F with
   | none=>simp[hx,hy] at h
   | some b=>rw[cE hle hx,cE hle hy,← hx,← hy]; exact h
 case idxA n s x i =>
  simp only[aN] at h ⊢
  cases hx:x.ev F with
  | none=>simp[hx] at h
  | some a =>
   cases hy:i.ev F with
   | none=>simp[hx,hy] at h
   | some b=>rw[cE hle hx,cE hle hy,← hx,← hy]; exact h
 case idxV n s g x i =>
  simp only[aN] at h ⊢
  cases hx:x.ev F with
  | none=>simp[hx] at h
  | some a =>
   cases hy:i.ev F with
   | none=>simp[hx,hy] at h
   | some b=>rw[cE hle hx,cE hle hy,← hx,← hy]; exact h
 case bvS x i =>
  simp only[aN] at h ⊢
  cases hx:x.ev F with
  | none=>simp[hx] at h
  | some a =>
   cases hy:i.ev F with
   | none=>simp[hx,hy] at h
   | some b=>rw[cE hle hx,cE hle hy,← hx,← hy]; exact h
 case bvK m x y =>
  simp only[aN] at h ⊢
  cases hx:x.ev F with
  | none=>simp[hx] at h
  | some a =>
   cases hy:y.ev F with
   | none=>simp[hx,hy] at h
   | some b=>rw[cE hle hx,cE hle hy,← hx,← hy]; exact h
 case lookup sh z x k ok =>
  simp only[aN] at h ⊢
  cases hx:x.ev F with
  | none=>simp[hx] at h
  | some a =>
   cases hy:k.ev F with
   | none=>simp[hx,hy] at h
   | some b=>rw[cE hle hx,cE hle hy,← hx,← hy]; exact h
 case build z ps =>
  simp only[aN,bwV] at h ⊢
  obtain⟨cs,h1,h2⟩:=h
  exact⟨cs,atO hle h1,h2⟩
 case buO r s l z ps =>
  cases r
  ·cases h
  simp only[aN] at h ⊢
  split at h
  ·rename_i hc
   rw[if_pos hc]
   rw[bwV] at h ⊢
   obtain⟨cs,h1,h2⟩:=h
   exact⟨cs,yJ hle h1,h2⟩
  ·cases h
 case mkfn n cs =>
  simp only[aN,bwV] at h ⊢
  obtain⟨vs,h1,h2⟩:=h
  exact⟨vs,YU hle h1,h2⟩
 case sliceA n s x lo hi mx =>
  cases lo<;>cases hi<;>cases mx<;>simp only[aN] at h ⊢<;>try cases h
  cases hx:x.ev F with
  | none=>simp[hx] at h
  | some a=>rw[cE hle hx,← hx]; exact h
 case bvM x lo hi =>
  simp only[aN] at h ⊢
  cases hx:x.ev F with
  | none=>simp[hx] at h
  | some a =>
   rw[hx] at h
   rw[cE hle hx]
   cases a<;>simp only at h ⊢<;>try cases h
   cases h1:bnd F 0 lo with
   | none=>simp[h1] at h
   | some l =>
    rename_i s
    cases h2:bnd F s.length hi with
    | none=>simp[h1,h2] at h
    | some u=>rw[IY hle h1,IY hle h2,← h1,← h2]; exact h
 case slice s x lo hi mx =>
  simp only[aN] at h ⊢
  cases hx:x.ev F with
  | none=>simp[hx] at h
  | some a =>
   rw[hx] at h
   rw[cE hle hx]
   have key:∀ (d:Int) (w:PV),(match bnd F 0 lo,bnd F d hi with
     | some a1,some a2=>match (generalizing:=false) mx with
      | none=>PV.slice s w a1 a2 none
      | some m=>(bnd F 0 (some m)).bind fun m=>PV.slice s w a1 a2 (some m)
     | _,_=>none)=some v→(match bnd F' 0 lo,bnd F' d hi with
     | some a1,some a2=>match (generalizing:=false) mx with
      | none=>PV.slice s w a1 a2 none
      | some m=>(bnd F' 0 (some m)).bind fun m=>PV.slice s w a1 a2 (some m)
     | _,_=>none)=some v:=by
    intro d w h
    cases h1:bnd F 0 lo with
    | none=>simp[h1] at h
    | some l =>
     cases h2:bnd F d hi with
     | none=>simp[h1,h2] at h
     | some u =>
      rw[h1,h2] at h
      rw[IY hle h1,IY hle h2]
      cases mx with
      | none=>exact h
      | some m =>
       simp only at h ⊢
       cases h3:bnd F 0 (some m) with
       | none=>simp[h3] at h
       | some q=>rw[IY hle h3,← h3]; exact h
   cases a<;>simp only at h ⊢<;>first | exact key _ _ h | cases h
 all_goals exact h
theorem arS {op:POp} {r:(Nat→PV) × cM} (hle:F.le F') (h:cN op F=some r):cN op F'=some r:=by
 cases op
 case box b x =>
  cases b
  ·simp only[cN] at h ⊢
   cases hx:x.ev F with
   | none=>simp[hx] at h
   | some a=>rw[cE hle hx,← hx]; exact h
  ·cases h
 case buO b s l z ps =>
  cases b
  ·simp only[cN] at h ⊢
   split at h
   ·rename_i hc
    rw[if_pos hc]
    rw[bwV] at h ⊢
    obtain⟨cs,h1,h2⟩:=h
    exact⟨cs,yJ hle h1,h2⟩
   ·cases h
  ·cases h
 case buT s b z l c =>
  simp only[cN] at h ⊢
  cases hx:l.ev F with
  | none=>simp[hx] at h
  | some a =>
   cases hy:c.ev F with
   | none=>simp[hx,hy] at h
   | some b=>rw[cE hle hx,cE hle hy,← hx,← hy]; exact h
 all_goals exact h
theorem aGR {op:POp} {K:PV→PH→Prop} (hle:F.le F') (h:bP op F H K):bP op F' H K:=by
 cases op
 case store n x y =>
  simp only[bP] at h ⊢
  cases hx:x.ev F with
  | none=>simp[hx] at h
  | some a =>
   cases hy:y.ev F with
   | none=>simp[hx,hy] at h
   | some b=>rw[cE hle hx,cE hle hy]; rw[hx,hy] at h; exact h
 case append s b x y =>
  simp only[bP] at h ⊢
  cases hx:x.ev F with
  | none=>simp[hx] at h
  | some a =>
   cases hy:y.ev F with
   | none=>simp[hx,hy] at h
   | some b=>rw[cE hle hx,cE hle hy]; rw[hx,hy] at h; exact h
 case bvH sh x y z =>
  simp only[bP] at h ⊢
  cases hx:x.ev F with
  | none=>simp[hx] at h
  | some a =>
   cases hy:y.ev F with
   | none=>simp[hx,hy] at h
   | some b =>
    cases hz:z.ev F with
    | none=>simp[hx,hy,hz] at h
    | some c=>rw[cE hle hx,cE hle hy,cE hle hz]; rw[hx,hy,hz] at h; exact h
 case insert sh x y z =>
  simp only[bP] at h ⊢
  cases hx:x.ev F with
  | none=>simp[hx] at h
  | some a =>
   cases hy:y.ev F with
   | none=>simp[hx,hy] at h
   | some b =>
    cases hz:z.ev F with
    | none=>simp[hx,hy,hz] at h
    | some c=>rw[cE hle hx,cE hle hy,cE hle hz]; rw[hx,hy,hz] at h; exact h
 all_goals exact h
theorem PF.bgS (hle:F.le F') (i:Nat) (v:PV):(F.set i v).le (F'.set i v):=by
 intro j u h
 rw[mN] at h ⊢
 split at h
 ·rename_i e; rw[if_pos e]; exact h
 ·rename_i e; rw[if_neg e]; exact hle j u h
theorem PF.vS (hle:F.le F') (d:Option Nat) (v:PV):(F.put d v).le (F'.put d v):=by
 cases d with
 | none=>exact hle
 | some d=>exact PF.bgS hle d v
theorem PF.bfB (hle:F.le F') (o s:Nat) (rs:List (List PV)):(F.frz o s rs).le (F'.frz o s rs):=by
 intro j u h
 rw[sE,bwV] at h ⊢
 obtain⟨x,h1,h2⟩:=h
 exact⟨x,hle j x h1,h2⟩
theorem PF.le_trans {A B D:PF} (h:A.le B) (k:B.le D):A.le D:=fun i v hi=>k i v (h i v hi)
theorem iD.up {F1:PF} {H1:PH} (h:iD F H F1 H1):∀ {F':PF},F.le F'→∃ F1',iD F' H F1' H1∧F1.le F1':=by
 induction h with
 | refl F H=>exact fun {F'} hle=>⟨F',.refl _ _,hle⟩
 | step o ho _ ih =>
  intro F' hle
  obtain⟨F1',h1,h2⟩:=ih (PF.bfB hle o _ _)
  exact⟨F1',.step o ho h1,h2⟩
theorem XA {name:Nat} {args:Option (List PV)} {d:Option Nat} {K1 K2:PF→PH→Prop} (hK:∀ F F' H,F.le F'→K1 F H→K2 F' H) (hle:F.le F') {args':Option (List PV)} (ha:∀ vs,args=some vs→args'=some vs) (h:pN C name args d K1 F H):pN C name args' d K2 F' H:=by
 obtain⟨vs,H0,R,h1,h2,h3,h4⟩:=h
 exact⟨vs,H0,R,ha _ h1,h2,h3,fun r H' a b=>hK _ _ _ (PF.vS hle d r) (h4 r H' a b)⟩
theorem ayI {cs:List PV} {args:List aO} (hle:F.le F') (vs:List PV) (h:(aO.evs F args).map (·++cs)=some vs):(aO.evs F' args).map (·++cs)=some vs:=by
 rw[bwV] at h ⊢
 obtain⟨x,h1,h2⟩:=h
 exact⟨x,YU hle h1,h2⟩
theorem aIQ {name:Nat} {args:List aO} {cs:List PV} {d:Option Nat} {K1 K2:PF→PH→Prop} (hK:∀ F F' H,F.le F'→K1 F H→K2 F' H) (hle:F.le F') (h:fQ C name args cs d K1 F H):fQ C name args cs d K2 F' H:=by
 rcases h with h | ⟨F1,H1,h1,h2⟩
 ·exact .inl (XA hK hle (ayI hle) h)
 ·obtain⟨F1',k1,k2⟩:=h1.up hle
  exact .inr ⟨F1',H1,k1,XA hK k2 (ayI k2) h2⟩
theorem KW {op:POp} {d:Option Nat} {K1 K2:PF→PH→Prop} (hK:∀ F F' H,F.le F'→K1 F H→K2 F' H) (hle:F.le F') (h:kK (cN op F) d K1 F H):kK (cN op F') d K2 F' H:=by
 obtain⟨mk,x,h1,h2⟩:=h
 exact⟨mk,x,arS hle h1,fun o ho=>hK _ _ _ (PF.vS hle d _) (h2 o ho)⟩
theorem agH {op:POp} {d:Option Nat} {K1 K2:PF→PH→Prop} (hK:∀ F F' H,F.le F'→K1 F H→K2 F' H) (hle:F.le F') (h:bN (aN op F H) d K1 F H):bN (aN op F' H) d K2 F' H:=by
 obtain⟨v,h1,h2⟩:=h
 exact⟨v,aBB hle h1,hK _ _ _ (PF.vS hle d v) h2⟩
theorem arC {op:POp} {d:Option Nat} {K1 K2:PF→PH→Prop} (hK:∀ F F' H,F.le F'→K1 F H→K2 F' H) (hle:F.le F') (h:bP op F H fun r H'=>K1 (F.put d r) H'):bP op F' H fun r H'=>K2 (F'.put d r) H' :=
 aGR hle (wL (fun v H' hh=>hK _ _ _ (PF.vS hle d v) hh) h)
theorem a8R {op:POp} {d:Option Nat} {K1 K2:PF→PH→Prop} (hK:∀ F F' H,F.le F'→K1 F H→K2 F' H) (hle:F.le F') (h:wpOp C op d K1 F H):wpOp C op d K2 F' H:=by
 cases op
 case call n a=>exact aIQ hK hle h
 case bvU x a =>
  obtain⟨n,cs,h1,h2⟩:=h
  exact⟨n,cs,cE hle h1,aIQ hK hle h2⟩
 case box r x=>cases r<;>first | exact KW (op:=.box false x) hK hle h | exact agH (op:=.box true x) hK hle h
 case buO r s l z ps=>cases r<;>first | exact KW (op:=.buO false s l z ps) hK hle h | exact agH (op:=.buO true s l z ps) hK hle h
 case alloc cs=>exact KW (op:=.alloc cs) hK hle h
 case buT s b z l c=>exact KW (op:=.buT s b z l c) hK hle h
 case bwF sh=>exact KW (op:=.bwF sh) hK hle h
 case store n x y=>exact arC (op:=.store n x y) hK hle h
 case append s b x y=>exact arC (op:=.append s b x y) hK hle h
 case bvH sh x y z=>exact arC (op:=.bvH sh x y z) hK hle h
 case insert sh x y z=>exact arC (op:=.insert sh x y z) hK hle h
 all_goals exact agH hK hle h
theorem LZ {K1 K2:PF→PH→Prop} (hK:∀ F F' H,F.le F'→K1 F H→K2 F' H):∀ {ops:List aZ} {F F':PF} {H:PH},F.le F'→wpOps C ops K1 F H→wpOps C ops K2 F' H
 | [],_,_,_,hle,h=>hK _ _ _ hle h
 | ⟨d,op,none⟩::rest,_,_,_,hle,h=>a8R (fun _ _ _ a b=>LZ hK a b) hle h
 | ⟨d,op,some (t,want)⟩::rest,F,F',H,hle,h=>by
  rw[aIG] at h ⊢
  unfold sF at h
  split at h
  ·rename_i b hb
   rw[hle t _ hb]
   unfold sF
   simp only
   split at h
   ·rename_i e; rw[if_pos e]; exact a8R (fun _ _ _ a b=>LZ hK a b) hle h
   ·rename_i e; rw[if_neg e]; exact LZ hK (PF.vS hle d _) h
  ·rename_i hb
   rw[hle t _ hb]
   exact LZ hK (PF.vS hle d _) h
  ·exact h.elim
theorem aAR {Hs:PH} {S:Spec} {st:Bool} {op:POp} {K:PV→PH→Prop} (hle:F.le F') (h:(op.kind F).run C Hs S st K H):(op.kind F').run C Hs S st K H:=by
 have new:∀ op:POp,(Kind.new (cN op F)).run C Hs S st K H→(Kind.new (cN op F')).run C Hs S st K H:=fun op h=>by
  obtain⟨mk,x,h1,h2⟩:=h
  exact⟨mk,x,arS hle h1,h2⟩
 have calm:∀ op:POp,(Kind.calm (aN op F)).run C Hs S st K H→(Kind.calm (aN op F')).run C Hs S st K H:=fun op h=>by
  obtain⟨v,h1,h2⟩:=h
  exact⟨v,aBB hle h1,h2⟩
 have wr:∀ op:POp,(Kind.write fun H K=>bP op F H K).run C Hs S st K H→(Kind.write fun H K=>bP op F' H K).run C Hs S st K H:=fun op h=>aGR (op:=op) hle (show bP op F H (fun r H'=>Hs.le H'∧K r H') from h)
 cases op
 case call n a =>
  obtain⟨vs,D,R,h1,h2⟩:=h
  exact⟨vs,D,R,YU hle h1,h2⟩
 case bvU x a =>
  unfold POp.kind at h ⊢
  simp only at h ⊢
  cases hx:x.ev F with
  | none=>rw[hx] at h; exact h.elim
  | some u =>
   rw[hx] at h
   rw[cE hle hx]
   cases u<;>simp only at h ⊢<;>first | exact h | skip
   obtain⟨vs,D,R,h1,h2⟩:=h
   exact⟨vs,D,R,ayI hle _ h1,h2⟩
 case insert sh x k v =>
  obtain⟨o,sh',key,u,g,h1,h2⟩:=h
  refine⟨o,sh',key,u,g,?_,h2⟩
  cases hx:x.ev F with
  | none=>simp[hx] at h1
  | some a =>
   cases hy:k.ev F with
   | none=>simp[hx,hy] at h1
   | some b =>
    cases hz:v.ev F with
    | none=>simp[hx,hy,hz] at h1
    | some c=>rw[cE hle hx,cE hle hy,cE hle hz]; rw[hx,hy,hz] at h1; exact h1
 case box r x=>cases r<;>first | exact new (.box false x) h | exact calm (.box true x) h
 case buO r s l z ps=>cases r<;>first | exact new (.buO false s l z ps) h | exact calm (.buO true s l z ps) h
 case alloc cs=>exact new (.alloc cs) h
 case buT s b z l c=>exact new (.buT s b z l c) h
 case bwF sh=>exact new (.bwF sh) h
 case store n x y=>exact wr (.store n x y) h
 case append s b x y=>exact wr (.append s b x y) h
 case bvH sh x y z=>exact wr (.bvH sh x y z) h
 all_goals exact calm _ h
theorem a4Z {Hs:PH} {S:Spec} {st:Bool} {i:aZ} {K:PV→PH→Prop} (hle:F.le F') (h:(i.kind F).run C Hs S st K H):(i.kind F').run C Hs S st K H:=by
 unfold aZ.kind at h ⊢
 split
 ·rename_i hg
  rw[hg] at h
  exact aAR hle h
 ·rename_i t want hg
  rw[hg] at h
  simp only at h
  split at h
  ·rename_i b hb
   rw[hle t _ hb]
   simp only
   split at h
   ·rename_i e; rw[if_pos e]; exact aAR hle h
   ·rename_i e; rw[if_neg e]; exact h
  ·rename_i hb
   rw[hle t _ hb]
   exact h
  ·exact h.elim
theorem a2J {Hs:PH} {S:Spec} {K1 K2:PF→PH→Prop} (hK:∀ F F' H,F.le F'→K1 F H→K2 F' H):∀ {ops:List (aZ × Bool)} {F F':PF} {H:PH},Hs.le H→F.le F'→wpD C Hs S ops K1 F H→wpD C Hs S ops K2 F' H
 | [],_,_,_,_,hle,h=>hK _ _ _ hle h
 | i::rest,F,F',H,hs,hle,h=>by
  have h1:(i.1.kind F).run C Hs S i.2 (fun v H'=>wpD C Hs S rest K1 (F.put i.1.dst v) H') H:=h
  exact a4Z hle (Kind.oP (oM _ _) (fun v H' hs' hh=>a2J hK hs' (PF.vS hle _ v) hh) hs h1)
class Up (K:cI):Prop where
 up:∀ {e:lS} {F F':PF} {H:PH},F.le F'→K e F H→K e F' H
theorem rX:∀ (c:aB) {K1 K2:cI} (_:∀ e F F' H,F.le F'→K1 e F H→K2 e F' H) {F F':PF} {H:PH},F.le F'→c.wp C K1 F H→c.wp C K2 F' H
 | .skip,_,_,hK,_,_,_,hle,h=>hK _ _ _ _ hle h
 | .region ops,_,_,hK,_,_,_,hle,h=>LZ (hK .normal) hle h
 | .draw ops,_,_,hK,_,_,_,hle,⟨Hs,S,h1,h2⟩=>⟨Hs,S,h1,a2J (hK .normal) h1 hle h2⟩
 | .seq a b,K1,K2,hK,_,_,_,hle,h=>rX a (K1:=gW C (b.wp C) K1) (K2:=gW C (b.wp C) K2) (fun e F F' H hl hh=>by
   cases e with
   | normal=>exact rX b hK hl hh
   | exit id=>exact hK (.exit id) _ _ _ hl hh
   | ret=>exact hK .ret _ _ _ hl hh) hle h
 | .cond c a b,K1,K2,hK,F,F',H,hle,h=>by
  rw[a8C] at h ⊢
  unfold PA at h
  split at h
  ·rename_i t ht
   rw[cE hle ht]
   unfold PA
   simp only
   split at h
   ·rename_i e; rw[if_pos e]; exact rX a hK hle h
   ·rename_i e; rw[if_neg e]; exact rX b hK hle h
  ·exact h.elim
 | .block id c,K1,K2,hK,_,_,_,hle,h=>rX c (K1:=dR id K1) (K2:=dR id K2) (fun e F F' H hl hh=>by
   cases e with
   | normal=>exact hK .normal _ _ _ hl hh
   | exit j =>
    rw[QE] at hh ⊢
    split at hh
    ·rename_i e; rw[if_pos e]; exact hK .normal _ _ _ hl hh
    ·rename_i e; rw[if_neg e]; exact hK (.exit j) _ _ _ hl hh
   | ret=>exact hK .ret _ _ _ hl hh) hle h
 | .loop c,K1,K2,hK,F,F',H,hle,⟨α,Fs,Hs,Pr,m,a0,F1,H1,h1,h2,h3,h4,h5⟩=>by
  obtain⟨F1',k1,k2⟩:=h1.up hle
  refine⟨α,Fs,Hs,Pr,m,a0,F1',H1,k1,h2,PF.le_trans h3 k2,h4,fun a ha=>?_⟩
  refine rX c (K1:=eA Fs Hs Pr m (m a) K1) (K2:=eA Fs Hs Pr m (m a) K2) (fun e F F' H hl hh=>?_) PF.le_refl (h5 a ha)
  cases e with
  | normal =>
   obtain⟨b,F2,H2,z1,z2,z3,z4,z5⟩:=hh
   obtain⟨F2',y1,y2⟩:=z1.up hl
   exact⟨b,F2',H2,y1,z2,z3,PF.le_trans z4 y2,z5⟩
  | exit id=>exact hK (.exit id) _ _ _ hl hh
  | ret=>exact hK .ret _ _ _ hl hh
 | .exit id,_,_,hK,_,_,_,hle,h=>hK (.exit id) _ _ _ hle h
 | .ret,_,_,hK,_,_,_,hle,h=>hK .ret _ _ _ hle h
instance Up.seq {K:cI} [Up K] (b:aB):Up (gW C (b.wp C) K) where
 up {e} {F} {F'} {H} hl hh:=by
  cases e with
  | normal=>exact rX b (fun e F F' H a h=>Up.up a h) hl hh
  | exit id=>exact Up.up (K:=K) (e:=.exit id) hl hh
  | ret=>exact Up.up (K:=K) (e:=.ret) hl hh
instance Up.block {K:cI} [Up K] (id:Nat):Up (dR id K) where
 up {e} {F} {F'} {H} hl hh:=by
  cases e with
  | normal=>exact Up.up (K:=K) (e:=.normal) hl hh
  | exit j =>
   rw[QE] at hh ⊢
   split at hh
   ·rename_i e; rw[if_pos e]; exact Up.up (K:=K) (e:=.normal) hl hh
   ·rename_i e; rw[if_neg e]; exact Up.up (K:=K) (e:=.exit j) hl hh
  | ret=>exact Up.up (K:=K) (e:=.ret) hl hh
instance Up.loop {K:cI} [Up K] {α:Type} (Fs:α→PF) (Hs:α→PH) (Pr:α→Prop) (m:α→Nat) (n:Nat):Up (eA Fs Hs Pr m n K) where
 up {e} {F} {F'} {H} hl hh:=by
  cases e with
  | normal =>
   obtain⟨b,F2,H2,z1,z2,z3,z4,z5⟩:=hh
   obtain⟨F2',y1,y2⟩:=z1.up hl
   exact⟨b,F2',H2,y1,z2,z3,PF.le_trans z4 y2,z5⟩
  | exit id=>exact Up.up (K:=K) (e:=.exit id) hl hh
  | ret=>exact Up.up (K:=K) (e:=.ret) hl hh
theorem bgK {H:PH} (hle:F.le F') {x:dQ} {v:PV} (h:x.ev F H=some v):x.ev F' H=some v:=by
 cases x with
 | tmp t=>exact hle t v h
 | cell t n =>
  cases n<;>simp only[dQ.ev] at h ⊢<;>(cases hx:F t with
   | none=>simp[hx] at h
   | some a=>rw[hle t a hx,← hx]; exact h)
theorem aiC {H:PH} (hle:F.le F'):∀ {xs:List dQ} {vs:List PV},dQ.evs F H xs=some vs→dQ.evs F' H xs=some vs
 | [],_,h=>h
 | x::xs,vs,h=>by
  rw[kF] at h ⊢
  cases hx:x.ev F H with
  | none=>simp[hx] at h
  | some v =>
   cases hs:dQ.evs F H xs with
   | none=>simp[hs] at h
   | some ws =>
    rw[hx,hs] at h
    rw[bgK hle hx,aiC hle hs]
    exact h
instance Up.ret (res:List dQ) (R:PV→PH→Prop):Up (aS res R) where
 up {e} {F} {F'} {H} hl hh:=by
  cases e with
  | exit id=>exact hh
  | normal=>obtain⟨vs,h1,h2⟩:=hh; exact⟨vs,aiC hl h1,h2⟩
  | ret=>obtain⟨vs,h1,h2⟩:=hh; exact⟨vs,aiC hl h1,h2⟩
end
def CH (f:aL) (row:List Int):Int:=match fI (jH f) row 0 with
 | some i=>i
 | none=>-1
theorem bcS {C:Ctx} (f:aL) (row:List Int) (hl:row.length≤16777216):MU.wp C (aS aCR.res (aC (.int .i64 (CH f row)))) (PF.args [.agg f.cells,ints row]) .nil:=by
 unfold CH
 simp only[go_sem,ο,MU,aOQ,aOR,aCR]
 refine wp_loop (α:=Nat) (fun k=>(((PF.nil.set 1 (ints row)).set 2 (.buR f.cells)).set 5 (.int .i64 k))) (fun _=>.nil) (fun k=>k≤row.length∧fI (jH f) row 0=fI (jH f) (row.drop k) k) (fun k=>row.length-k) 0 ⟨bwZ _,rfl⟩ Lq PH.nil_le ?_
 rintro k ⟨hk,ha⟩
 simp only[go_sem,ο,γ,aOP,aOS,bwN]
 by_cases hlt:k<row.length
 ·have buP:(k:Int)<(row.length:Nat):=by omega
  have hat:(row.map fun x=>[PV.int .i64 x])[k]?=some [.int .i64 row[k]]:=by simp[hlt]
  rw[byG hlt,fI] at ha
  generalize row[k]=x at *
  simp only[go_sem,ο,buP]
  refine bM .nil dV PH.nil_le ?_
  by_cases c1:x < -1
  ·rw[show jH f x=true from by unfold jH; rw[decide_eq_true c1]; rfl,if_pos rfl] at ha
   simp only[go_sem,ο,γ,PU,hat,c1,aiF]
   refine aI (.inr rfl) rfl ?_
   rw[aT,ha]
  ·by_cases c2:x≥(f.buH.length:Nat)
   ·rw[show jH f x=true from by unfold jH; rw[decide_eq_true c2,Bool.or_true],if_pos rfl] at ha
    simp only[go_sem,ο,δ,γ,θ,reduceCtorEq,PU,hat,c1,bwN,c2,aiF]
    refine aI (.inr rfl) rfl ?_
    rw[aT,ha]
   ·rw[show jH f x=false from by unfold jH; rw[decide_eq_false c1,decide_eq_false c2]; rfl,if_neg (by decide)] at ha
    simp only[go_sem,ο,δ,γ,θ,reduceCtorEq,PU,hat,c1,bwN,c2,aOT,wZz k]
    exact aJ (k+1) ⟨hlt,ha⟩ Om Lq PH.le_refl
 ·have buP:¬ (k:Int)<(row.length:Nat):=by omega
  have:k=row.length:=by omega
  subst this
  rw[List.drop_length,fI] at ha
  simp only[go_sem,ο,buP,aOU]
  refine aI (.inr rfl) rfl ?_
  rw[aT,ha]
theorem bbP {r e:Int} (h:0≤e):max 0 (min r e)=min (max r 0) e:=by omega
theorem aVW (f:aL) (room:List Int) {k:Nat} (h:k<f.buH.length):(fB f room).take (k+1)=(fB f room).take k++[qH f room k]:=by
 have hk:k<(fB f room).length:=by rw[MP]; exact h
 rw[byH hk,aCK]
theorem axB {xs:List Int} {k:Nat} {d:Int} (h:k<xs.length):(xs.take (k+1)).contains d=((xs.take k).contains d||decide (xs[k]=d)):=by
 rw[Bool.eq_iff_iff]
 rw[List.contains_iff_mem,byH h,byA,byJ,Bool.or_eq_true,List.contains_iff_mem,decide_eq_true_eq]
 exact⟨fun h=>h.imp id Eq.symm,fun h=>h.imp id Eq.symm⟩
theorem aNW {C:Ctx} (l:List Int) (hl:l.length≤1000000000000000) (x:Int):MN.wp C (aS MM.res (aC (.bool (l.contains x)))) (PF.args [ints l,.int .i64 x]) .nil:=by
 simp only[go_sem,γ,δ,ε,ζ,η,θ,ι,κ,μ,ν,ξ,ο,ρ,σ,τ,υ,reduceIte,reduceCtorEq,MN,aNX,aNY,MM]
 refine wp_loop (α:=Nat) (fun k=>(((PF.nil.set 0 (ints l)).set 1 (.int .i64 x)).set 5 (.int .i64 k))) (fun _=>.nil) (fun k=>k≤l.length∧(l.take k).contains x=false) (fun k=>l.length-k) 0 ⟨bwZ _,by simp⟩ Lq PH.nil_le ?_
 rintro k ⟨hk,hn⟩
 simp only[go_sem,γ,δ,ε,ζ,η,θ,ι,κ,μ,ν,ξ,ο,ρ,σ,τ,υ,reduceIte,reduceCtorEq,aNV,aNZ,bwN]
 by_cases hlt:k<l.length
 ·have buP:(k:Int)<(l.length:Nat):=by omega
  have hat:(l.map fun n=>[PV.int .i64 n])[k]?=some [.int .i64 l[k]]:=by simp[hlt]
  have hs:=axB (d:=x) hlt
  by_cases c:l[k]=x
  ·simp only[go_sem,γ,δ,ε,ζ,η,θ,ι,κ,μ,ν,ξ,ο,ρ,σ,τ,υ,reduceIte,reduceCtorEq,buP,aiE,hat,bX c,aOA]
   refine aI (.inr rfl) rfl ?_
   rw[aT]
   exact congrArg PV.bool (List.contains_iff_mem.2 (c ▸ bwS hlt)).symm
  ·simp only[go_sem,γ,δ,ε,ζ,η,θ,ι,κ,μ,ν,ξ,ο,ρ,σ,τ,υ,reduceIte,reduceCtorEq,buP,aiE,hat,bD c,aOB,wZz k]
   exact aJ (k+1) ⟨hlt,by rw[hs,hn]; simp[c]⟩ Om Lq PH.le_refl
 ·have buP:¬ (k:Int)<(l.length:Nat):=by omega
  have:k=l.length:=by omega
  subst this
  rw[bxM] at hn
  simp only[go_sem,γ,δ,ε,ζ,η,θ,ι,κ,μ,ν,ξ,ο,ρ,σ,τ,υ,reduceIte,reduceCtorEq,buP,aOC]
  refine aI (.inr rfl) rfl ?_
  rw[aT,hn]
def KN (l:List Int) (x:Int):Int:=match l.findIdx? (fun y=>decide (y=x)) with
 | some i=>(i:Int)
 | none=>-1
theorem bbA {l:List Int} {x:Int} {k:Nat} (h:k<l.length) (h1:l[k]=x) (h2:(l.take k).contains x=false):KN l x=k:=by
 unfold KN
 have:l.findIdx? (fun y=>decide (y=x))=some k:=by
  rw[List.findIdx?_eq_some_iff_getElem]
  refine⟨h,by simp[h1],fun j hj=>?_⟩
  intro hx
  rw[decide_eq_true_eq] at hx
  have:x∈l.take k:=by
   rw[← hx]
   exact List.mem_take_iff_getElem.2 ⟨j,by omega,rfl⟩
  rw[List.contains_iff_mem.2 this] at h2
  cases h2
 rw[this]
theorem akZ {l:List Int} {x:Int} (h:l.contains x=false):KN l x=-1:=by
 unfold KN
 have:l.findIdx? (fun y=>decide (y=x))=none:=by
  rw[List.findIdx?_eq_none_iff]
  intro y hy
  rw[decide_eq_false_iff_not]
  intro e
  subst e
  rw[List.contains_iff_mem.2 hy] at h
  cases h
 rw[this]
theorem bbB (l:List Int) (x:Int):decide (KN l x≥0)=l.contains x:=by
 cases hc:l.contains x with
 | false=>rw[akZ hc]; rfl
 | true =>
  unfold KN
  cases hf:l.findIdx? (fun y=>decide (y=x)) with
  | some i=>exact decide_eq_true (Om:(i:Int)≥0)
  | none =>
   rw[List.findIdx?_eq_none_iff] at hf
   have:=hf x (List.contains_iff_mem.1 hc)
   simp at this
theorem a0H {C:Ctx} (l:List Int) (hl:l.length≤1000000000000000) (x:Int):zH.wp C (aS MG.res (aC (.int .i64 (KN l x)))) (PF.args [ints l,.int .i64 x]) .nil:=by
 simp only[go_sem,γ,δ,ε,ζ,η,θ,ι,κ,μ,ν,ξ,ο,ρ,σ,τ,υ,reduceIte,reduceCtorEq,zH,amS,amT,MG,bwN]
 refine wp_loop (α:=Nat) (fun k=>((((PF.nil.set 0 (ints l)).set 1 (.int .i64 x)).set 7 (.int .i64 (l.length:Nat))).set 8 (.int .i64 k))) (fun _=>.nil) (fun k=>k≤l.length∧(l.take k).contains x=false) (fun k=>l.length-k) 0 ⟨bwZ _,by simp⟩ Lq PH.nil_le ?_
 rintro k ⟨hk,hn⟩
 simp only[go_sem,γ,δ,ε,ζ,η,θ,ι,κ,μ,ν,ξ,ο,ρ,σ,τ,υ,reduceIte,reduceCtorEq,amR,amU]
 by_cases hlt:k<l.length
 ·have buP:(k:Int)<(l.length:Nat):=by omega
  have hat:(l.map fun n=>[PV.int .i64 n])[k]?=some [.int .i64 l[k]]:=by simp[hlt]
  have hs:=axB (d:=x) hlt
  by_cases c:l[k]=x
  ·simp only[go_sem,γ,δ,ε,ζ,η,θ,ι,κ,μ,ν,ξ,ο,ρ,σ,τ,υ,reduceIte,reduceCtorEq,buP,MH,MI,hat,bX c.symm,amV]
   refine aI (.inr rfl) Ev ?_
   rw[aT,bbA hlt c hn]
  ·simp only[go_sem,γ,δ,ε,ζ,η,θ,ι,κ,μ,ν,ξ,ο,ρ,σ,τ,υ,reduceIte,reduceCtorEq,buP,MH,MI,hat,bD (fun h:x=l[k]=>c h.symm),amW,wZz k]
   exact aJ (k+1) ⟨hlt,by rw[hs,hn]; simp[c]⟩ Om Lq PH.le_refl
 ·have buP:¬ (k:Int)<(l.length:Nat):=by omega
  have:k=l.length:=by omega
  subst this
  rw[bxM] at hn
  simp only[go_sem,γ,δ,ε,ζ,η,θ,ι,κ,μ,ν,ξ,ο,ρ,σ,τ,υ,reduceIte,reduceCtorEq,buP,amX]
  refine aI (.inr rfl) Ev ?_
  rw[aT,akZ hn]
theorem aAZ {C:Ctx} (l:List Int) (x:Int) (h:aE C 261 [ints l,.int .i64 x] .nil (aC (.int .i64 (KN l x)))):rD.wp C (aS sM.res (aC (.bool (l.contains x)))) (PF.args [ints l,.int .i64 x]) .nil:=by
 simp only[go_sem,γ,δ,ε,ζ,η,θ,ι,κ,μ,ν,ξ,ο,ρ,σ,τ,υ,reduceIte,reduceCtorEq,rD,MB,MC,sM]
 refine aA h Ev ?_
 simp only[go_sem,γ,δ,ε,ζ,η,θ,ι,κ,μ,ν,ξ,ο,ρ,σ,τ,υ,reduceIte,reduceCtorEq]
 refine aI (.inr rfl) Ev ?_
 rw[aT,bbB]
structure bhW (C:Ctx):Prop where
 has:∀ (l:List Int) (x:Int),l.length≤1000000000000000→aE C 260 [ints l,.int .i64 x] .nil (aC (.bool (l.contains x)))
theorem a6A {C:Ctx} (Lb:bhW C) (f:aL) (hV:VF f) (now:List (List Int)) (hl:jU now) (hlen:now.length=f.buK.length) (r:Int) (h0:0≤r) (h4:r≤4) (down:List Int) (hd:down.length≤1000000000000000) :
  FQ.wp C (aS abL.res (aC (.bool (DU f now r down)))) (PF.args [.agg f.cells,lay now,.int .i64 r,ints down]) .nil:=by
 have buW:=hl.rows
 simp only[go_sem,γ,δ,ε,ζ,η,θ,ι,κ,μ,ν,ξ,ο,ρ,σ,τ,υ,reduceIte,reduceCtorEq,FQ,aBC,aBD,abL,bwN]
 refine wp_loop (α:=Nat) (fun v=>((((((PF.nil.set 2 (.int .i64 r)).set 3 (ints down)).set 4 (.buR f.cells)).set 15 (lay now)).set 16 (.int .i64 (now.length:Nat))).set 17 (.int .i64 v))) (fun _=>.nil) (fun v=>v≤now.length∧wU f now r down v=true) (fun v=>now.length-v) 0 ⟨bwZ _,rfl⟩ (by (repeat' (first|exact PF.nil_le|refine PF.aH ?_ ?_))<;>first|(simp only[go_sem,γ,δ,ε,ζ,η,θ,ι,κ,μ,ν,ξ,ο,ρ,σ,τ,υ,reduceIte,reduceCtorEq,bwN]<;>rfl)|rfl) PH.nil_le ?_
 rintro v ⟨hv,hok⟩
 simp only[go_sem,γ,δ,ε,ζ,η,θ,ι,κ,μ,ν,ξ,ο,ρ,σ,τ,υ,reduceIte,reduceCtorEq,amM,aBE]
 by_cases hlt:v<now.length
 ·have buP:(v:Int)<(now.length:Nat):=by omega
  have hat:(now.map fun r=>[ints r])[v]?=some [ints now[v]]:=by simp[hlt]
  have hgd:now.getD v []=now[v]:=by simp[bxI,hlt]
  have hrl:(now[v]).length≤16777216:=by
   have h1:=hl.all
   have h2:(now[v]).length≤now.flatten.length:=(List.sublist_flatten_of_mem (bwS hlt)).length_le
   omega
  obtain⟨hp,he⟩:=rE hV (Om:v<f.buK.length)
  have hpol:=hV.buX _ (bwS hp)
  rw[he] at hpol
  have hw:IntKind.i64.wrap ((eY f v).k+r)=(eY f v).k+r:=wrap_i64 Om Om
  have bvF:=YX f now r down v
  rw[hok,bwY,hgd] at bvF
  have hno:=fun (h:vX f r down v now[v]=true)=>atQ (f:=f) (now:=now) (reserve:=r) (down:=down) hlt (by rw[hgd]; exact h)
  generalize now[v]=row at *
  simp only[go_sem,γ,δ,ε,ζ,η,θ,ι,κ,μ,ν,ξ,ο,ρ,σ,τ,υ,reduceIte,reduceCtorEq,buP,aBF,hat,aBG,aBH,bwN]
  refine wp_loop (α:=Nat) (fun k=>((((((((((((PF.nil.set 2 (.int .i64 r)).set 3 (ints down)).set 4 (.buR f.cells)).set 15 (lay now)).set 16 (.int .i64 (now.length:Nat))).set 17 (.int .i64 v)).set 9 (.int .i64 v)).set 11 (.bool (sX down (row.take k)))).set 12 (.int .i64 (gT down (row.take k):Nat))).set 22 (ints row)).set 23 (.int .i64 (row.length:Nat))).set 24 (.int .i64 k))) (fun _=>.nil) (fun k=>k≤row.length) (fun k=>row.length-k) 0 (bwZ _) (by (repeat' (first|exact PF.nil_le|refine PF.aH ?_ ?_))<;>first|(simp only[go_sem,γ,δ,ε,ζ,η,θ,ι,κ,μ,ν,ξ,ο,ρ,σ,τ,υ,reduceIte,reduceCtorEq,List.take_zero,bwN,sX,gT,List.any_nil,List.countP_nil]<;>rfl)|rfl) PH.nil_le ?_
  intro k hk
  have hol:gT down (row.take k)≤row.length:=Nat.le_trans List.countP_le_length (by rw[bxE]; omega)
  simp only[go_sem,γ,δ,ε,ζ,η,θ,ι,κ,μ,ν,ξ,ο,ρ,σ,τ,υ,reduceIte,reduceCtorEq,amL,aBI]
  by_cases hkl:k<row.length
  ·have hkl':(k:Int)<(row.length:Nat):=by omega
   have hra:(row.map fun n=>[PV.int .i64 n])[k]?=some [.int .i64 row[k]]:=by simp[hkl]
   have hs1:=akY (down:=down) hkl
   have hs2:=RX (down:=down) hkl
   by_cases c:row[k]<0
   ·have d1:lW down row[k]=false:=by unfold lW; rw[decide_eq_false Om]; rfl
    have d2:lY down row[k]=false:=by unfold lY; rw[decide_eq_false Om]; rfl
    rw[d1,Bool.or_false] at hs1
    rw[d2,if_neg (by simp),byB] at hs2
    simp only[go_sem,γ,δ,ε,ζ,η,θ,ι,κ,μ,ν,ξ,ο,ρ,σ,τ,υ,reduceIte,reduceCtorEq,hkl',VJ,hra,VK,c,xI,wZz k]
    exact aJ (k+1) hkl Om (by (repeat' (first|exact PF.nil_le|refine PF.aH ?_ ?_))<;>first|(simp only[go_sem,γ,δ,ε,ζ,η,θ,ι,κ,μ,ν,ξ,ο,ρ,σ,τ,υ,reduceIte,reduceCtorEq,hs1,hs2]<;>rfl)|rfl) PH.le_refl
   ·simp only[go_sem,γ,δ,ε,ζ,η,θ,ι,κ,μ,ν,ξ,ο,ρ,σ,τ,υ,reduceIte,reduceCtorEq,hkl',VJ,hra,VK,c,aBJ]
    refine aA (Lb.has down row[k] hd) Ev ?_
    cases hc:down.contains row[k] with
    | true =>
     have d1:lW down row[k]=true:=by unfold lW; rw[decide_eq_true Om,hc]; rfl
     have d2:lY down row[k]=false:=by unfold lY; rw[hc]; simp
     rw[d1,Bool.or_true] at hs1
     rw[d2,if_neg (by simp),byB] at hs2
     simp only[go_sem,γ,δ,ε,ζ,η,θ,ι,κ,μ,ν,ξ,ο,ρ,σ,τ,υ,reduceIte,reduceCtorEq,amN,xI,wZz k]
     exact aJ (k+1) hkl Om (by (repeat' (first|exact PF.nil_le|refine PF.aH ?_ ?_))<;>first|(simp only[go_sem,γ,δ,ε,ζ,η,θ,ι,κ,μ,ν,ξ,ο,ρ,σ,τ,υ,reduceIte,reduceCtorEq,hs1,hs2]<;>rfl)|rfl) PH.le_refl
    | false =>
     have d1:lW down row[k]=false:=by unfold lW; rw[hc]; simp
     have d2:lY down row[k]=true:=by unfold lY; rw[decide_eq_true Om,hc]; rfl
     rw[d1,Bool.or_false] at hs1
     rw[d2,if_pos rfl] at hs2
     simp only[go_sem,γ,δ,ε,ζ,η,θ,ι,κ,μ,ν,ξ,ο,ρ,σ,τ,υ,reduceIte,reduceCtorEq,amO,cY (Om:gT down (row.take k)<9223372036854775807),xI,wZz k]
     exact aJ (k+1) hkl Om (by (repeat' (first|exact PF.nil_le|refine PF.aH ?_ ?_))<;>first|(simp only[go_sem,γ,δ,ε,ζ,η,θ,ι,κ,μ,ν,ξ,ο,ρ,σ,τ,υ,reduceIte,reduceCtorEq,hs1,hs2]<;>rfl)|rfl) PH.le_refl
  ·have hkl':¬ (k:Int)<(row.length:Nat):=by omega
   have:k=row.length:=by omega
   subst this
   rw[bxM] at hol
   simp only[go_sem,γ,δ,ε,ζ,η,θ,ι,κ,μ,ν,ξ,ο,ρ,σ,τ,υ,reduceIte,reduceCtorEq,hkl',bxM]
   refine bM .nil dV PH.nil_le ?_
   have hsh:vX f r down v row=(sX down row&&decide (((gT down row:Nat):Int)<(eY f v).k+r)):=rfl
   cases hh:sX down row with
   | false =>
    rw[hh,bwT] at hsh
    rw[hsh] at bvF
    simp only[go_sem,γ,δ,ε,ζ,η,θ,ι,κ,μ,ν,ξ,ο,ρ,σ,τ,υ,reduceIte,reduceCtorEq,MD,hh,MF,wZz v]
    exact aJ (v+1) ⟨hlt,bvF⟩ Om Lq PH.nil_le
   | true =>
    rw[hh,bwY] at hsh
    simp only[go_sem,γ,δ,ε,ζ,η,θ,ι,κ,μ,ν,ξ,ο,ρ,σ,τ,υ,reduceIte,reduceCtorEq,MD,hh,tY (Om:v<f.buK.length),hV.abM (Om:v<f.buK.length),nZ hp,he,hw]
    by_cases c:((gT down row:Nat):Int)<(eY f v).k+r
    ·rw[decide_eq_true c] at hsh
     simp only[go_sem,γ,δ,ε,ζ,η,θ,ι,κ,μ,ν,ξ,ο,ρ,σ,τ,υ,reduceIte,reduceCtorEq,c,amP]
     refine aI (.inr rfl) Ev ?_
     rw[aT]
     exact congrArg PV.bool (hno hsh).symm
    ·rw[decide_eq_false c] at hsh
     rw[hsh] at bvF
     simp only[go_sem,γ,δ,ε,ζ,η,θ,ι,κ,μ,ν,ξ,ο,ρ,σ,τ,υ,reduceIte,reduceCtorEq,c,MF,wZz v]
     exact aJ (v+1) ⟨hlt,bvF⟩ Om Lq PH.nil_le
 ·have buP:¬ (v:Int)<(now.length:Nat):=by omega
  have:v=now.length:=by omega
  subst this
  simp only[go_sem,γ,δ,ε,ζ,η,θ,ι,κ,μ,ν,ξ,ο,ρ,σ,τ,υ,reduceIte,reduceCtorEq,buP,amQ]
  refine aI (.inr rfl) Ev ?_
  rw[aT]
  exact congrArg PV.bool hok.symm
def apY:Rg:=[iA 1 (.box true (Tm 0)),iT 2 false]
def apZ:Rg:=[iO 6 3 1,iK 7 52 6,iM 5 7,iE 8 5 0,iE 9 5 1,iA 3 (.alloc [(.bool false),.buJ,.buJ]),iS 3 3 8,iM 4 9]
def xY:Rg:=[iM 10 4,iC 11 .eql 10 0,iM 12 11,gF 13 0 3 12 true,gL 14 13 12 true,iG 15 (.un .not (Tm 14)) 12 true,iP 16 12 15,iM 17 16,gF 18 1 3 17 true,gL 19 18 17 true,gN 20 19 17 true,gC 21 .leq 20 1 17 true,iP 22 17 21,iM 23 22,gF 24 2 3 23 true,gL 25 24 23 true,gN 26 25 23 true,gC 27 .leq 26 1 23 true,iP 28 23 27,iM 2 28]
def AM:aB:=(sq apY (sq apZ (sq xY .ret)))
def a2S:List Nat:=[1]
def OQ:aW:=⟨1,29,AM,[.tmp 2]⟩
def aeU:Rg:=[iT 4 false]
def aeV:Rg:=[iM 6 0,iN 7 6,iM 8 1,iB 9 .neq 7 8]
def aeW:Rg:=[iT 4 false]
def aeX:Rg:=[iI 5 0]
def aeY:Rg:=[iM 10 5,iM 11 1,iB 12 .lss 10 11]
def aeZ:Rg:=[iM 15 0,iM 16 5,iX 17 3 15 16,iO 18 3 17,iK 19 74 18,iA 20 (.un .not (Tm 19))]
def afA:Rg:=[iT 4 false]
def afB:Rg:=[iM 13 5,iC 14 .add 13 1,iM 5 14]
def aeT:aB:=(.seq (sq aeY (.cond (Tm 12) .skip (.exit 0))) (.seq (.block 1 (sq aeZ (.cond (Tm 20) (sq afA .ret) .skip))) (.region afB)))
def afC:Rg:=[iT 4 true]
def wO:aB:=(sq aeU (.seq (sq aeV (.cond (Tm 9) (sq aeW .ret) .skip)) (.seq (sq aeX (.block 0 (.loop aeT))) (sq afC .ret))))
def aXG:List Nat:=[]
def CC:aW:=⟨2,21,wO,[.tmp 4]⟩
def aRU:Rg:=[iA 1 (.box true (Tm 0)),iT 2 false]
def aRV:Rg:=[iF 12 1 1,iL 13 12,iN 14 13,iM 3 14]
def aRW:Rg:=[iM 15 3,iC 16 .lss 15 1,iM 17 16,gM 18 3 17 false,gC 19 .gtr 18 4 17 false,iQ 20 17 19,iM 21 20,gF 22 1 1 21 false,gL 23 22 21 false,gM 24 3 21 false,gK2 25 75 23 24 21 false,iG 26 (.un .not (Tm 25)) 21 false,iQ 27 21 26,iM 28 27,gF 29 3 1 28 false,gL 30 29 28 false,gM 31 3 28 false,gK2 32 75 30 31 28 false,iG 33 (.un .not (Tm 32)) 28 false,iQ 34 28 33,iM 35 34,gF 36 2 1 35 false,gL 37 36 35 false,gN 38 37 35 false,gM 39 3 35 false,gB 40 .neq 38 39 35 false,iQ 41 35 40]
def uS:Rg:=[iT 2 false]
def aRX:Rg:=[iI 4 0]
def aRY:Rg:=[iM 42 4,iM 43 3,iB 44 .lss 42 43]
def aRZ:Rg:=[iF 47 2 1,iL 48 47,iM 49 4,iX 50 1 48 49,iL 51 50,iM 52 3,iK2 53 75 51 52,iA 54 (.un .not (Tm 53)),iM 55 54,gF 56 2 1 55 false,gL 57 56 55 false,gM 58 4 55 false,iG 59 (.bvE 1 (Tm 57) (Tm 58)) 55 false,gL 60 59 55 false,gM 61 4 55 false,iG 62 (.bvE 3 (Tm 60) (Tm 61)) 55 false,gO 63 3 62 55 false,gK 64 54 63 55 false,gC 65 .neq 64 0 55 false,iQ 66 55 65]
def aiV:Rg:=[iT 2 false]
def aSA:Rg:=[iM 45 4,iC 46 .add 45 1,iM 4 46]
def aRT:aB:=(.seq (sq aRY (.cond (Tm 44) .skip (.exit 0))) (.seq (.block 1 (sq aRZ (.cond (Tm 66) (sq aiV .ret) .skip))) (.region aSA)))
def aGV:Rg:=[iF 68 1 1,iL 69 68,iK 70 55 69,iM 67 70,iE 71 67 0,iE 72 67 1,iA 5 (.alloc [(.bool false),.buJ,.buJ]),iS 3 5 71,iM 6 72]
def WE:Rd:=[(iM 73 6,false),(iC 74 .neq 73 0,false),(iM 75 74,false),(gO 76 3 5 75 false,true),(iG 77 (.call 47 [(Ci 1)]) 75 false,true),(gK2 78 53 76 77 75 false,true),(iG 79 (.un .not (Tm 78)) 75 false,false),(iQ 80 75 79,false)]
def WF:Rg:=[iT 2 false]
def aGW:Rg:=[iM 81 3,iA 82 (.buT 1 1 [(.bool false)] (Tm 81) (Tm 81)),iM 7 82]
def aGX:Rg:=[iI 8 0]
def aGY:Rg:=[iM 83 8,iM 84 3,iB 85 .lss 83 84]
def aGZ:Rg:=[iI 9 0]
def aHA:Rg:=[iM 88 9,iM 89 3,iB 90 .lss 88 89]
def WG:Rg:=[iM 93 7,iM 94 9,iM 95 7,iM 96 9,iX 97 1 95 96,iL 98 97,iM 99 98,gF 100 3 1 99 false,gL 101 100 99 false,gM 102 9 99 false,iG 103 (.bvE 3 (Tm 101) (Tm 102)) 99 false,gO 104 3 103 99 false,gK 105 54 104 99 false,gC 106 .gtr 105 0 99 false,iQ 107 99 106,iX 108 1 93 94,iS 1 108 107]
def WH:Rg:=[iI 10 0]
def aHB:Rg:=[iM 109 10,iM 110 3,iB 111 .lss 109 110]
def WI:Rg:=[iM 114 7,iM 115 9,iM 116 7,iM 117 9,iX 118 1 116 117,iL 119 118,iM 120 119,gF 121 2 1 120 false,gL 122 121 120 false,gM 123 9 120 false,iG 124 (.bvE 1 (Tm 122) (Tm 123)) 120 false,gL 125 124 120 false,gM 126 10 120 false,iG 127 (.bvE 3 (Tm 125) (Tm 126)) 120 false,gO 128 3 127 120 false,gK 129 54 128 120 false,gC 130 .gtr 129 0 120 false,gM 131 130 120 false,gM 132 7 131 true,gM 133 10 131 true,iG 134 (.bvE 1 (Tm 132) (Tm 133)) 131 true,gL 135 134 131 true,iG 136 (.pick (Tm 131) (Tm 135) (.const (.bool false))) 120 false,iQ 137 120 136,iX 138 1 114 115,iS 1 138 137]
def HP:Rg:=[iM 112 10,iC 113 .add 112 1,iM 10 113]
def HO:aB:=(.seq (sq aHB (.cond (Tm 111) .skip (.exit 6))) (.seq (.block 7 (.region WI)) (.region HP)))
def WJ:Rg:=[iM 91 9,iC 92 .add 91 1,iM 9 92]
def WB:aB:=(.seq (sq aHA (.cond (Tm 90) .skip (.exit 4))) (.seq (.block 5 (sq WG (sq WH (.block 6 (.loop HO))))) (.region WJ)))
def aHC:Rg:=[iM 86 8,iC 87 .add 86 1,iM 8 87]
def WC:aB:=(.seq (sq aGY (.cond (Tm 85) .skip (.exit 2))) (.seq (.block 3 (sq aGZ (.block 4 (.loop WB)))) (.region aHC)))
def aHD:Rg:=[iI 11 0]
def aHE:Rg:=[iM 139 11,iM 140 3,iB 141 .lss 139 140]
def WK:Rg:=[iM 144 7,iM 145 11,iX 146 1 144 145,iL 147 146,iA 148 (.un .not (Tm 147))]
def aHF:Rg:=[iT 2 false]
def aHG:Rg:=[iM 142 11,iC 143 .add 142 1,iM 11 143]
def WD:aB:=(.seq (sq aHE (.cond (Tm 141) .skip (.exit 8))) (.seq (.block 9 (sq WK (.cond (Tm 148) (sq aHF .ret) .skip))) (.region aHG)))
def WL:Rg:=[iT 2 true]
def ON:aB:=(sq aRU (sq aRV (.seq (sq aRW (.cond (Tm 41) (sq uS .ret) .skip)) (.seq (sq aRX (.block 0 (.loop aRT))) (.seq (sq aGV (dq WE (.cond (Tm 80) (sq WF .ret) .skip))) (sq aGW (.seq (sq aGX (.block 2 (.loop WC))) (.seq (sq aHD (.block 8 (.loop WD))) (sq WL .ret)))))))))
def beE:List Nat:=[1]
def aGU:aW:=⟨1,149,ON,[.tmp 2]⟩
def aSC:Rg:=[iT 4 false]
def aSD:Rg:=[iM 6 0,iM 7 1,iA 8 (.bvK true (Tm 7) (Ci 1)),iK2 9 75 6 8,iA 10 (.un .not (Tm 9))]
def aSE:Rg:=[iT 4 false]
def aSF:Rg:=[iI 5 0]
def aSG:Rg:=[iM 11 5,iM 12 0,iN 13 12,iB 14 .lss 11 13]
def aSH:Rg:=[iM 17 0,iM 18 5,iX 19 3 17 18,iO 20 3 19,iK 21 54 20,iC 22 .eql 21 0]
def aSI:Rg:=[iT 4 false]
def aSJ:Rg:=[iM 15 5,iC 16 .add 15 1,iM 5 16]
def aSB:aB:=(.seq (sq aSG (.cond (Tm 14) .skip (.exit 0))) (.seq (.block 1 (sq aSH (.cond (Tm 22) (sq aSI .ret) .skip))) (.region aSJ)))
def aSK:Rg:=[iT 4 true]
def OO:aB:=(sq aSC (.seq (sq aSD (.cond (Tm 10) (sq aSE .ret) .skip)) (.seq (sq aSF (.block 0 (.loop aSB))) (sq aSK .ret))))
def beG:List Nat:=[]
def aHH:aW:=⟨2,23,OO,[.tmp 4]⟩
def II:Rg:=[iT 6 false]
def IJ:Rg:=[iM 7 0,iM 8 1,iB 9 .geq 7 8,iM 10 9,gM 11 0 10 true,gM 12 2 10 true,gB 13 .leq 11 12 10 true,iP 14 10 13,iM 6 14]
def qQ:aB:=(sq II (sq IJ .ret))
def aXI:List Nat:=[]
def uT:aW:=⟨3,15,qQ,[.tmp 6]⟩
def apW:Rg:=[iT 12 false]
def apX:Rg:=[iM 13 0,iC 14 .leq 13 4,iM 15 14,gM 16 1 15 true,gC 17 .leq 16 4 15 true,iP 18 15 17,iM 19 18,gM 20 2 19 true,gC 21 .leq 20 40 19 true,iP 22 19 21,iM 23 22,gM 24 3 23 true,gC 25 .leq 24 24 23 true,iP 26 23 25,iM 27 26,gM 28 4 27 true,gC 29 .leq 28 4 27 true,iP 30 27 29,iM 31 30,gM 32 5 31 true,gC 33 .leq 32 12 31 true,iP 34 31 33,iM 12 34]
def AL:aB:=(sq apW (sq apX .ret))
def a2Q:List Nat:=[]
def OP:aW:=⟨6,35,AL,[.tmp 12]⟩
def SX:Rg:=[iA 7 (.box true (Tm 3)),iT 8 false]
def SY:Rg:=[iM 10 0,iM 11 1,iK2 12 61 10 11,iA 13 (.un .not (Tm 12)),iM 14 13,gM 15 2 14 false,gM 16 0 14 false,gM 17 0 14 false,gM 18 1 14 false,gB 19 .add 17 18 14 false,iG 20 (.call 76 [(Tm 15),(Tm 16),(Tm 19)]) 14 false,iG 21 (.un .not (Tm 20)) 14 false,iQ 22 14 21,iM 23 22,iG 24 (.idxA 5 1 (Tm 7) (Ci 0)) 23 false,gL 25 24 23 false,gC 26 .neq 25 0 23 false,iQ 27 23 26]
def rY:Rg:=[iT 8 false]
def SZ:Rg:=[iI 9 1]
def TA:Rg:=[iM 28 9,iC 29 .lss 28 5]
def AK:Rg:=[iM 32 9,iA 33 (.idxA 5 1 (Tm 7) (Tm 32)),iL 34 33,iA 35 (.call 76 [(Tm 34),(Ci 0),(Ci 8)]),iA 36 (.un .not (Tm 35))]
def TB:Rg:=[iT 8 false]
def TC:Rg:=[iM 30 9,iC 31 .add 30 1,iM 9 31]
def SW:aB:=(.seq (sq TA (.cond (Tm 29) .skip (.exit 0))) (.seq (.block 1 (sq AK (.cond (Tm 36) (sq TB .ret) .skip))) (.region TC)))
def TD:Rg:=[iT 8 true]
def tB:aB:=(sq SX (.seq (sq SY (.cond (Tm 27) (sq rY .ret) .skip)) (.seq (sq SZ (.block 0 (.loop SW))) (sq TD .ret))))
def aIK:List Nat:=[7]
def wN:aW:=⟨4,37,tB,[.tmp 8]⟩
def aRR:Rg:=[iA 6 (.box true (Tm 2)),iA 7 (.box true (Tm 3)),iT 8 false]
def aRS:Rd:=[(iM 9 1,false),(iM 10 0,false),(iK2 11 66 9 10,true),(iM 12 11,false),(gO 13 3 6 12 true,false),(gK 14 74 13 12 true,true),(iP 15 12 14,false),(iM 16 15,false),(iG 17 (.call 47 [(Ci 1)]) 16 true,true),(gO 18 3 6 16 true,true),(gK2 19 49 17 18 16 true,true),(iG 20 (.un .not (Tm 19)) 16 true,false),(iP 21 16 20,false),(iM 22 21,false),(gO 23 3 7 22 true,false),(gK 24 74 23 22 true,true),(iP 25 22 24,false),(iM 8 25,false)]
def OJ:aB:=(sq aRR (dq aRS .ret))
def beC:List Nat:=[6,7]
def aGS:aW:=⟨4,26,OJ,[.tmp 8]⟩
def apQ:Rg:=[iI 4 0]
def apR:Rg:=[iI 5 0]
def apS:Rg:=[iM 6 5,iM 7 0,iN 8 7,iB 9 .lss 6 8]
def OM:Rg:=[iM 12 0,iM 13 5,iX 14 1 12 13,iL 15 14,iM 16 1,iB 17 .eql 15 16]
def apT:Rg:=[iM 18 5,iM 4 18]
def apU:Rg:=[iM 10 5,iC 11 .add 10 1,iM 5 11]
def apP:aB:=(.seq (sq apS (.cond (Tm 9) .skip (.exit 0))) (.seq (.block 1 (sq OM (.cond (Tm 17) (sq apT .ret) .skip))) (.region apU)))
def apV:Rg:=[iI 4 (-1)]
def AJ:aB:=(sq apQ (.seq (sq apR (.block 0 (.loop apP))) (sq apV .ret)))
def a2N:List Nat:=[]
def OL:aW:=⟨2,19,AJ,[.tmp 4]⟩
def aqA:Rg:=[iA 1 (.box true (Tm 0)),iT 2 false]
def aqB:Rg:=[iF 22 0 1,iL 23 22,iA 24 (.call 76 [(Tm 23),(Ci 1),(Ci 4)]),iA 25 (.un .not (Tm 24)),iM 26 25,gF 27 1 1 26 false,gL 28 27 26 false,gN 29 28 26 false,gF 30 2 1 26 false,gL 31 30 26 false,gN 32 31 26 false,gF 33 3 1 26 false,gL 34 33 26 false,gN 35 34 26 false,gF 36 4 1 26 false,gL 37 36 26 false,gN 38 37 26 false,gF 39 5 1 26 false,gL 40 39 26 false,gN 41 40 26 false,gF 42 6 1 26 false,gL 43 42 26 false,gN 44 43 26 false,iG 45 (.call 73 [(Tm 29),(Tm 32),(Tm 35),(Tm 38),(Tm 41),(Tm 44)]) 26 false,iG 46 (.un .not (Tm 45)) 26 false,iQ 47 26 46,iM 48 47,gF 49 3 1 48 false,gL 50 49 48 false,gN 51 50 48 false,gC 52 .eql 51 0 48 false,iQ 53 48 52]
def xZ:Rg:=[iT 2 false]
def aqC:Rg:=[iZ 3,iZ 4,iZ 5,iZ 6,iZ 7]
def aqD:Rg:=[iT 8 true]
def aqE:Rg:=[iI 9 0]
def aqF:Rg:=[iM 54 9,iF 55 1 1,iL 56 55,iN 57 56,iB 58 .lss 54 57,iM 59 58,gM 60 8 59 true,iP 61 59 60]
def aqG:Rg:=[iM 65 3,iF 66 1 1,iL 67 66,iM 68 9,iX 69 4 67 68,iF 70 0 69,iL 71 70,iK2 72 70 65 71,iM 64 72,iE 73 64 0,iE 74 64 1,iM 3 73,iM 8 74]
def OS:Rg:=[iM 75 8,iM 76 75,gF 77 1 1 76 true,gL 78 77 76 true,gM 79 9 76 true,iG 80 (.bvE 4 (Tm 78) (Tm 79)) 76 true,gO 81 4 80 76 true,gK 82 68 81 76 true,iP 83 76 82,iM 8 83]
def OT:Rg:=[iM 62 9,iC 63 .add 62 1,iM 9 63]
def HQ:aB:=(.seq (sq aqF (.cond (Tm 61) .skip (.exit 0))) (.seq (.block 1 (sq aqG (.region OS))) (.region OT)))
def afD:Rg:=[iI 10 0]
def afE:Rg:=[iM 84 10,iF 85 2 1,iL 86 85,iN 87 86,iB 88 .lss 84 87,iM 89 88,gM 90 8 89 true,iP 91 89 90]
def afF:Rg:=[iF 94 2 1,iL 95 94,iM 96 10,iX 97 4 95 96,iO 98 4 97,iA 11 (.alloc [(.str []),(.int .i64 0),(.int .i64 0),(.int .i64 0)]),iS 4 11 98]
def afG:Rg:=[iM 100 4,iF 101 0 11,iL 102 101,iK2 103 70 100 102,iM 99 103,iE 104 99 0,iE 105 99 1,iM 4 104,iM 8 105]
def HT:Rg:=[iM 106 8,iM 107 106,gF 108 1 11 107 true,gL 109 108 107 true,iG 110 (.call 76 [(Tm 109),(Ci 1),(Ci 16)]) 107 true,iP 111 107 110,iM 112 111,gF 113 2 11 112 true,gL 114 113 112 true,iG 115 (.call 76 [(Tm 114),(Ci 1),(Ci 64)]) 112 true,iP 116 112 115,iM 117 116,gF 118 3 11 117 true,gL 119 118 117 true,gF 120 1 1 117 true,gL 121 120 117 true,gN 122 121 117 true,gC 123 .sub 122 1 117 true,iG 124 (.call 76 [(Tm 119),(Ci 0),(Tm 123)]) 117 true,iP 125 117 124,iM 8 125]
def qN:Rg:=[iM 92 10,iC 93 .add 92 1,iM 10 93]
def HR:aB:=(.seq (sq afE (.cond (Tm 91) .skip (.exit 2))) (.seq (.block 3 (sq afF (sq afG (.region HT)))) (.region qN)))
def afH:Rg:=[iF 126 3 1,iL 127 126,iA 128 (.bvE 7 (Tm 127) (Ci 0)),iO 129 7 128,iA 12 (.alloc [(.str []),(.int .i64 0),(.int .i64 0),(.int .i64 0),(.bool false),.buJ,.buJ]),iS 7 12 129]
def HU:Rg:=[iM 130 8,iM 131 130,gF 132 0 12 131 true,gL 133 132 131 true,iG 134 (.bin .eql (Tm 133) (.const (.str []))) 131 true,iP 135 131 134,iM 136 135,gF 137 1 12 136 true,gL 138 137 136 true,gC 139 .eql 138 0 136 true,iP 140 136 139,iM 141 140,gF 142 2 12 141 true,gL 143 142 141 true,gC 144 .eql 143 (-1) 141 true,iP 145 141 144,iM 146 145,gF 147 3 12 146 true,gL 148 147 146 true,gC 149 .eql 148 0 146 true,iP 150 146 149,iM 151 150,gF 152 4 12 151 true,gO 153 3 152 151 true,gK 154 56 153 151 true,iP 155 151 154,iM 156 155,gF 157 4 12 156 true,gO 158 3 157 156 true,gK 159 54 158 156 true,gC 160 .eql 159 0 156 true,iP 161 156 160,iM 8 161]
def HV:Rg:=[iI 13 1]
def afI:Rg:=[iM 162 13,iF 163 3 1,iL 164 163,iN 165 164,iB 166 .lss 162 165,iM 167 166,gM 168 8 167 true,iP 169 167 168]
def afJ:Rg:=[iF 172 3 1,iL 173 172,iM 174 13,iX 175 7 173 174,iO 176 7 175,iA 14 (.alloc [(.str []),(.int .i64 0),(.int .i64 0),(.int .i64 0),(.bool false),.buJ,.buJ]),iS 7 14 176]
def afK:Rg:=[iM 178 5,iF 179 0 14,iL 180 179,iK2 181 70 178 180,iM 177 181,iE 182 177 0,iE 183 177 1,iM 5 182,iM 8 183]
def HW:Rd:=[(iM 184 8,false),(iM 185 184,false),(gF 186 1 14 185 true,false),(gL 187 186 185 true,false),(iG 188 (.call 76 [(Tm 187),(Ci 1),(Ci 4)]) 185 true,true),(iP 189 185 188,false),(iM 190 189,false),(gF 191 2 14 190 true,false),(gL 192 191 190 true,false),(gM 193 13 190 true,false),(gC 194 .sub 193 1 190 true,false),(iG 195 (.call 76 [(Tm 192),(Ci 0),(Tm 194)]) 190 true,true),(iP 196 190 195,false),(iM 197 196,false),(gF 198 3 1 197 true,false),(gL 199 198 197 true,false),(gF 200 2 14 197 true,false),(gL 201 200 197 true,false),(iG 202 (.bvE 7 (Tm 199) (Tm 201)) 197 true,false),(gF 203 1 202 197 true,false),(gL 204 203 197 true,false),(gF 205 1 14 197 true,false),(gL 206 205 197 true,false),(gC 207 .sub 206 1 197 true,false),(gB 208 .eql 204 207 197 true,false),(iP 209 197 208,false),(iM 210 209,false),(gF 211 3 14 210 true,false),(gL 212 211 210 true,false),(iG 213 (.call 76 [(Tm 212),(Ci 1),(Ci 64)]) 210 true,true),(iP 214 210 213,false),(iM 215 214,false),(gF 216 4 14 215 true,false),(gO 217 3 216 215 true,false),(gK 218 74 217 215 true,true),(iP 219 215 218,false),(iM 8 219,false)]
def lE:Rg:=[iM 170 13,iC 171 .add 170 1,iM 13 171]
def uA:aB:=(.seq (sq afI (.cond (Tm 169) .skip (.exit 4))) (.seq (.block 5 (sq afJ (sq afK (.draw HW)))) (.region lE)))
def HX:Rg:=[iI 15 0]
def afL:Rg:=[iM 220 15,iF 221 4 1,iL 222 221,iN 223 222,iB 224 .lss 220 223,iM 225 224,gM 226 8 225 true,iP 227 225 226]
def afM:Rg:=[iF 230 4 1,iL 231 230,iM 232 15,iX 233 3 231 232,iO 234 3 233,iA 16 (.alloc [(.str []),(.int .i64 0),(.int .i64 0)]),iS 3 16 234]
def afN:Rg:=[iM 236 5,iF 237 0 16,iL 238 237,iK2 239 70 236 238,iM 235 239,iE 240 235 0,iE 241 235 1,iM 5 240,iM 8 241]
def HY:Rg:=[iM 242 8,iM 243 242,gF 244 1 16 243 true,gL 245 244 243 true,gF 246 2 1 243 true,gL 247 246 243 true,gN 248 247 243 true,gC 249 .sub 248 1 243 true,iG 250 (.call 76 [(Tm 245),(Ci 0),(Tm 249)]) 243 true,iP 251 243 250,iM 252 251,gF 253 2 16 252 true,gL 254 253 252 true,gF 255 3 1 252 true,gL 256 255 252 true,gN 257 256 252 true,gC 258 .sub 257 1 252 true,iG 259 (.call 76 [(Tm 254),(Ci 0),(Tm 258)]) 252 true,iP 260 252 259,iM 261 260,gF 262 3 1 261 true,gL 263 262 261 true,gF 264 2 16 261 true,gL 265 264 261 true,iG 266 (.bvE 7 (Tm 263) (Tm 265)) 261 true,gF 267 1 266 261 true,gL 268 267 261 true,gC 269 .eql 268 4 261 true,iP 270 261 269,iM 8 270]
def qO:Rg:=[iM 228 15,iC 229 .add 228 1,iM 15 229]
def uB:aB:=(.seq (sq afL (.cond (Tm 227) .skip (.exit 6))) (.seq (.block 7 (sq afM (sq afN (.region HY)))) (.region qO)))
def HZ:Rg:=[iI 17 0]
def afO:Rg:=[iM 271 17,iF 272 5 1,iL 273 272,iN 274 273,iB 275 .lss 271 274,iM 276 275,gM 277 8 276 true,iP 278 276 277]
def afP:Rg:=[iF 281 5 1,iL 282 281,iM 283 17,iX 284 17 282 283,iO 285 17 284,iA 18 (.alloc [(.str []),(.int .i64 0),(.int .i64 0),(.int .i64 0),(.int .i64 0),(.int .i64 0),(.int .i64 0),(.int .i64 0),(.int .i64 0),.buJ,.buJ,(.bool false),.buJ,.buJ,(.bool false),.buJ,.buJ]),iS 17 18 285]
def afQ:Rg:=[iM 287 6,iF 288 0 18,iL 289 288,iK2 290 70 287 289,iM 286 290,iE 291 286 0,iE 292 286 1,iM 6 291,iM 8 292]
def IA:Rg:=[iM 293 8,iM 294 293,gF 295 1 18 294 true,gL 296 295 294 true,gF 297 2 18 294 true,gL 298 297 294 true,gF 299 3 18 294 true,gL 300 299 294 true,gF 301 4 18 294 true,gO 302 5 301 294 true,iG 303 (.call 72 [(Tm 296),(Tm 298),(Tm 300),(Tm 302)]) 294 true,iP 304 294 303,iM 305 304,gF 306 2 18 305 true,gL 307 306 305 true,gF 308 10 18 305 true,gL 309 308 305 true,gF 310 11 18 305 true,gO 311 3 310 305 true,gF 312 14 18 305 true,gO 313 3 312 305 true,iG 314 (.call 69 [(Tm 307),(Tm 309),(Tm 311),(Tm 313)]) 305 true,iP 315 305 314,iM 316 315,gF 317 9 18 316 true,gL 318 317 316 true,gN 319 318 316 true,gC 320 .gtr 319 0 316 true,iP 321 316 320,iM 8 321]
def qP:Rg:=[iI 19 0]
def afR:Rg:=[iM 322 19,iF 323 9 18,iL 324 323,iN 325 324,iB 326 .lss 322 325,iM 327 326,gM 328 8 327 true,iP 329 327 328]
def afS:Rd:=[(iF 332 9 18,false),(iL 333 332,false),(iM 334 19,false),(iX 335 1 333 334,false),(iL 336 335,false),(iF 337 2 1,false),(iL 338 337,false),(iN 339 338,false),(iC 340 .sub 339 1,false),(iA 341 (.call 76 [(Tm 336),(Ci 0),(Tm 340)]),true),(iM 8 341,false)]
def afT:Rg:=[iI 20 0]
def afU:Rg:=[iM 342 20,iM 343 19,iB 344 .lss 342 343]
def IB:Rd:=[(iM 347 8,false),(iM 348 347,false),(gF 349 9 18 348 true,false),(gL 350 349 348 true,false),(gM 351 20 348 true,false),(iG 352 (.bvE 1 (Tm 350) (Tm 351)) 348 true,false),(gL 353 352 348 true,false),(gF 354 9 18 348 true,false),(gL 355 354 348 true,false),(gM 356 19 348 true,false),(iG 357 (.bvE 1 (Tm 355) (Tm 356)) 348 true,false),(gL 358 357 348 true,false),(gB 359 .neq 353 358 348 true,false),(iP 360 348 359,false),(iM 8 360,false)]
def IC:Rg:=[iM 345 20,iC 346 .add 345 1,iM 20 346]
def HS:aB:=(.seq (sq afU (.cond (Tm 344) .skip (.exit 12))) (.seq (.block 13 (.draw IB)) (.region IC)))
def afV:Rg:=[iM 330 19,iC 331 .add 330 1,iM 19 331]
def uC:aB:=(.seq (sq afR (.cond (Tm 329) .skip (.exit 10))) (.seq (.block 11 (dq afS (sq afT (.block 12 (.loop HS))))) (.region afV)))
def ID:Rg:=[iM 279 17,iC 280 .add 279 1,iM 17 280]
def uD:aB:=(.seq (sq afO (.cond (Tm 278) .skip (.exit 8))) (.seq (.block 9 (sq afP (sq afQ (sq IA (sq qP (.block 10 (.loop uC))))))) (.region ID)))
def IE:Rg:=[iI 21 0]
def afW:Rg:=[iM 361 21,iF 362 6 1,iL 363 362,iN 364 363,iB 365 .lss 361 364,iM 366 365,gM 367 8 366 true,iP 368 366 367]
def afX:Rg:=[iM 372 7,iF 373 6 1,iL 374 373,iM 375 21,iX 376 2 374 375,iF 377 0 376,iL 378 377,iK2 379 70 372 378,iM 371 379,iE 380 371 0,iE 381 371 1,iM 7 380,iM 8 381]
def IF:Rd:=[(iM 382 8,false),(iM 383 382,false),(gF 384 6 1 383 true,false),(gL 385 384 383 true,false),(gM 386 21 383 true,false),(iG 387 (.bvE 2 (Tm 385) (Tm 386)) 383 true,false),(gF 388 1 387 383 true,false),(gL 389 388 383 true,false),(gF 390 5 1 383 true,false),(gL 391 390 383 true,false),(gN 392 391 383 true,false),(gC 393 .sub 392 1 383 true,false),(iG 394 (.call 76 [(Tm 389),(Ci 0),(Tm 393)]) 383 true,true),(iP 395 383 394,false),(iM 8 395,false)]
def IG:Rg:=[iM 369 21,iC 370 .add 369 1,iM 21 370]
def uE:aB:=(.seq (sq afW (.cond (Tm 368) .skip (.exit 14))) (.seq (.block 15 (sq afX (.draw IF))) (.region IG)))
def IH:Rg:=[iM 396 8,iM 2 396]
def AN:aB:=(sq aqA (.seq (sq aqB (.cond (Tm 53) (sq xZ .ret) .skip)) (sq aqC (sq aqD (.seq (sq aqE (.block 0 (.loop HQ))) (.seq (sq afD (.block 2 (.loop HR))) (sq afH (sq HU (.seq (sq HV (.block 4 (.loop uA))) (.seq (sq HX (.block 6 (.loop uB))) (.seq (sq HZ (.block 8 (.loop uD))) (.seq (sq IE (.block 14 (.loop uE))) (sq IH .ret)))))))))))))
def a2W:List Nat:=[1]
def OR:aW:=⟨1,397,AN,[.tmp 2]⟩
def apN:Rg:=[iZ 4,iT 5 false]
def apO:Rg:=[iM 6 0,iM 7 1,iA 8 (.buO true 1 1 [(.str [])] [(0,(Tm 7))]),iA 9 (.append 1 16 (Tm 6) (Tm 8)),iM 10 1,iK 11 62 10,iM 12 11,gM 13 0 12 true,gM 14 1 12 true,gK2 15 71 13 14 12 true,gC 16 .lss 15 0 12 true,iP 17 12 16,iM 4 9,iM 5 17]
def AI:aB:=(sq apN (sq apO .ret))
def a2L:List Nat:=[8]
def OK:aW:=⟨2,18,AI,[.tmp 4,.tmp 5]⟩
structure WU (C:Ctx):Prop where
 val:∀ f:aL,f.Ok→aE C 96 [.agg f.cells] .nil (aC (.int .i64 (oS f)))
 valid:∀ f:aL,f.Ok→aE C 67 [.agg f.cells] .nil (aC (.bool (dH f)))
 shaped:∀ (f:aL) (l:List (List Int)),f.Ok→jU l→aE C 153 [.agg f.cells,lay l] .nil (aC (.bool (iU f l)))
 rshaped:∀ (f:aL) (l:List (List Int)),f.Ok→jU l→aE C 86 [.agg f.cells,lay l] .nil (aC (.bool (iU f l)))
theorem aHI {C:Ctx} (Lb:WU C) (f:aL) (hf:f.Ok):rL.wp C (aS sS.res (aC (.int .i64 (oS f)))) (PF.args [.agg f.cells]) .nil:=by
 simp only[go_sem,γ,δ,ε,ζ,η,θ,ι,κ,μ,ν,ξ,ο,ρ,σ,τ,υ,reduceIte,reduceCtorEq,rL,OU,OV,sS]
 refine aA (Lb.valid f hf) Ev ?_
 unfold oS
 cases dH f with
 | true =>
  simp only[go_sem,γ,δ,ε,ζ,η,θ,ι,κ,μ,ν,ξ,ο,ρ,σ,τ,υ,reduceIte,reduceCtorEq,bwU,OX]
  refine aI (.inr rfl) Ev ?_
  rfl
 | false =>
  simp only[go_sem,γ,δ,ε,ζ,η,θ,ι,κ,μ,ν,ξ,ο,ρ,σ,τ,υ,reduceIte,reduceCtorEq,bxB,OW]
  refine aI (.inr rfl) Ev ?_
  rfl
theorem aVL {C:Ctx} (Lb:WU C) (f:aL) (hf:f.Ok) (now:List (List Int)) (hl:jU now) (r:Int):vQ.wp C (aS BK.res (aC (.bool (gY f now r)))) (PF.args [.agg f.cells,lay now,.int .i64 r]) .nil:=by
 have hU:gY f now r=((dH f&&iU f now)&&(decide (0≤r)&&decide (r≤4))):=rfl
 have hsh:=Lb.shaped f now hf hl
 have hvl:=Lb.val f hf
 unfold oS at hvl
 simp only[go_sem,γ,δ,ε,ζ,η,θ,ι,κ,μ,ν,ξ,ο,ρ,σ,τ,υ,reduceIte,reduceCtorEq,vQ,abO,abP,BK]
 refine aA hvl Ev ?_
 cases hv:dH f with
 | false =>
  rw[hv] at hU
  simp only[go_sem,γ,δ,ε,ζ,η,θ,ι,κ,μ,ν,ξ,ο,ρ,σ,τ,υ,reduceIte,reduceCtorEq]
  refine aI (.inr rfl) Ev ?_
  rw[aT,hU]; rfl
 | true =>
  rw[hv] at hU
  simp only[go_sem,γ,δ,ε,ζ,η,θ,ι,κ,μ,ν,ξ,ο,ρ,σ,τ,υ,reduceIte,reduceCtorEq]
  refine aA hsh Ev ?_
  cases hs:iU f now with
  | false =>
   rw[hs] at hU
   simp only[go_sem,γ,δ,ε,ζ,η,θ,ι,κ,μ,ν,ξ,ο,ρ,σ,τ,υ,reduceIte,reduceCtorEq]
   refine aI (.inr rfl) Ev ?_
   rw[aT,hU]; rfl
  | true =>
   rw[hs,bwY,bwY] at hU
   by_cases c:0≤r
   ·rw[decide_eq_true c,bwY] at hU
    simp only[go_sem,γ,δ,ε,ζ,η,θ,ι,κ,μ,ν,ξ,ο,ρ,σ,τ,υ,reduceIte,reduceCtorEq,show r≥0 by omega]
    refine aI (.inr rfl) Ev ?_
    rw[aT,hU]
   ·rw[decide_eq_false c,bwT] at hU
    simp only[go_sem,γ,δ,ε,ζ,η,θ,ι,κ,μ,ν,ξ,ο,ρ,σ,τ,υ,reduceIte,reduceCtorEq,show ¬ r≥0 by omega]
    refine aI (.inr rfl) Ev ?_
    rw[aT,hU]
theorem aVN {C:Ctx} (Lb:WU C) (hz:∀ f:aL,f.Ok→aE C 258 [.agg f.cells] .nil (aC (.int .i64 (oS f)))) (f:aL) (hf:f.Ok) (now:List (List Int)) (hl:jU now) (r:Int):vT.wp C (aS BL.res (aC (.bool (gY f now r)))) (PF.args [.agg f.cells,lay now,.int .i64 r]) .nil:=by
 have hU:gY f now r=((dH f&&iU f now)&&(decide (0≤r)&&decide (r≤4))):=rfl
 have hsh:=Lb.rshaped f now hf hl
 have hvl:=hz f hf
 unfold oS at hvl
 simp only[go_sem,γ,δ,ε,ζ,η,θ,ι,κ,μ,ν,ξ,ο,ρ,σ,τ,υ,reduceIte,reduceCtorEq,vT,abS,abT,BL]
 by_cases c:0≤r
 ·by_cases c4:r≤4
  ·rw[decide_eq_true c,decide_eq_true c4] at hU
   simp only[go_sem,γ,δ,ε,ζ,η,θ,ι,κ,μ,ν,ξ,ο,ρ,σ,τ,υ,reduceIte,reduceCtorEq,show r≥0 by omega,c4]
   refine aA hvl Ev ?_
   cases hv:dH f with
   | false =>
    rw[hv] at hU
    simp only[go_sem,γ,δ,ε,ζ,η,θ,ι,κ,μ,ν,ξ,ο,ρ,σ,τ,υ,reduceIte,reduceCtorEq]
    refine aI (.inr rfl) Ev ?_
    rw[aT,hU]; rfl
   | true =>
    rw[hv] at hU
    simp only[go_sem,γ,δ,ε,ζ,η,θ,ι,κ,μ,ν,ξ,ο,ρ,σ,τ,υ,reduceIte,reduceCtorEq]
    refine aA hsh Ev ?_
    simp only[go_sem,γ,δ,ε,ζ,η,θ,ι,κ,μ,ν,ξ,ο,ρ,σ,τ,υ,reduceIte,reduceCtorEq]
    refine aI (.inr rfl) Ev ?_
    rw[aT,hU]
    cases iU f now<;>rfl
  ·rw[decide_eq_false c4,bxT,bxT] at hU
   simp only[go_sem,γ,δ,ε,ζ,η,θ,ι,κ,μ,ν,ξ,ο,ρ,σ,τ,υ,reduceIte,reduceCtorEq,show r≥0 by omega,c4]
   refine aI (.inr rfl) Ev ?_
   rw[aT,hU]
 ·rw[decide_eq_false c,bwT,bxT] at hU
  simp only[go_sem,γ,δ,ε,ζ,η,θ,ι,κ,μ,ν,ξ,ο,ρ,σ,τ,υ,reduceIte,reduceCtorEq,show ¬ r≥0 by omega]
  refine aI (.inr rfl) Ev ?_
  rw[aT,hU]
theorem bjL {C:Ctx} (f:aL) (hV:VF f) (v:Nat) (h:v<f.buK.length):ahZ.wp C (aS qk.res (aC (.int .i64 (eY f v).k))) (PF.args [.agg f.cells,.int .i64 v]) .nil:=by
 obtain⟨hp,he⟩:=rE hV h
 simp only[go_sem,γ,δ,ε,ζ,η,θ,ι,κ,μ,ν,ξ,ο,ρ,σ,τ,υ,reduceIte,reduceCtorEq,ahZ,a8S,qk]
 refine bM .nil dV PH.nil_le ?_
 simp only[go_sem,γ,δ,ε,ζ,η,θ,ι,κ,μ,ν,ξ,ο,ρ,σ,τ,υ,reduceIte,reduceCtorEq,a8T,tY h,hV.abM h,nZ hp,he]
 refine aI (.inr rfl) Ev ?_
 rfl
structure beS (C:Ctx):Prop where
 has:∀ (l:List Int) (x:Int),l.length≤1000000000000000→aE C 254 [ints l,.int .i64 x] .nil (aC (.bool (l.contains x)))
 k:∀ (f:aL) (v:Nat),VF f→v<f.buK.length→aE C 257 [.agg f.cells,.int .i64 v] .nil (aC (.int .i64 (eY f v).k))
theorem a6H {C:Ctx} (Lb:beS C) (f:aL) (hV:VF f) (now:List (List Int)) (hl:jU now) (hlen:now.length=f.buK.length) (r:Int) (h0:0≤r) (h4:r≤4) (down:List Int) (hd:down.length≤1000000000000000) :
  FW.wp C (aS abR.res (aC (.bool (DU f now r down)))) (PF.args [.agg f.cells,lay now,.int .i64 r,ints down]) .nil:=by
 have buW:=hl.rows
 simp only[go_sem,γ,δ,ε,ζ,η,θ,ι,κ,μ,ν,ξ,ο,ρ,σ,τ,υ,reduceIte,reduceCtorEq,FW,aBR,aBS,abR]
 refine wp_loop (α:=Nat) (fun v=>(((((PF.nil.set 1 (lay now)).set 2 (.int .i64 r)).set 3 (ints down)).set 4 (.buR f.cells)).set 9 (.int .i64 v))) (fun _=>.nil) (fun v=>v≤now.length∧wU f now r down v=true) (fun v=>now.length-v) 0 ⟨bwZ _,rfl⟩ Lq PH.nil_le ?_
 rintro v ⟨hv,hok⟩
 simp only[go_sem,γ,δ,ε,ζ,η,θ,ι,κ,μ,ν,ξ,ο,ρ,σ,τ,υ,reduceIte,reduceCtorEq,anB,aBT,bwN]
 by_cases hlt:v<now.length
 ·have buP:(v:Int)<(now.length:Nat):=by omega
  have hat:(now.map fun r=>[ints r])[v]?=some [ints now[v]]:=by simp[hlt]
  have hgd:now.getD v []=now[v]:=by simp[bxI,hlt]
  have hrl:(now[v]).length≤16777216:=by
   have h1:=hl.all
   have h2:(now[v]).length≤now.flatten.length:=(List.sublist_flatten_of_mem (bwS hlt)).length_le
   omega
  obtain⟨hp,he⟩:=rE hV (Om:v<f.buK.length)
  have hpol:=hV.buX _ (bwS hp)
  rw[he] at hpol
  have hw:IntKind.i64.wrap ((eY f v).k+r)=(eY f v).k+r:=wrap_i64 Om Om
  have bvF:=YX f now r down v
  rw[hok,bwY,hgd] at bvF
  have hno:=fun (h:vX f r down v now[v]=true)=>atQ (f:=f) (now:=now) (reserve:=r) (down:=down) hlt (by rw[hgd]; exact h)
  generalize now[v]=row at *
  simp only[go_sem,γ,δ,ε,ζ,η,θ,ι,κ,μ,ν,ξ,ο,ρ,σ,τ,υ,reduceIte,reduceCtorEq,buP,aBU,aBV]
  refine wp_loop (α:=Nat) (fun k=>((((((((PF.nil.set 1 (lay now)).set 2 (.int .i64 r)).set 3 (ints down)).set 4 (.buR f.cells)).set 9 (.int .i64 v)).set 10 (.bool (sX down (row.take k)))).set 11 (.int .i64 (gT down (row.take k):Nat))).set 12 (.int .i64 k))) (fun _=>.nil) (fun k=>k≤row.length) (fun k=>row.length-k) 0 (bwZ _) (by (repeat' (first|exact PF.nil_le|refine PF.aH ?_ ?_))<;>first|(simp only[go_sem,γ,δ,ε,ζ,η,θ,ι,κ,μ,ν,ξ,ο,ρ,σ,τ,υ,reduceIte,reduceCtorEq,List.take_zero,sX,gT,List.any_nil,List.countP_nil]<;>rfl)|rfl) PH.nil_le ?_
  intro k hk
  have hol:gT down (row.take k)≤row.length:=Nat.le_trans List.countP_le_length (by rw[bxE]; omega)
  simp only[go_sem,γ,δ,ε,ζ,η,θ,ι,κ,μ,ν,ξ,ο,ρ,σ,τ,υ,reduceIte,reduceCtorEq,anA,aBW,hat,bwN]
  by_cases hkl:k<row.length
  ·have hkl':(k:Int)<(row.length:Nat):=by omega
   have hra:(row.map fun n=>[PV.int .i64 n])[k]?=some [.int .i64 row[k]]:=by simp[hkl]
   have hs1:=akY (down:=down) hkl
   have hs2:=RX (down:=down) hkl
   by_cases c:row[k]<0
   ·have d1:lW down row[k]=false:=by unfold lW; rw[decide_eq_false Om]; rfl
    have d2:lY down row[k]=false:=by unfold lY; rw[decide_eq_false Om]; rfl
    rw[d1,Bool.or_false] at hs1
    rw[d2,if_neg (by simp),byB] at hs2
    simp only[go_sem,γ,δ,ε,ζ,η,θ,ι,κ,μ,ν,ξ,ο,ρ,σ,τ,υ,reduceIte,reduceCtorEq,hkl',VM,hat,hra,c,xJ,wZz k]
    exact aJ (k+1) hkl Om (by (repeat' (first|exact PF.nil_le|refine PF.aH ?_ ?_))<;>first|(simp only[go_sem,γ,δ,ε,ζ,η,θ,ι,κ,μ,ν,ξ,ο,ρ,σ,τ,υ,reduceIte,reduceCtorEq,hs1,hs2]<;>rfl)|rfl) PH.le_refl
   ·simp only[go_sem,γ,δ,ε,ζ,η,θ,ι,κ,μ,ν,ξ,ο,ρ,σ,τ,υ,reduceIte,reduceCtorEq,hkl',VM,hat,hra,c,aBX]
    refine aA (Lb.has down row[k] hd) Ev ?_
    cases hc:down.contains row[k] with
    | true =>
     have d1:lW down row[k]=true:=by unfold lW; rw[decide_eq_true Om,hc]; rfl
     have d2:lY down row[k]=false:=by unfold lY; rw[hc]; simp
     rw[d1,Bool.or_true] at hs1
     rw[d2,if_neg (by simp),byB] at hs2
     simp only[go_sem,γ,δ,ε,ζ,η,θ,ι,κ,μ,ν,ξ,ο,ρ,σ,τ,υ,reduceIte,reduceCtorEq,aBY,xJ,wZz k]
     exact aJ (k+1) hkl Om (by (repeat' (first|exact PF.nil_le|refine PF.aH ?_ ?_))<;>first|(simp only[go_sem,γ,δ,ε,ζ,η,θ,ι,κ,μ,ν,ξ,ο,ρ,σ,τ,υ,reduceIte,reduceCtorEq,hs1,hs2]<;>rfl)|rfl) PH.le_refl
    | false =>
     have d1:lW down row[k]=false:=by unfold lW; rw[hc]; simp
     have d2:lY down row[k]=true:=by unfold lY; rw[decide_eq_true Om,hc]; rfl
     rw[d1,Bool.or_false] at hs1
     rw[d2,if_pos rfl] at hs2
     simp only[go_sem,γ,δ,ε,ζ,η,θ,ι,κ,μ,ν,ξ,ο,ρ,σ,τ,υ,reduceIte,reduceCtorEq,aBZ,cY (Om:gT down (row.take k)<9223372036854775807),xJ,wZz k]
     exact aJ (k+1) hkl Om (by (repeat' (first|exact PF.nil_le|refine PF.aH ?_ ?_))<;>first|(simp only[go_sem,γ,δ,ε,ζ,η,θ,ι,κ,μ,ν,ξ,ο,ρ,σ,τ,υ,reduceIte,reduceCtorEq,hs1,hs2]<;>rfl)|rfl) PH.le_refl
  ·have hkl':¬ (k:Int)<(row.length:Nat):=by omega
   have:k=row.length:=by omega
   subst this
   rw[bxM] at hol
   simp only[go_sem,γ,δ,ε,ζ,η,θ,ι,κ,μ,ν,ξ,ο,ρ,σ,τ,υ,reduceIte,reduceCtorEq,hkl',bxM,anC]
   have hsh:vX f r down v row=(sX down row&&decide (((gT down row:Nat):Int)<(eY f v).k+r)):=rfl
   cases hh:sX down row with
   | false =>
    rw[hh,bwT] at hsh
    rw[hsh] at bvF
    simp only[go_sem,γ,δ,ε,ζ,η,θ,ι,κ,μ,ν,ξ,ο,ρ,σ,τ,υ,reduceIte,reduceCtorEq,hh,MJ,wZz v]
    exact aJ (v+1) ⟨hlt,bvF⟩ Om Lq PH.nil_le
   | true =>
    rw[hh,bwY] at hsh
    simp only[go_sem,γ,δ,ε,ζ,η,θ,ι,κ,μ,ν,ξ,ο,ρ,σ,τ,υ,reduceIte,reduceCtorEq,hh]
    refine aA (Lb.k f v hV Om) Ev ?_
    by_cases c:((gT down row:Nat):Int)<(eY f v).k+r
    ·rw[decide_eq_true c] at hsh
     simp only[go_sem,γ,δ,ε,ζ,η,θ,ι,κ,μ,ν,ξ,ο,ρ,σ,τ,υ,reduceIte,reduceCtorEq,hw,c,anD]
     refine aI (.inr rfl) Ev ?_
     rw[aT]
     exact congrArg PV.bool (hno hsh).symm
    ·rw[decide_eq_false c] at hsh
     rw[hsh] at bvF
     simp only[go_sem,γ,δ,ε,ζ,η,θ,ι,κ,μ,ν,ξ,ο,ρ,σ,τ,υ,reduceIte,reduceCtorEq,hw,c,MJ,wZz v]
     exact aJ (v+1) ⟨hlt,bvF⟩ Om Lq PH.nil_le
 ·have buP:¬ (v:Int)<(now.length:Nat):=by omega
  have:v=now.length:=by omega
  subst this
  simp only[go_sem,γ,δ,ε,ζ,η,θ,ι,κ,μ,ν,ξ,ο,ρ,σ,τ,υ,reduceIte,reduceCtorEq,buP,anE]
  refine aI (.inr rfl) Ev ?_
  rw[aT]
  exact congrArg PV.bool hok.symm
theorem aoG {f:aL} {now:List (List Int)} {r:Int} (h:gY f now r=true):dH f=true∧now.length=f.buK.length∧0≤r∧r≤4:=by
 unfold gY at h
 simp only[bxJ,decide_eq_true_eq] at h
 exact⟨h.1.1,aWB h.1.2,h.2.1,h.2.2⟩
theorem a5Y {C:Ctx} (f:aL) (now:List (List Int)) (r:Int) (down:List Int) (hu:aE C 250 [.agg f.cells,lay now,.int .i64 r] .nil (aC (.bool (gY f now r))))
  (hx:gY f now r=true→aE C 251 [.agg f.cells,lay now,.int .i64 r,ints down] .nil (aC (.bool (DU f now r down)))) :
  FO.wp C (aS abJ.res (aC (.bool (kW f now r down)))) (PF.args [.agg f.cells,lay now,.int .i64 r,ints down]) .nil:=by
 have hP:kW f now r down=(gY f now r&&DU f now r down):=rfl
 simp only[go_sem,γ,δ,ε,ζ,η,θ,ι,κ,μ,ν,ξ,ο,ρ,σ,τ,υ,reduceIte,reduceCtorEq,FO,aAV,aAW,abJ]
 refine aA hu Ev ?_
 cases h:gY f now r with
 | false =>
  rw[h] at hP
  simp only[go_sem,γ,δ,ε,ζ,η,θ,ι,κ,μ,ν,ξ,ο,ρ,σ,τ,υ,reduceIte,reduceCtorEq]
  refine aI (.inr rfl) Ev ?_
  rw[aT,hP]; rfl
 | true =>
  rw[h] at hP
  simp only[go_sem,γ,δ,ε,ζ,η,θ,ι,κ,μ,ν,ξ,ο,ρ,σ,τ,υ,reduceIte,reduceCtorEq]
  refine aA (hx h) Ev ?_
  simp only[go_sem,γ,δ,ε,ζ,η,θ,ι,κ,μ,ν,ξ,ο,ρ,σ,τ,υ,reduceIte,reduceCtorEq]
  refine aI (.inr rfl) Ev ?_
  rw[aT,hP]; rfl
theorem a6F {C:Ctx} (f:aL) (now:List (List Int)) (r:Int) (down:List Int) (hu:aE C 253 [.agg f.cells,lay now,.int .i64 r] .nil (aC (.bool (gY f now r))))
  (hx:gY f now r=true→aE C 255 [.agg f.cells,lay now,.int .i64 r,ints down] .nil (aC (.bool (DU f now r down)))) :
  FU.wp C (aS abQ.res (aC (.bool (kW f now r down)))) (PF.args [.agg f.cells,lay now,.int .i64 r,ints down]) .nil:=by
 have hP:kW f now r down=(gY f now r&&DU f now r down):=rfl
 simp only[go_sem,γ,δ,ε,ζ,η,θ,ι,κ,μ,ν,ξ,ο,ρ,σ,τ,υ,reduceIte,reduceCtorEq,FU,aBP,aBQ,abQ]
 refine aA hu Ev ?_
 cases h:gY f now r with
 | false =>
  rw[h] at hP
  simp only[go_sem,γ,δ,ε,ζ,η,θ,ι,κ,μ,ν,ξ,ο,ρ,σ,τ,υ,reduceIte,reduceCtorEq]
  refine aI (.inr rfl) Ev ?_
  rw[aT,hP]; rfl
 | true =>
  rw[h] at hP
  simp only[go_sem,γ,δ,ε,ζ,η,θ,ι,κ,μ,ν,ξ,ο,ρ,σ,τ,υ,reduceIte,reduceCtorEq]
  refine aA (hx h) Ev ?_
  simp only[go_sem,γ,δ,ε,ζ,η,θ,ι,κ,μ,ν,ξ,ο,ρ,σ,τ,υ,reduceIte,reduceCtorEq]
  refine aI (.inr rfl) Ev ?_
  rw[aT,hP]; rfl
def atC:Rg:=[iI 4 0]
def atD:Rg:=[iM 7 0,iA 8 (.buY (Tm 7)),iF 9 1 8,iL 10 9,iC 11 .rem 10 3,iM 5 11]
def atE:Rd:=[(iM 12 0,false),(iA 13 (.buY (Tm 12)),false),(iF 14 1 13,false),(iL 15 14,false),(iM 16 0,false),(iA 17 (.buY (Tm 16)),false),(iF 18 0 17,false),(iL 19 18,false),(iN 20 19,false),(iB 21 .lss 15 20,false)]
def atF:Rd:=[(iM 22 0,false),(iA 23 (.buY (Tm 22)),false),(iF 24 0 23,false),(iL 25 24,false),(iM 26 0,false),(iA 27 (.buY (Tm 26)),false),(iF 28 1 27,false),(iL 29 28,false),(iX 30 1 25 29,false),(iL 31 30,false),(iM 5 31,false)]
def TJ:Rg:=[iM 32 0,iA 33 (.buY (Tm 32)),iF 34 1 33,iL 35 34,iC 36 .add 35 1,iA 37 (.buY (Tm 32)),iF 38 1 37,iS 1 38 36]
def TK:Rg:=[iM 39 1,iC 40 .lss 39 1]
def TL:Rg:=[iI 4 0]
def TM:Rg:=[iM 41 5,iM 42 1,iB 43 .rem 41 42,iM 6 43]
def TN:Rg:=[iM 44 6,iC 45 .lss 44 0]
def TO:Rg:=[iM 46 6,iM 47 1,iB 48 .add 46 47,iM 4 48]
def JI:Rg:=[iM 49 6,iM 4 49]
def DO:aB:=(sq atC (sq atD (.seq (dq atE (.cond (Tm 21) (.draw atF) .skip)) (sq TJ (.seq (sq TK (.cond (Tm 40) (sq TL .ret) .skip)) (sq TM (.seq (sq TN (.cond (Tm 45) (sq TO .ret) .skip)) (sq JI .ret))))))))
def a3W:List Nat:=[]
def DN:aW:=⟨2,50,DO,[.tmp 4]⟩
def asP:Rg:=[iA 4 (.alloc [(.bool false),.buJ,.buJ])]
def asQ:Rg:=[iM 8 0,iM 9 1,iK2 10 50 8 9,iM 7 10,iE 11 7 0,iE 12 7 1,iA 5 (.alloc [(.bool false),.buJ,.buJ]),iS 3 5 11,iM 6 12]
def asR:Rg:=[iO 13 3 5,iS 3 4 13]
def DJ:aB:=(sq asP (sq asQ (sq asR .ret)))
def a3N:List Nat:=[]
def YE:aW:=⟨2,14,DJ,[.cell 4 (some 3)]⟩
def atA:Rg:=[iA 4 (.mv (.const (.str [])))]
def atB:Rg:=[iM 5 0,iM 6 1,iC 7 .quo 6 26,iC 8 .rem 7 26,iA 9 (.bin .add (Ci 97) (Tm 8)),iA 10 (.conv .u8 (Tm 9)),iM 11 1,iC 12 .rem 11 26,iA 13 (.bin .add (Ci 97) (Tm 12)),iA 14 (.conv .u8 (Tm 13)),iA 15 (.buO true 1 3 [(.int .u8 0)] [(0,(Tm 5)),(1,(Tm 10)),(2,(Tm 14))]),iA 16 (.buZ (Tm 15)),iM 4 16]
def DM:aB:=(sq atA (sq atB .ret))
def a3U:List Nat:=[15]
def YQ:aW:=⟨2,17,DM,[.tmp 4]⟩
def aIT:Rg:=[iI 8 0]
def aIU:Rg:=[iM 10 0,iA 11 (.buY (Tm 10)),iF 12 3 11,iL 13 12,iN 14 13,iM 9 14]
def aIV:Rd:=[(iM 15 0,true),(iM 16 0,true),(iA 17 (.buY (Tm 16)),true),(iF 18 3 17,true),(iL 19 18,true),(iM 20 9,false),(iA 21 (.call 242 [(.const (.int .u8 110)),(Tm 20)]),true),(iM 22 1,true),(iM 23 2,true),(iM 24 3,true),(iA 25 (.call 241 [(Ci 0),(Ci 1)]),true),(iA 26 (.build [(.str []),(.int .i64 0),(.int .i64 0),(.int .i64 0),(.bool false),.buJ,.buJ] [(0,1,(Tm 21)),(1,1,(Tm 22)),(2,1,(Tm 23)),(3,1,(Tm 24)),(4,3,(Tm 25))]),false),(iA 27 (.buO true 7 1 [(.str []),(.int .i64 0),(.int .i64 0),(.int .i64 0),(.bool false),.buJ,.buJ] [(0,(Tm 26))]),false),(iA 28 (.append 7 96 (Tm 19) (Tm 27)),true),(iA 29 (.buY (Tm 15)),false),(iF 30 3 29,false)]
def aIW:Rd:=[(iS 1 30 28,true)]
def aIX:Rg:=[iM 31 9,iM 8 31]
def JE:aB:=(sq aIT (sq aIU (.seq (dq aIV (.draw aIW)) (sq aIX .ret))))
def a9K:List Nat:=[27]
def asM:aW:=⟨4,32,JE,[.tmp 8]⟩
def ajI:Rg:=[iA 4 (.alloc [(.int .i64 0),.buJ,.buJ,.buJ,.buJ,.buJ,.buJ])]
def ajJ:Rg:=[iM 20 0,iA 21 (.call 240 [(Tm 20),(Ci 2)]),iA 22 (.bin .add (Ci 1) (Tm 21)),iA 23 (.build [(.int .i64 0),.buJ,.buJ,.buJ,.buJ,.buJ,.buJ] [(0,1,(Tm 22))]),iA 5 (.alloc [(.int .i64 0),.buJ,.buJ,.buJ,.buJ,.buJ,.buJ]),iS 7 5 23]
def ajK:Rg:=[iA 24 (.call 241 [(Ci 1),(Ci 1)]),iA 25 (.buO true 3 1 [(.bool false),.buJ,.buJ] [(0,(Tm 24))]),iA 26 (.call 241 [(Ci 0),(Ci 1)]),iA 27 (.buO true 3 1 [(.bool false),.buJ,.buJ] [(0,(Tm 26))]),iA 28 (.buO true 1 1 [.buJ] [(0,(Tm 27))]),iM 29 0,iA 30 (.call 240 [(Tm 29),(Ci 100)]),iA 31 (.bin .add (Ci 100) (Tm 30)),iA 32 (.call 241 [(Ci 1),(Tm 31)]),iA 33 (.buO true 3 1 [(.bool false),.buJ,.buJ] [(0,(Tm 32))]),iA 34 (.build [(.str []),.buJ,.buJ,.buJ] [(0,1,(.const (.str [100,105,115,107]))),(1,1,(Tm 25)),(2,1,(Tm 28)),(3,1,(Tm 33))]),iA 35 (.buO true 4 1 [(.str []),.buJ,.buJ,.buJ] [(0,(Tm 34))]),iF 36 1 5,iS 1 36 35]
def ajL:Rg:=[iM 37 0,iA 38 (.call 240 [(Tm 37),(Ci 2)]),iA 39 (.bin .add (Ci 3) (Tm 38)),iM 40 0,iA 41 (.call 240 [(Tm 40),(Ci 9)]),iA 42 (.bin .add (Ci 8) (Tm 41)),iA 43 (.build [(.str []),(.int .i64 0),(.int .i64 0),(.int .i64 0)] [(0,1,(.const (.str [98,105,103]))),(1,1,(Tm 39)),(2,1,(Tm 42)),(3,1,(Ci 0))]),iM 44 0,iA 45 (.call 240 [(Tm 44),(Ci 3)]),iA 46 (.bin .add (Ci 1) (Tm 45)),iM 47 0,iA 48 (.call 240 [(Tm 47),(Ci 9)]),iA 49 (.bin .add (Ci 4) (Tm 48)),iA 50 (.build [(.str []),(.int .i64 0),(.int .i64 0),(.int .i64 0)] [(0,1,(.const (.str [111,108,100]))),(1,1,(Tm 46)),(2,1,(Tm 49)),(3,1,(Ci 0))]),iA 51 (.buO true 4 2 [(.str []),(.int .i64 0),(.int .i64 0),(.int .i64 0)] [(0,(Tm 43)),(1,(Tm 50))]),iF 52 2 5,iS 1 52 51]
def ajM:Rg:=[iA 53 (.call 241 [(Ci 0),(Ci 1)]),iA 54 (.build [(.str []),(.int .i64 0),(.int .i64 0),(.int .i64 0),(.bool false),.buJ,.buJ] [(2,1,(Ci (-1))),(4,3,(Tm 53))]),iA 55 (.buO false 7 1 [(.str []),(.int .i64 0),(.int .i64 0),(.int .i64 0),(.bool false),.buJ,.buJ] [(0,(Tm 54))]),iF 56 3 5,iS 1 56 55]
def ajN:Rg:=[iM 57 0,iA 58 (.call 240 [(Tm 57),(Ci 3)]),iA 59 (.bin .add (Ci 3) (Tm 58)),iM 6 59]
def ajO:Rg:=[iI 7 0,iI 8 0,iI 9 0]
def ajP:Rg:=[iI 10 0]
def ajQ:Rg:=[iM 60 10,iM 61 6,iB 62 .lss 60 61]
def ajR:Rg:=[iM 65 10,iC 66 .eql 65 0,iM 67 66,gM 68 0 67 false,iG 69 (.call 240 [(Tm 68),(Ci 4)]) 67 false,gC 70 .eql 69 0 67 false,iQ 71 67 70]
def CV:Rg:=[iM 72 0,iA 73 (.call 240 [(Tm 72),(Ci 17)]),iA 74 (.bin .add (Ci 16) (Tm 73)),iA 75 (.call 243 [(Tm 5),(Ci 1),(Ci 0),(Tm 74)]),iM 7 75]
def CW:Rg:=[iM 76 7,iM 77 0,iA 78 (.call 240 [(Tm 77),(Ci 17)]),iA 79 (.bin .add (Ci 16) (Tm 78)),iA 80 (.call 243 [(Tm 5),(Ci 2),(Tm 76),(Tm 79)]),iM 8 80]
def CX:Rg:=[iM 81 8,iM 82 0,iA 83 (.call 240 [(Tm 82),(Ci 9)]),iA 84 (.bin .add (Ci 8) (Tm 83)),iA 85 (.call 243 [(Tm 5),(Ci 3),(Tm 81),(Tm 84)]),iM 9 85]
def XI:Rg:=[iM 86 0,iA 87 (.call 240 [(Tm 86),(Ci 2)]),iC 88 .eql 87 0]
def XJ:Rg:=[iM 89 8,iM 90 0,iA 91 (.call 240 [(Tm 90),(Ci 9)]),iA 92 (.bin .add (Ci 8) (Tm 91)),iA 93 (.call 243 [(Tm 5),(Ci 3),(Tm 89),(Tm 92)]),iM 9 93]
def tF:Rg:=[iM 94 9,iM 95 0,iA 96 (.call 240 [(Tm 95),(Ci 9)]),iA 97 (.bin .add (Ci 8) (Tm 96)),iA 98 (.call 243 [(Tm 5),(Ci 4),(Tm 94),(Tm 97)]),iM 11 98]
def tG:Rg:=[iM 99 0,iA 100 (.call 240 [(Tm 99),(Ci 2)]),iA 101 (.bin .add (Ci 1) (Tm 100)),iM 12 101]
def XK:Rg:=[iM 102 12,iC 103 .gtr 102 0,iM 104 103,gF 105 4 5 104 true,gL 106 105 104 true,gN 107 106 104 true,gC 108 .lss 107 9 104 true,iP 109 104 108]
def XL:Rg:=[iI 13 0]
def XM:Rg:=[iM 112 0,iA 113 (.call 240 [(Tm 112),(Ci 4)]),iC 114 .eql 113 0]
def XN:Rg:=[iI 13 1]
def CY:Rd:=[(iF 115 4 5,true),(iL 116 115,true),(iF 117 4 5,false),(iL 118 117,false),(iN 119 118,false),(iA 120 (.call 242 [(.const (.int .u8 100)),(Tm 119)]),true),(iM 121 13,true),(iM 122 11,true),(iA 123 (.build [(.str []),(.int .i64 0),(.int .i64 0)] [(0,1,(Tm 120)),(1,1,(Tm 121)),(2,1,(Tm 122))]),false),(iA 124 (.buO true 3 1 [(.str []),(.int .i64 0),(.int .i64 0)] [(0,(Tm 123))]),false),(iA 125 (.append 3 32 (Tm 116) (Tm 124)),true),(iF 126 4 5,false)]
def CZ:Rd:=[(iS 1 126 125,true)]
def DA:Rg:=[iM 110 12,iC 111 .sub 110 1,iM 12 111]
def pT:aB:=(.seq (sq XK (.cond (Tm 109) .skip (.exit 2))) (.seq (.block 3 (sq XL (.seq (sq XM (.cond (Tm 114) (.region XN) .skip)) (dq CY (.draw CZ))))) (.region DA)))
def DB:Rg:=[iM 63 10,iC 64 .add 63 1,iM 10 64]
def CQ:aB:=(.seq (sq ajQ (.cond (Tm 62) .skip (.exit 0))) (.seq (.block 1 (.seq (sq ajR (.cond (Tm 71) (sq CV (sq CW (.region CX))) (sq XI (.cond (Tm 88) (.region XJ) .skip)))) (sq tF (sq tG (.block 2 (.loop pT)))))) (.region DB)))
def XO:Rg:=[iM 127 0,iA 128 (.call 240 [(Tm 127),(Ci 2)]),iA 129 (.bin .add (Ci 1) (Tm 128)),iM 14 129]
def XP:Rg:=[iM 130 14,iC 131 .gtr 130 0]
def DC:Rg:=[iM 134 0,iA 135 (.call 240 [(Tm 134),(Ci 2)]),iA 136 (.bin .add (Ci 1) (Tm 135)),iM 15 136]
def DD:Rg:=[iM 137 0,iA 138 (.call 240 [(Tm 137),(Ci 3)]),iM 16 138]
def DE:Rg:=[iM 139 14,iA 140 (.call 242 [(.const (.int .u8 112)),(Tm 139)]),iM 141 15,iM 142 16,iM 143 15,iM 144 0,iM 145 16,iC 146 .add 145 1,iK2 147 240 144 146,iB 148 .add 143 147,iA 149 (.buO true 1 2 [(.int .i64 0)] [(0,(Ci 0)),(1,(Ci 1))]),iA 150 (.call 241 [(Ci 1),(Ci 1000)]),iA 151 (.call 241 [(Ci 30),(Ci 1)]),iA 152 (.build [(.str []),(.int .i64 0),(.int .i64 0),(.int .i64 0),(.int .i64 0),(.int .i64 0),(.int .i64 0),(.int .i64 0),(.int .i64 0),.buJ,.buJ,(.bool false),.buJ,.buJ,(.bool false),.buJ,.buJ] [(0,1,(Tm 140)),(1,1,(Tm 141)),(2,1,(Tm 142)),(3,1,(Tm 148)),(9,1,(Tm 149)),(11,3,(Tm 150)),(14,3,(Tm 151))]),iA 17 (.alloc [(.str []),(.int .i64 0),(.int .i64 0),(.int .i64 0),(.int .i64 0),(.int .i64 0),(.int .i64 0),(.int .i64 0),(.int .i64 0),.buJ,.buJ,(.bool false),.buJ,.buJ,(.bool false),.buJ,.buJ]),iS 17 17 152]
def DF:Rg:=[iM 153 0,iA 154 (.call 240 [(Tm 153),(Ci 4)]),iF 155 4 17,iA 156 (.idxA 5 1 (Tm 155) (Ci 3)),iS 1 156 154]
def DG:Rg:=[iM 157 0,iA 158 (.call 240 [(Tm 157),(Ci 3)]),iF 159 4 17,iA 160 (.idxA 5 1 (Tm 159) (Ci 4)),iS 1 160 158]
def DH:Rg:=[iM 161 0,iA 162 (.call 240 [(Tm 161),(Ci 5)]),iC 163 .eql 162 0]
def DI:Rg:=[iA 164 (.buO true 1 1 [(.int .i64 0)] [(0,(Ci 0))]),iF 165 9 17,iS 1 165 164]
def XQ:Rg:=[iI 18 0]
def XR:Rg:=[iM 166 18,iM 167 16,iA 168 (.bvK true (Tm 167) (Ci 1)),iB 169 .lss 166 168]
def XS:Rd:=[(iF 172 10 17,true),(iL 173 172,true),(iA 174 (.call 241 [(Ci 1),(Ci 2)]),true),(iA 175 (.buO true 3 1 [(.bool false),.buJ,.buJ] [(0,(Tm 174))]),false),(iA 176 (.append 3 56 (Tm 173) (Tm 175)),true),(iF 177 10 17,false)]
def XT:Rd:=[(iS 1 177 176,true)]
def XU:Rg:=[iM 170 18,iC 171 .add 170 1,iM 18 171]
def CR:aB:=(.seq (sq XR (.cond (Tm 169) .skip (.exit 6))) (.seq (.block 7 (dq XS (.draw XT))) (.region XU)))
def XV:Rg:=[iF 178 5 5,iL 179 178,iO 180 17 17,iA 181 (.buO true 17 1 [(.str []),(.int .i64 0),(.int .i64 0),(.int .i64 0),(.int .i64 0),(.int .i64 0),(.int .i64 0),(.int .i64 0),(.int .i64 0),.buJ,.buJ,(.bool false),.buJ,.buJ,(.bool false),.buJ,.buJ] [(0,(Tm 180))]),iA 182 (.append 17 240 (Tm 179) (Tm 181)),iF 183 5 5,iS 1 183 182]
def XW:Rg:=[iM 132 14,iC 133 .sub 132 1,iM 14 133]
def CS:aB:=(.seq (sq XP (.cond (Tm 131) .skip (.exit 4))) (.seq (.block 5 (sq DC (sq DD (sq DE (sq DF (sq DG (.seq (sq DH (.cond (Tm 163) (.region DI) .skip)) (.seq (sq XQ (.block 6 (.loop CR))) (.region XV))))))))) (.region XW)))
def XY:Rg:=[iM 184 0,iM 185 1,iK2 186 240 184 185,iA 187 (.bin .add (Ci 1) (Tm 186)),iM 19 187]
def XZ:Rg:=[iM 188 19,iC 189 .gtr 188 0]
def YA:Rd:=[(iF 192 6 5,true),(iL 193 192,true),(iM 194 19,false),(iA 195 (.call 242 [(.const (.int .u8 118)),(Tm 194)]),true),(iM 196 0,true),(iF 197 5 5,true),(iL 198 197,true),(iN 199 198,true),(iK2 200 240 196 199,true),(iA 201 (.build [(.str []),(.int .i64 0)] [(0,1,(Tm 195)),(1,1,(Tm 200))]),false),(iA 202 (.buO true 2 1 [(.str []),(.int .i64 0)] [(0,(Tm 201))]),false),(iA 203 (.append 2 24 (Tm 193) (Tm 202)),true),(iF 204 6 5,false)]
def YB:Rd:=[(iS 1 204 203,true)]
def YC:Rg:=[iM 190 19,iC 191 .sub 190 1,iM 19 191]
def CU:aB:=(.seq (sq XZ (.cond (Tm 189) .skip (.exit 8))) (.seq (.block 9 (dq YA (.draw YB))) (.region YC)))
def YD:Rg:=[iO 205 7 5,iS 7 4 205]
def yC:aB:=(sq ajI (sq ajJ (sq ajK (sq ajL (sq ajM (sq ajN (sq ajO (.seq (sq ajP (.block 0 (.loop CQ))) (.seq (sq XO (.block 4 (.loop CS))) (.seq (sq XY (.block 8 (.loop CU))) (sq YD .ret)))))))))))
def aXV:List Nat:=[25,27,28,33,35,51,124,149,164,175,181,202]
def JG:aW:=⟨2,206,yC,[.cell 4 (some 7)]⟩
def YF:Rg:=[iA 3 (.box true (Tm 1)),iZ 4]
def YG:Rg:=[iZ 5]
def YH:Rg:=[iI 6 0]
def YI:Rg:=[iM 11 6,iF 12 6 3,iL 13 12,iN 14 13,iB 15 .lss 11 14]
def YJ:Rg:=[iA 18 (.buO false 1 0 [(.int .i64 0)] []),iM 7 18]
def YK:Rg:=[iI 8 0]
def YL:Rg:=[iM 19 8,iO 20 7 3,iM 21 6,iK2 22 245 20 21,iB 23 .lss 19 22]
def YM:Rg:=[iM 26 0,iF 27 4 3,iL 28 27,iN 29 28,iK2 30 240 26 29,iM 9 30]
def YN:Rg:=[iI 10 0]
def YO:Rg:=[iM 31 10,iF 32 4 3,iL 33 32,iN 34 33,iB 35 .lss 31 34,iM 36 35,gM 37 7 36 true,gM 38 9 36 true,gK2 39 247 37 38 36 true,iP 40 36 39]
def QK:Rg:=[iM 43 9,iC 44 .add 43 1,iF 45 4 3,iL 46 45,iN 47 46,iB 48 .rem 44 47,iM 9 48]
def QL:Rg:=[iM 41 10,iC 42 .add 41 1,iM 10 42]
def yD:aB:=(.seq (sq YO (.cond (Tm 40) .skip (.exit 4))) (.seq (.block 5 (.region QK)) (.region QL)))
def QM:Rg:=[iM 49 7,iM 50 9,iK2 51 247 49 50,iM 52 51,gM 53 0 52 false,iG 54 (.call 240 [(Tm 53),(Ci 12)]) 52 false,gC 55 .eql 54 0 52 false,iQ 56 52 55]
def yF:Rg:=[iI 9 (-1)]
def yG:Rg:=[iM 57 7,iM 58 9,iA 59 (.buO true 1 1 [(.int .i64 0)] [(0,(Tm 58))]),iA 60 (.append 1 8 (Tm 57) (Tm 59)),iM 7 60]
def yH:Rg:=[iM 24 8,iC 25 .add 24 1,iM 8 25]
def yE:aB:=(.seq (sq YL (.cond (Tm 23) .skip (.exit 2))) (.seq (.block 3 (sq YM (.seq (sq YN (.block 4 (.loop yD))) (.seq (sq QM (.cond (Tm 56) (.region yF) .skip)) (.region yG))))) (.region yH)))
def QN:Rg:=[iM 61 5,iM 62 7,iA 63 (.buO true 1 1 [.buJ] [(0,(Tm 62))]),iA 64 (.append 1 24 (Tm 61) (Tm 63)),iM 5 64]
def QO:Rg:=[iM 16 6,iC 17 .add 16 1,iM 6 17]
def QJ:aB:=(.seq (sq YI (.cond (Tm 15) .skip (.exit 0))) (.seq (.block 1 (sq YJ (.seq (sq YK (.block 2 (.loop yE))) (.region QN)))) (.region QO)))
def QP:Rg:=[iM 65 5,iM 4 65]
def vC:aB:=(sq YF (sq YG (.seq (sq YH (.block 0 (.loop QJ))) (sq QP .ret))))
def aTK:List Nat:=[3,59,63]
def AX:aW:=⟨2,66,vC,[.tmp 4]⟩
def ajT:Rg:=[iA 3 (.box true (Tm 1)),iZ 4]
def ajU:Rg:=[iO 7 7 3,iA 8 (.call 85 [(Tm 7),(.const .buJ)]),iM 5 8]
def ajV:Rg:=[iI 6 0]
def ajW:Rg:=[iM 9 6,iM 10 5,iN 11 10,iB 12 .lss 9 11]
def ajX:Rg:=[iM 15 0,iA 16 (.call 240 [(Tm 15),(Ci 9)])]
def wS:Rg:=[iC 18 .eql 16 0,iM 17 18]
def ajY:Rg:=[iM 19 5,iM 20 6,iX 21 1 19 20,⟨none,.store 1 (Tm 21) (Ci 0),none⟩]
def JK:Rg:=[iC 23 .eql 16 1,iM 22 23]
def ajZ:Rg:=[iM 24 5,iM 25 6,iM 26 0,iM 27 5,iM 28 6,iX 29 1 27 28,iL 30 29,iC 31 .add 30 1,iK2 32 240 26 31,iX 33 1 24 25,iS 1 33 32]
def JL:Rg:=[iM 13 6,iC 14 .add 13 1,iM 6 14]
def YR:aB:=(.seq (sq ajW (.cond (Tm 12) .skip (.exit 0))) (.seq (.block 1 (sq ajX (.block 2 (sq wS (.cond (Tm 17) (.region ajY) (sq JK (.cond (Tm 22) (.region ajZ) .skip))))))) (.region JL)))
def DQ:Rg:=[iM 34 5,iM 4 34]
def yI:aB:=(sq ajT (sq ajU (.seq (sq ajV (.block 0 (.loop YR))) (sq DQ .ret))))
def aXY:List Nat:=[3]
def JJ:aW:=⟨2,35,yI,[.tmp 4]⟩
def asV:Rg:=[iA 2 (.alloc [(.int .i64 0),.buJ,.buJ,.buJ,.buJ,.buJ,.buJ,.buJ,.buJ]),iA 3 (.mv (.const (.lit (.pointer none))))]
def asW:Rg:=[iM 7 0,iA 8 (.build [.buJ,(.int .i64 0)] [(0,1,(Tm 7))]),iA 9 (.box false (Tm 8)),iM 4 9]
def asX:Rg:=[iM 10 4,iA 11 (.call 244 [(Tm 10),(Ci 3)]),iA 5 (.alloc [(.int .i64 0),.buJ,.buJ,.buJ,.buJ,.buJ,.buJ]),iS 7 5 11]
def asY:Rg:=[iM 12 4,iO 13 7 5,iK2 14 246 12 13,iM 6 14]
def asZ:Rd:=[(iO 15 7 5,true),(iM 16 6,true),(iM 17 4,false),(iO 18 7 5,false),(iK2 19 248 17 18,true),(iA 20 (.build [(.int .i64 0),.buJ,.buJ,.buJ,.buJ,.buJ,.buJ,.buJ,.buJ] [(0,7,(Tm 15)),(7,1,(Tm 16)),(8,1,(Tm 19))]),false),(iM 21 4,true),(iS 9 2 20,true),(iM 3 21,false)]
def DL:aB:=(sq asV (sq asW (sq asX (sq asY (dq asZ .ret)))))
def a3S:List Nat:=[]
def YP:aW:=⟨1,22,DL,[.cell 2 (some 9),.tmp 3]⟩
def aFK:Rg:=[iZ 2]
def aFL:Rg:=[iM 4 0,iN 5 4,iM 3 5]
def aFM:Rg:=[iM 6 3,iC 7 .gtr 6 0,iM 8 7,gM 9 0 8 true,gM 10 3 8 true,gC 11 .sub 10 1 8 true,iG 12 (.bvE 1 (Tm 9) (Tm 11)) 8 true,gL 13 12 8 true,iG 14 (.bin .eql (Tm 13) (.const (.int .u32 0))) 8 true,iP 15 8 14]
def aFN:Rg:=[iM 16 3,iC 17 .sub 16 1,iM 3 17]
def aFJ:aB:=(.seq (sq aFM (.cond (Tm 15) .skip (.exit 0))) (.block 1 (.region aFN)))
def VY:Rg:=[iM 18 0,iM 19 3,iA 20 (.slice 1 (Tm 18) none (some (Tm 19)) none),iA 21 (.append 1 4 (.const .buJ) (Tm 20)),iM 2 21]
def HD:aB:=(sq aFK (sq aFL (.seq (.block 0 (.loop aFJ)) (sq VY .ret))))
def a7N:List Nat:=[]
def adM:aW:=⟨1,22,HD,[.tmp 2]⟩
def aEY:Rg:=[iZ 2]
def aEZ:Rg:=[iM 3 0,iA 4 (.conv .u32 (Tm 3)),iM 5 0,iA 6 (.bin .shr (Tm 5) (.const (.int .u64 32))),iA 7 (.conv .u32 (Tm 6)),iA 8 (.buO true 1 2 [(.int .u32 0)] [(0,(Tm 4)),(1,(Tm 7))]),iK 9 38 8,iM 2 9]
def GT:aB:=(sq aEY (sq aEZ .ret))
def a7F:List Nat:=[8]
def adE:aW:=⟨1,10,GT,[.tmp 2]⟩
def anV:Rg:=[iT 2 false]
def anW:Rg:=[iM 3 0,iK 4 38 3,iN 5 4,iC 6 .gtr 5 512,iM 2 6]
def zX:aB:=(sq anV (sq anW .ret))
def a1I:List Nat:=[]
def NM:aW:=⟨1,7,zX,[.tmp 2]⟩
def aPI:Rg:=[iI 4 0]
def aPJ:Rg:=[iM 6 0,iK 7 38 6,iM 8 1,iK 9 38 8,iM 0 7,iM 1 9]
def aPK:Rg:=[iM 10 0,iN 11 10,iM 12 1,iN 13 12,iB 14 .neq 11 13]
def aPL:Rg:=[iM 15 0,iN 16 15,iM 17 1,iN 18 17,iB 19 .lss 16 18]
def aPM:Rg:=[iI 4 (-1)]
def aPN:Rg:=[iI 4 1]
def aPO:Rg:=[iM 20 0,iN 21 20,iC 22 .sub 21 1,iM 5 22]
def aPP:Rg:=[iM 23 5,iC 24 .geq 23 0]
def aPQ:Rd:=[(iM 27 0,false),(iM 28 5,false),(iX 29 1 27 28,false),(iL 30 29,false),(iM 31 1,false),(iM 32 5,false),(iX 33 1 31 32,false),(iL 34 33,false),(iB 35 .lss 30 34,false)]
def aPR:Rg:=[iI 4 (-1)]
def aEK:Rd:=[(iM 36 0,false),(iM 37 5,false),(iX 38 1 36 37,false),(iL 39 38,false),(iM 40 1,false),(iM 41 5,false),(iX 42 1 40 41,false),(iL 43 42,false),(iB 44 .gtr 39 43,false)]
def aEL:Rg:=[iI 4 1]
def aEM:Rg:=[iM 25 5,iC 26 .sub 25 1,iM 5 26]
def aEJ:aB:=(.seq (sq aPP (.cond (Tm 24) .skip (.exit 0))) (.seq (.block 1 (.seq (dq aPQ (.cond (Tm 35) (sq aPR .ret) .skip)) (dq aEK (.cond (Tm 44) (sq aEL .ret) .skip)))) (.region aEM)))
def aEN:Rg:=[iI 4 0]
def NH:aB:=(sq aPI (sq aPJ (.seq (sq aPK (.cond (Tm 14) (.seq (sq aPL (.cond (Tm 19) (sq aPM .ret) .skip)) (sq aPN .ret)) .skip)) (.seq (sq aPO (.block 0 (.loop aEJ))) (sq aEN .ret)))))
def bdF:List Nat:=[]
def aEI:aW:=⟨2,45,NH,[.tmp 4]⟩
def acW:Rg:=[iZ 4,iZ 5]
def acX:Rg:=[iM 20 0,iM 21 1,iK2 22 32 20 21,iC 23 .lss 22 0]
def acY:Rg:=[iM 24 0,iK 25 38 24,iZ 4,iM 5 25]
def acZ:Rg:=[iM 26 1,iN 27 26,iC 28 .eql 27 1]
def GO:Rg:=[iM 29 0,iN 30 29,iA 31 (.buT 1 4 [(.int .u32 0)] (Tm 30) (Tm 30)),iM 6 31]
def GP:Rg:=[iA 7 (.mv (.const (.int .u64 0)))]
def GQ:Rg:=[iM 32 0,iN 33 32,iC 34 .sub 33 1,iM 8 34]
def adA:Rg:=[iM 35 8,iC 36 .geq 35 0]
def adB:Rg:=[iM 39 7,iA 40 (.bin .shl (Tm 39) (.const (.int .u64 32))),iM 41 0,iM 42 8,iX 43 1 41 42,iL 44 43,iA 45 (.conv .u64 (Tm 44)),iB 46 .or 40 45,iM 9 46]
def adC:Rg:=[iM 47 6,iM 48 8,iM 49 9,iM 50 1,iA 51 (.bvE 1 (Tm 50) (Ci 0)),iL 52 51,iA 53 (.conv .u64 (Tm 52)),iB 54 .quo 49 53,iA 55 (.conv .u32 (Tm 54)),iX 56 1 47 48,iS 1 56 55]
def SD:Rg:=[iM 57 9,iM 58 1,iA 59 (.bvE 1 (Tm 58) (Ci 0)),iL 60 59,iA 61 (.conv .u64 (Tm 60)),iB 62 .rem 57 61,iM 7 62]
def SE:Rg:=[iM 37 8,iC 38 .sub 37 1,iM 8 38]
def zL:aB:=(.seq (sq adA (.cond (Tm 36) .skip (.exit 0))) (.seq (.block 1 (sq adB (sq adC (.region SD)))) (.region SE)))
def zM:Rg:=[iM 63 6,iK 64 38 63,iM 65 7,iK 66 35 65,iM 4 64,iM 5 66]
def SF:Rg:=[iM 67 1,iN 68 67,iA 69 (.bin .mul (Ci 32) (Tm 68)),iM 70 1,iK 71 31 70,iB 72 .sub 69 71,iM 10 72]
def SG:Rg:=[iM 73 0,iM 74 10,iK2 75 45 73 74,iA 76 (.buO true 1 2 [(.int .u32 0)] [(0,(.const (.int .u32 0))),(1,(.const (.int .u32 0)))]),iA 77 (.append 1 4 (Tm 75) (Tm 76)),iM 78 1,iM 79 10,iK2 80 45 78 79,iM 11 77,iM 12 80]
def zN:Rg:=[iM 81 11,iM 82 0,iM 83 10,iK2 84 45 82 83,iN 85 84,iC 86 .add 85 1,iA 87 (.slice 1 (Tm 81) none (some (Tm 86)) none),iM 11 87]
def zO:Rg:=[iM 88 12,iM 89 12,iN 90 89,iC 91 .sub 90 1,iX 92 1 88 91,iL 93 92,iA 94 (.conv .u64 (Tm 93)),iM 13 94]
def zP:Rg:=[iM 95 11,iN 96 95,iM 97 12,iN 98 97,iB 99 .sub 96 98,iA 100 (.buT 1 4 [(.int .u32 0)] (Tm 99) (Tm 99)),iM 14 100]
def zQ:Rg:=[iM 101 14,iN 102 101,iC 103 .sub 102 1,iM 15 103]
def SH:Rg:=[iM 104 15,iC 105 .geq 104 0]
def SI:Rd:=[(iM 108 11,false),(iM 109 15,false),(iM 110 12,false),(iN 111 110,false),(iB 112 .add 109 111,false),(iX 113 1 108 112,false),(iL 114 113,false),(iA 115 (.conv .u64 (Tm 114)),false),(iA 116 (.bin .shl (Tm 115) (.const (.int .u64 32))),false),(iM 117 11,false),(iM 118 15,false),(iM 119 12,false),(iN 120 119,false),(iB 121 .add 118 120,false),(iC 122 .sub 121 1,false),(iX 123 1 117 122,false),(iL 124 123,false),(iA 125 (.conv .u64 (Tm 124)),false),(iB 126 .or 116 125,false),(iM 16 126,false)]
def SJ:Rg:=[iM 127 16,iM 128 13,iB 129 .quo 127 128,iM 17 129]
def SK:Rg:=[iM 130 17,iA 131 (.bin .gtr (Tm 130) (.const (.int .u64 4294967295)))]
def SL:Rg:=[iA 17 (.mv (.const (.int .u64 4294967295)))]
def SM:Rd:=[(iM 132 12,true),(iM 133 17,false),(iK 134 35 133,true),(iK2 135 44 132 134,true),(iM 136 11,true),(iM 137 15,true),(iM 138 15,true),(iM 139 12,true),(iN 140 139,true),(iB 141 .add 138 140,true),(iC 142 .add 141 1,true),(iA 143 (.slice 1 (Tm 136) (some (Tm 137)) (some (Tm 142)) none),true),(iA 144 (.append 1 4 (.const .buJ) (Tm 143)),true),(iK2 145 32 135 144,true),(iC 146 .gtr 145 0,false)]
def SN:Rg:=[iM 147 17,iA 148 (.bin .sub (Tm 147) (.const (.int .u64 1))),iM 17 148]
def rT:aB:=(.seq (dq SM (.cond (Tm 146) .skip (.exit 4))) (.block 5 (.region SN)))
def zR:Rg:=[iM 149 11,iM 150 15,iM 151 15,iM 152 12,iN 153 152,iB 154 .add 151 153,iC 155 .add 154 1,iA 156 (.slice 1 (Tm 149) (some (Tm 150)) (some (Tm 155)) none),iA 157 (.append 1 4 (.const .buJ) (Tm 156)),iM 158 12,iM 159 17,iK 160 35 159,iK2 161 44 158 160,iK2 162 42 157 161,iM 18 162]
def zS:Rg:=[iI 19 0]
def SO:Rg:=[iM 163 19,iM 164 12,iN 165 164,iB 166 .leq 163 165]
def SP:Rg:=[iM 169 11,iM 170 15,iM 171 19,iB 172 .add 170 171,iX 173 1 169 172,⟨none,.store 1 (Tm 173) (.const (.int .u32 0)),none⟩]
def SQ:Rg:=[iM 174 19,iM 175 18,iN 176 175,iB 177 .lss 174 176]
def SR:Rg:=[iM 178 11,iM 179 15,iM 180 19,iB 181 .add 179 180,iM 182 18,iM 183 19,iX 184 1 182 183,iL 185 184,iX 186 1 178 181,iS 1 186 185]
def zT:Rg:=[iM 167 19,iC 168 .add 167 1,iM 19 168]
def rU:aB:=(.seq (sq SO (.cond (Tm 166) .skip (.exit 6))) (.seq (.block 7 (sq SP (sq SQ (.cond (Tm 177) (.region SR) .skip)))) (.region zT)))
def zU:Rg:=[iM 187 14,iM 188 15,iM 189 17,iA 190 (.conv .u32 (Tm 189)),iX 191 1 187 188,iS 1 191 190]
def zV:Rg:=[iM 106 15,iC 107 .sub 106 1,iM 15 107]
def rV:aB:=(.seq (sq SH (.cond (Tm 105) .skip (.exit 2))) (.seq (.block 3 (dq SI (sq SJ (.seq (sq SK (.cond (Tm 131) (.region SL) .skip)) (.seq (.block 4 (.loop rT)) (sq zR (.seq (sq zS (.block 6 (.loop rU))) (.region zU)))))))) (.region zV)))
def zW:Rg:=[iM 192 14,iK 193 38 192,iM 194 11,iK 195 38 194,iM 196 10,iK2 197 40 195 196,iM 4 193,iM 5 197]
def wD:aB:=(sq acW (.seq (sq acX (.cond (Tm 23) (sq acY .ret) .skip)) (.seq (sq acZ (.cond (Tm 28) (sq GO (sq GP (.seq (sq GQ (.block 0 (.loop zL))) (sq zM .ret)))) .skip)) (sq SF (sq SG (sq zN (sq zO (sq zP (.seq (sq zQ (.block 2 (.loop rV))) (sq zW .ret))))))))))
def aWN:List Nat:=[76]
def BT:aW:=⟨2,198,wD,[.tmp 4,.tmp 5]⟩
def aPS:Rg:=[iZ 4,iZ 5,iI 6 0]
def aPT:Rg:=[iM 9 0,iK 10 41 9,iM 11 10,gM 12 1 11 false,gK 13 41 12 11 false,iQ 14 11 13]
def aiK:Rg:=[iZ 4,iZ 5,iI 6 2]
def aPU:Rg:=[iM 15 1,iK 16 38 15,iN 17 16,iC 18 .eql 17 0]
def aPV:Rg:=[iZ 4,iZ 5,iI 6 3]
def aPW:Rg:=[iM 20 0,iK 21 38 20,iM 22 1,iK 23 38 22,iK2 24 39 21 23,iM 19 24,iE 25 19 0,iE 26 19 1,iM 7 25,iM 8 26]
def aPX:Rg:=[iM 27 7,iM 28 8,iM 4 27,iM 5 28,iI 6 0]
def NI:aB:=(sq aPS (.seq (sq aPT (.cond (Tm 14) (sq aiK .ret) .skip)) (.seq (sq aPU (.cond (Tm 18) (sq aPV .ret) .skip)) (sq aPW (sq aPX .ret)))))
def bdH:List Nat:=[]
def udiv:aW:=⟨2,29,NI,[.tmp 4,.tmp 5,.tmp 6]⟩
def aPZ:Rg:=[iZ 4,iI 5 0]
def aQA:Rg:=[iM 10 0,iK 11 41 10,iM 12 11,gM 13 1 12 false,gK 14 41 13 12 false,iQ 15 12 14]
def aiL:Rg:=[iZ 4,iI 5 2]
def aQB:Rg:=[iM 16 0,iK 17 38 16,iM 18 1,iK 19 38 18,iM 6 17,iM 7 19]
def aQC:Rg:=[iM 20 7,iN 21 20,iC 22 .gtr 21 0]
def aQD:Rg:=[iM 24 6,iM 25 7,iK2 26 39 24 25,iM 23 26,iE 27 23 0,iE 28 23 1,iM 8 27,iM 9 28]
def aQE:Rg:=[iM 29 7,iM 30 9,iM 6 29,iM 7 30]
def aPY:aB:=(.seq (sq aQC (.cond (Tm 22) .skip (.exit 0))) (.block 1 (sq aQD (.region aQE))))
def aQF:Rg:=[iM 31 6,iM 4 31,iI 5 0]
def NL:aB:=(sq aPZ (.seq (sq aQA (.cond (Tm 15) (sq aiL .ret) .skip)) (sq aQB (.seq (.block 0 (.loop aPY)) (sq aQF .ret)))))
def bdJ:List Nat:=[]
def aEX:aW:=⟨2,32,NL,[.tmp 4,.tmp 5]⟩
def adQ:Rg:=[iA 6 (.alloc [(.bool false),.buJ,.buJ])]
def adR:Rg:=[iM 9 1,iK 10 38 9,iM 11 2,iK 12 38 11,iM 1 10,iM 2 12]
def adS:Rg:=[iM 13 1,iN 14 13,iC 15 .eql 14 0]
def adT:Rg:=[iA 16 (.buO true 1 1 [(.int .u32 0)] [(0,(.const (.int .u32 1)))]),iA 17 (.build [(.bool false),.buJ,.buJ] [(2,1,(Tm 16))]),iS 3 6 17]
def adU:Rg:=[iM 19 1,iM 20 2,iK2 21 34 19 20,iM 18 21,iE 22 18 0,iE 23 18 1,iM 7 22,iM 8 23]
def adV:Rg:=[iM 24 7,iN 25 24,iC 26 .gtr 25 1,iM 27 26,gM 28 7 27 false,iG 29 (.bvE 1 (Tm 28) (Ci 0)) 27 false,gL 30 29 27 false,iG 31 (.bin .gtr (Tm 30) (.const (.int .u32 1))) 27 false,iQ 32 27 31]
def HG:Rg:=[iM 34 1,iM 35 7,iK2 36 33 34 35,iM 33 36,iE 37 33 0,iE 38 33 1,iE 39 33 2,iM 1 37]
def HH:Rg:=[iM 41 2,iM 42 7,iK2 43 33 41 42,iM 40 43,iE 44 40 0,iE 45 40 1,iE 46 40 2,iM 2 44]
def tX:Rg:=[iM 47 0,iM 48 1,iM 49 2,iA 50 (.build [(.bool false),.buJ,.buJ] [(0,1,(Tm 47)),(1,1,(Tm 48)),(2,1,(Tm 49))]),iS 3 6 50]
def wF:aB:=(sq adQ (sq adR (.seq (sq adS (.cond (Tm 15) (sq adT .ret) .skip)) (.seq (sq adU (sq adV (.cond (Tm 32) (sq HG (.region HH)) .skip))) (sq tX .ret)))))
def aWV:List Nat:=[16]
def BV:aW:=⟨3,51,wF,[.cell 6 (some 3)]⟩
def aGK:Rg:=[iA 2 (.mv (.const (.int .u64 0)))]
def aGL:Rg:=[iM 3 0,iC 4 .lss 3 0]
def aGM:Rg:=[iM 5 0,iC 6 .add 5 1,iA 7 (.un .neg (Tm 6)),iA 8 (.conv .u64 (Tm 7)),iA 9 (.bin .add (Tm 8) (.const (.int .u64 1))),iM 2 9]
def aGN:Rg:=[iM 10 0,iA 11 (.conv .u64 (Tm 10)),iM 2 11]
def HL:aB:=(sq aGK (.seq (sq aGL (.cond (Tm 4) (sq aGM .ret) .skip)) (sq aGN .ret)))
def a8B:List Nat:=[]
def aeC:aW:=⟨1,12,HL,[.tmp 2]⟩
def aFY:Rg:=[iA 4 (.alloc [(.bool false),.buJ,.buJ]),iI 5 0]
def aFZ:Rg:=[iM 6 1,iC 7 .eql 6 0]
def aGA:Rg:=[iA 8 (.build [(.bool false),.buJ,.buJ] []),iS 3 4 8,iI 5 3]
def aGB:Rg:=[iM 9 0,iC 10 .lss 9 0,iM 11 1,iC 12 .lss 11 0,iA 13 (.eqb true (Tm 10) (Tm 12)),iM 14 0,iK 15 59 14,iK 16 35 15,iM 17 1,iK 18 59 17,iK 19 35 18,iA 20 (.call 58 [(Tm 13),(Tm 16),(Tm 19)]),iS 3 4 20,iI 5 0]
def HI:aB:=(sq aFY (.seq (sq aFZ (.cond (Tm 7) (sq aGA .ret) .skip)) (sq aGB .ret)))
def a7V:List Nat:=[]
def QD:aW:=⟨2,21,HI,[.cell 4 (some 3),.tmp 5]⟩
def aRF:Rg:=[iA 2 (.alloc [(.bool false),.buJ,.buJ])]
def aRG:Rg:=[iM 6 0,iA 7 (.call 50 [(Tm 6),(Ci 1)]),iM 5 7,iE 8 5 0,iE 9 5 1,iA 3 (.alloc [(.bool false),.buJ,.buJ]),iS 3 3 8,iM 4 9]
def aRH:Rg:=[iO 10 3 3,iS 3 2 10]
def OB:aB:=(sq aRF (sq aRG (sq aRH .ret)))
def bdV:List Nat:=[]
def aFV:aW:=⟨1,11,OB,[.cell 2 (some 3)]⟩
def utF (xs:List Nat) (n:Nat):PF:=((PF.nil.set 0 (aD xs)).set 3 (.int .i64 n))
theorem a7M {C:Ctx} (xs:List Nat) (hx:Lim xs) (hl:xs.length≤35184372087808):HD.wp C (aS adM.res (jV 1 (aG (aF (val xs))))) (PF.args [aD xs]) .nil:=by
 simp only[go_sem,γ,reduceCtorEq,HD,aFK,aFL,adM,bwN]
 refine wp_loop (α:=Nat) (fun n=>utF xs n) (fun _=>.nil) (fun n=>n≤xs.length∧∀ j x,n≤j→xs[j]?=some x→x=0) (fun n=>n) xs.length ⟨bwR _,fun j x hj hxj=>?_⟩ ?_ PH.nil_le ?_
 ·rw[bxY hj] at hxj; cases hxj
 ·unfold utF
  exact Lq
 rintro n ⟨hn,hz⟩
 have done:(0<n→∀ h:n-1<xs.length,xs[n-1]≠0)→∀ F:PF,(utF xs n).le F→aB.wp C (.seq (.region VY) .ret) (aS [.tmp 2] (jV 1 (aG (aF (val xs))))) F .nil:=by
  intro h F hF
  have f0:F 0=some (aD xs):=hF 0 _ (by unfold utF; simp only[go_sem,reduceCtorEq])
  have f3:F 3=some (.int .i64 n):=hF 3 _ (by unfold utF; simp only[go_sem,reduceCtorEq])
  have ht:xs.take n=aF (val xs):=GL hx hn hz fun x h0 hxj=>by
   rw[bxA Om] at hxj
   injection hxj with hxj
   subst hxj
   exact h h0 Om
  have hc:((n:Nat):Int)≤(xs.length:Nat):=by omega
  simp only[go_sem,ν,γ,reduceCtorEq,VY,f0,f3,bwN,hc,or_true,bxP]
  refine fN (rows:=[]) (src:=aG (aF (val xs))) .nil ?_ ?_ fun v H' ho _=>?_
  ·simp only[go_sem]
   rw[← ht,← List.map_take]
  ·unfold roomFor
   rw[bO,← ht,bxE]
   simp only[byV,maxLen]
   omega
  ·exact FY (.inr rfl) (by simpa using ho) rfl
 simp only[aB.wp,go_sem] at done
 simp only[go_sem,γ,reduceCtorEq,aFJ,aFM,utF]
 by_cases h0:0<n
 ·have h0':((n:Nat):Int)>0:=by omega
  have hlt:n-1<xs.length:=by omega
  have hat:=bG xs hlt
  have hw:IntKind.i64.wrap ((n:Int)-1)=((n-1:Nat):Int):=sR Om h0
  simp only[go_sem,γ,reduceCtorEq,h0',hw,hat]
  by_cases c:xs[n-1]=0
  ·simp only[go_sem,γ,reduceCtorEq,bX (Om:((xs[n-1]:Nat):Int)=0),aFN,hw]
   refine aJ (n-1) ⟨by omega,fun j x hj hxj=>?_⟩ Om ?_ PH.nil_le
   ·by_cases e:j=n-1
    ·subst e
     rw[bxA hlt] at hxj
     injection hxj with hxj
     omega
    ·exact hz j x Om hxj
   ·exact Lq
  ·simp only[go_sem,bD (Om:((xs[n-1]:Nat):Int)≠0)]
   exact done (fun _ _=>c) _ (by unfold utF; exact Lq)
 ·have h0':¬ ((n:Nat):Int)>0:=by omega
  simp only[go_sem,γ,reduceCtorEq,h0']
  exact done (fun h=>absurd h h0) _ (by unfold utF; exact Lq)
structure mT (C:Ctx):Prop where
 trimM:∀ xs,Lim xs→xs.length≤35184372087808→aE C 38 [aD xs] .nil (jV 1 (aG (aF (val xs))))
theorem mT.trim {C:Ctx} (L:mT C) (xs:List Nat) (hx:Lim xs) (hl:xs.length≤35184372087808):aE C 38 [aD xs] .nil (aC (aD (aF (val xs)))):=(L.trimM xs hx hl).freeze
theorem a7E {C:Ctx} (L:mT C) (v:Nat) (hv:v<18446744073709551616):GT.wp C (aS adE.res (bV (aD (aF v)))) (PF.args [.int .u64 v]) .nil:=by
 have e1:IntKind.u32.wrap ((v:Nat):Int)=((v%4294967296:Nat):Int):=bY v
 have hd:v/4294967296<4294967296:=by omega
 have e3:IntKind.u32.wrap ((v/4294967296:Nat):Int)=((v/4294967296:Nat):Int):=by rw[bY,bxR hd]
 have hL:Lim [v%4294967296,v/4294967296]:=by
  intro x hx
  simp only[bxF,List.mem_nil_iff,or_false] at hx
  rcases hx with rfl | rfl
  ·exact bxX _ (by decide)
  ·exact hd
 have bvC:val [v%4294967296,v/4294967296]=v:=by simp only[val,Nat.mul_zero,byB]; exact Nat.mod_add_div v 4294967296
 have hsh:shift .shr .u64 (v:Int) 32=some (.int .u64 ((v/4294967296:Nat):Int)):=tU
 have hb:(2:Nat)*1≤16777216:=by decide
 simp only[go_sem,υ,δ,γ,η,ζ,reduceCtorEq,GT,aEY,aEZ,adE,e1,hsh,e3,hb]
 have ht:=L.trim [v%4294967296,v/4294967296] hL (by simp)
 rw[bvC] at ht
 refine aA ht rfl ?_
 simp only[go_sem,γ]
 exact aU (.inr rfl) .nil rfl PH.nil_le ⟨.refl _,rfl⟩
theorem a1H {C:Ctx} (L:mT C) (xs:List Nat) (hx:Lim xs) (hl:xs.length≤35184372087808):zX.wp C (aS NM.res (bV (.bool (decide (nl (val xs)>512))))) (PF.args [aD xs]) .nil:=by
 simp only[go_sem,reduceCtorEq,zX,anV,anW,NM]
 refine aA (L.trim xs hx hl) rfl ?_
 simp only[go_sem,γ,bwN,aV]
 refine aY rfl ?_
 rw[decide_eq_decide]
 omega
theorem aTD {a b:Nat} (h:nl a<nl b):cW a b=-1:=by
 have:a<b:=by
  rcases bxG a b with h' | h'
  ·exact h'
  ·have:=eU h'; omega
 simp[cW,this]
theorem aTC {a b:Nat} (h:nl b<nl a):cW a b=1:=by
 have:b<a:=by
  rcases bxG b a with h' | h'
  ·exact h'
  ·have:=eU h'; omega
 have h2:¬ a<b:=by omega
 simp[cW,this,h2]
def aWK (X Y:List Nat) (i:Int):PF:=(((PF.nil.set 0 (aD X)).set 1 (aD Y)).set 5 (.int .i64 i))
theorem bdE {C:Ctx} (L:mT C) (xs ys:List Nat) (hx:Lim xs) (hy:Lim ys) (lx:xs.length≤35184372087808) (ly:ys.length≤35184372087808) :
  NH.wp C (aS aEI.res (aC (.int .i64 (cW (val xs) (val ys))))) (PF.args [aD xs,aD ys]) .nil:=by
 simp only[go_sem,reduceCtorEq,NH,aPI,aPJ,aEI]
 refine aA (L.trim xs hx lx) Ev ?_
 simp only[go_sem,γ]
 refine aA (L.trim ys hy ly) Ev ?_
 have bx:=eN hx
 have by':=eN hy
 simp only[go_sem,γ,reduceCtorEq,aPK,bwN,aV]
 by_cases c0:nl (val xs)≠nl (val ys)
 ·simp only[go_sem,γ,reduceCtorEq,dA (show ((nl (val xs):Nat):Int)≠(nl (val ys):Nat) by omega),aPL]
  by_cases c1:nl (val xs)<nl (val ys)
  ·simp only[go_sem,ο,bwN,aV,show ((nl (val xs):Nat):Int)<(nl (val ys):Nat) by omega,aPM]
   refine aI (.inr rfl) Ev ?_
   rw[aTD c1]; rfl
  ·simp only[go_sem,bwN,aV,show ¬ ((nl (val xs):Nat):Int)<(nl (val ys):Nat) by omega,aPN]
   refine aI (.inr rfl) Ev ?_
   rw[aTC Om]; rfl
 replace c0:=Decidable.of_not_not c0
 simp only[go_sem,γ,reduceCtorEq,cO (show ((nl (val xs):Nat):Int)=(nl (val ys):Nat) by omega),aPO,bwN,aV]
 have ex:=aQ (val xs)
 have ey:=aQ (val ys)
 have LX:=aR (val xs)
 have LY:=aR (val ys)
 generalize hX:aF (val xs)=X at *
 generalize hY:aF (val ys)=Y at *
 have hlX:X.length=nl (val xs):=by rw[← hX]; rfl
 have hlY:Y.length=nl (val xs):=by rw[c0,← hY]; rfl
 refine wp_loop (α:=Nat) (fun k=>aWK X Y ((k:Int)-1)) (fun _=>.nil) (fun k=>k≤nl (val xs)∧X.drop k=Y.drop k) (fun k=>k) (nl (val xs)) ⟨bwR _,?_⟩ ?_ PH.nil_le ?_
 ·rw[bzU Om,bzU Om]
 ·unfold aWK
  (repeat' (first|exact PF.nil_le|refine PF.aH ?_ ?_))<;>first|(simp only[go_sem,γ,reduceCtorEq,wrap_i64 (show -9223372036854775808≤((nl (val xs):Nat):Int)-1 by omega) (show ((nl (val xs):Nat):Int)-1≤9223372036854775807 by omega)]<;>rfl)|rfl
 rintro k ⟨hk,hd⟩
 simp only[go_sem,γ,reduceCtorEq,aEJ,aPP,aWK]
 by_cases h0:0<k
 ·obtain⟨m,rfl⟩:∃ m,k=m+1:=⟨k-1,by omega⟩
  have hz:((m+1:Nat):Int)-1=(m:Int):=by omega
  have hge:(m:Int)≥0:=by omega
  have x1:m<X.length:=by omega
  have y1:m<Y.length:=by omega
  simp only[go_sem,hz,hge]
  refine bM .nil dV PH.nil_le ?_
  simp only[go_sem,γ,reduceCtorEq,aPQ,bG X x1,bG Y y1]
  by_cases c3:X[m]<Y[m]
  ·simp only[go_sem,ο,show ((X[m]:Nat):Int)<(Y[m]:Nat) by omega,aPR]
   refine aI (.inr rfl) Ev ?_
   have:=XE LX x1 y1 hd c3
   rw[ex,ey] at this
   simp[aT,cW,this]
  ·simp only[go_sem,show ¬ ((X[m]:Nat):Int)<(Y[m]:Nat) by omega]
   refine bM .nil dV PH.nil_le ?_
   simp only[go_sem,γ,reduceCtorEq,aEK,bG X x1,bG Y y1]
   by_cases c4:X[m]>Y[m]
   ·simp only[go_sem,show ((X[m]:Nat):Int)>(Y[m]:Nat) by omega,aEL]
    refine aI (.inr rfl) Ev ?_
    have:=XE LY y1 x1 hd.symm c4
    rw[ex,ey] at this
    have h2:¬ val xs<val ys:=by omega
    simp[aT,cW,this,h2]
   ·simp only[go_sem,γ,reduceCtorEq,show ¬ ((X[m]:Nat):Int)>(Y[m]:Nat) by omega,aEM]
    refine aJ m ⟨by omega,akA x1 y1 hd Om⟩ Om ?_ PH.nil_le
    (repeat' (first|exact PF.nil_le|refine PF.aH ?_ ?_))<;>first|(simp only[go_sem,γ,reduceCtorEq,wrap_i64 (Om:-9223372036854775808≤(m:Int)-1) (Om:(m:Int)-1≤9223372036854775807)]<;>rfl)|rfl
 ·have:k=0:=by omega
  subst this
  have hz:¬ ((0:Nat):Int)-1≥0:=by decide
  simp only[go_sem,hz,aEN]
  refine aI (.inr rfl) Ev ?_
  rw[bxP,bxP] at hd
  have:val xs=val ys:=by rw[← ex,← ey,hd]
  simp[aT,cW,this]
theorem xR (n:Nat):(((n:Nat):Int)==0)=decide (n=0):=by
 by_cases h:n=0
 ·subst h; rfl
 ·rw[bD Om,decide_eq_false h]
structure arH (C:Ctx):Prop extends mT C where
 make:∀ v:Nat,v<18446744073709551616→aE C 35 [.int .u64 v] .nil (aC (aD (aF v)))
 large:∀ xs,Lim xs→xs.length≤35184372087808→aE C 41 [aD xs] .nil (aC (.bool (decide (nl (val xs)>512))))
 cmp:∀ xs ys,Lim xs→Lim ys→xs.length≤35184372087808→ys.length≤35184372087808→aE C 32 [aD xs,aD ys] .nil (aC (.int .i64 (cW (val xs) (val ys))))
end Go.PM
