/-
  Texts of ours, joined: MdCode R1Code R1W1 R1W2 R1W3 R1W4 MkPlain MdPlain Mv1 MdP2 MkCode MkW1 MkW2 MkW3 MkW4 MkW5 MkW6 MkW7 MkW8 MkW9 MkW10 MkW11 MkW12 MkW13 MkW14 MkW15 MkW16 MdW1 MdW2 MdW3 MdW4 MdW5 MdW6 MdW7 MdW8 Mv2 Mv3. No condition.
-/
import Derived.Test.YthbkofcdddghgaaGreatREnds1
import Derived.Test.YthbkofcdddghgaaGreatREnds2
import Derived.Test.YthbkofcdddghgaaGreatREnds3
import Derived.Lib.ItoaNum
import Derived.Shelf.Sort.Plain
import Derived.Shelf.Slices.CompactI
import Derived.Shelf.Slices.In.SortNone
set_option linter.unusedSimpArgs false
set_option linter.unusedVariables false
open Nat renaming reduceEqDiff → γ, reduceAdd → δ, reduceSub → ε, reduceMul → ζ, reduceLT → η, reduceLeDiff → θ, reduceBEq → τ
open Int renaming reduceLT → ι, reduceLE → κ, reduceEq → μ, reduceToNat → ν, reduceAdd → ξ, reduceNeg → ο, reduceBEq → ρ, reduceBNe → σ
open List renaming reduceReplicate → υ
open List renaming length_map → bIM, range → bIN, replicate → bIP, getElem_mem → bIR, length_append → bIU, getElem?_eq_getElem → bIW, mem_cons → bJA, length_singleton → bJC, take_of_length_le → bJD, length_take → bJF, getD_eq_getElem?_getD → bJG, all_eq_true → bJJ, append_assoc → bJM, take_length → bJN, drop_zero → bJO, getElem?_map → bJQ, not_mem_nil → bJR, mem_map → bJT, mem_singleton → bJU, getElem?_eq_some_iff → bJX, mem_append → bJY, getElem?_eq_none → bJZ, mem_range → bKB, drop_eq_getElem_cons → bKG, length_cons → bKH, length_set → bKI, map_append → bKJ, take_succ_eq_append_getElem → bKK, append_nil → bKM, length_drop → bKN, getElem_of_mem → bKQ, Sublist → bKS, getElem?_append_right → bKT, getElem_map → bKU, map_cons → bKV, nodup_append → bKW, length_nil → bKY, take_append_drop → bKZ, getElem?_append_left → bLC, mem_of_getElem? → bLD, nil_append → bLF, getElem?_take → bLP, drop_of_length_le → bLU, flatten_cons → bLV, getElem?_drop → bLW, length_replicate → bLX, set_append_right → bLY, eq_nil_of_length_eq_zero → bLZ, getElem?_take_of_lt → bMA
open Nat renaming le_refl → bIO, gcd → bIQ, zero_le → bIX, mul_add → bIZ, lt_or_ge → bJE, mul_assoc → bJH, mul_comm → bJK, zero_add → bJL, add_mul → bJP, mul_le_mul_right → bJS, mod_eq_of_lt → bJV, mod_lt → bKA, add_zero → bKD, pow_succ → bKE, min_eq_left → bKO, mul_le_mul_left → bKP, pos_of_ne_zero → bKR, add_assoc → bKX, pow_pos → bLA, div_lt_iff_lt_mul → bLG, sub_self → bLH, eq_zero_or_pos → bLK, div_add_mod → bLQ, div_eq_of_lt → bLR
open Bool renaming false_and → bIS, not_true → bIV, true_and → bIY, not_false → bJB, and_eq_true → bJI, and_false → bKC, and_true → bKL, and_assoc → bLJ, false_eq_true → bLL
open Option renaming map_eq_some_iff → bIT, map_some → bJW, some → bLB, getD_some → bLE, bind_eq_some_iff → bLN, bind_some → bLS
open Array renaming replicate → bKF, length_toList → bLI, getElem?_eq_getElem → bLO, getElem?_eq_some_iff → bLT
open Int renaming toNat_natCast → bLM
namespace Go.PM
open Go
def avK:Rg:=[iI 4 0]
def avL:Rg:=[iM 7 0,iA 8 (.bGX (Tm 7)),iF 9 1 8,iL 10 9,iC 11 .rem 10 3,iM 5 11]
def avM:Rd:=[(iM 12 0,false),(iA 13 (.bGX (Tm 12)),false),(iF 14 1 13,false),(iL 15 14,false),(iM 16 0,false),(iA 17 (.bGX (Tm 16)),false),(iF 18 0 17,false),(iL 19 18,false),(iN 20 19,false),(iB 21 .lss 15 20,false)]
def avN:Rd:=[(iM 22 0,false),(iA 23 (.bGX (Tm 22)),false),(iF 24 0 23,false),(iL 25 24,false),(iM 26 0,false),(iA 27 (.bGX (Tm 26)),false),(iF 28 1 27,false),(iL 29 28,false),(iX 30 1 25 29,false),(iL 31 30,false),(iM 5 31,false)]
def UL:Rg:=[iM 32 0,iA 33 (.bGX (Tm 32)),iF 34 1 33,iL 35 34,iC 36 .add 35 1,iA 37 (.bGX (Tm 32)),iF 38 1 37,iS 1 38 36]
def UM:Rg:=[iM 39 1,iC 40 .lss 39 1]
def UN:Rg:=[iI 4 0]
def UO:Rg:=[iM 41 5,iM 42 1,iB 43 .rem 41 42,iM 6 43]
def UP:Rg:=[iM 44 6,iC 45 .lss 44 0]
def UQ:Rg:=[iM 46 6,iM 47 1,iB 48 .add 46 47,iM 4 48]
def KB:Rg:=[iM 49 6,iM 4 49]
def EF:aC:=(sq avK (sq avL (.seq (dq avM (.cond (Tm 21) (.draw avN) .skip)) (sq UL (.seq (sq UM (.cond (Tm 40) (sq UN .ret) .skip)) (sq UO (.seq (sq UP (.cond (Tm 45) (sq UQ .ret) .skip)) (sq KB .ret))))))))
def bdB:List Nat:=[]
def EE:aV:=⟨2,50,EF,[.tmp 4]⟩
def auX:Rg:=[iA 4 (.alloc [(.bool false),.aB,.aB])]
def auY:Rg:=[iM 8 0,iM 9 1,iK2 10 50 8 9,iM 7 10,iE 11 7 0,iE 12 7 1,iA 5 (.alloc [(.bool false),.aB,.aB]),iS 3 5 11,iM 6 12]
def auZ:Rg:=[iO 13 3 5,iS 3 4 13]
def EA:aC:=(sq auX (sq auY (sq auZ .ret)))
def bcS:List Nat:=[]
def ZI:aV:=⟨2,14,EA,[.cell 4 (some 3)]⟩
def avI:Rg:=[iA 4 (.mv (.const (.str [])))]
def avJ:Rg:=[iM 5 0,iM 6 1,iC 7 .quo 6 26,iC 8 .rem 7 26,iA 9 (.bin .add (Ci 97) (Tm 8)),iA 10 (.conv .u8 (Tm 9)),iM 11 1,iC 12 .rem 11 26,iA 13 (.bin .add (Ci 97) (Tm 12)),iA 14 (.conv .u8 (Tm 13)),iA 15 (.bGO true 1 3 [(.int .u8 0)] [(0,(Tm 5)),(1,(Tm 10)),(2,(Tm 14))]),iA 16 (.bGY (Tm 15)),iM 4 16]
def ED:aC:=(sq avI (sq avJ .ret))
def bcZ:List Nat:=[15]
def ZU:aV:=⟨2,17,ED,[.tmp 4]⟩
def aLP:Rg:=[iI 8 0]
def aLQ:Rg:=[iM 10 0,iA 11 (.bGX (Tm 10)),iF 12 3 11,iL 13 12,iN 14 13,iM 9 14]
def aLR:Rd:=[(iM 15 0,true),(iM 16 0,true),(iA 17 (.bGX (Tm 16)),true),(iF 18 3 17,true),(iL 19 18,true),(iM 20 9,false),(iA 21 (.call 242 [(.const (.int .u8 110)),(Tm 20)]),true),(iM 22 1,true),(iM 23 2,true),(iM 24 3,true),(iA 25 (.call 241 [(Ci 0),(Ci 1)]),true),(iA 26 (.build [(.str []),(.int .i64 0),(.int .i64 0),(.int .i64 0),(.bool false),.aB,.aB] [(0,1,(Tm 21)),(1,1,(Tm 22)),(2,1,(Tm 23)),(3,1,(Tm 24)),(4,3,(Tm 25))]),false),(iA 27 (.bGO true 7 1 [(.str []),(.int .i64 0),(.int .i64 0),(.int .i64 0),(.bool false),.aB,.aB] [(0,(Tm 26))]),false),(iA 28 (.append 7 96 (Tm 19) (Tm 27)),true),(iA 29 (.bGX (Tm 15)),false),(iF 30 3 29,false)]
def aLS:Rd:=[(iS 1 30 28,true)]
def aLT:Rg:=[iM 31 9,iM 8 31]
def JX:aC:=(sq aLP (sq aLQ (.seq (dq aLR (.draw aLS)) (sq aLT .ret))))
def bkB:List Nat:=[27]
def auV:aV:=⟨4,32,JX,[.tmp 8]⟩
def akO:Rg:=[iA 4 (.alloc [(.int .i64 0),.aB,.aB,.aB,.aB,.aB,.aB])]
def akP:Rg:=[iM 20 0,iA 21 (.call 240 [(Tm 20),(Ci 2)]),iA 22 (.bin .add (Ci 1) (Tm 21)),iA 23 (.build [(.int .i64 0),.aB,.aB,.aB,.aB,.aB,.aB] [(0,1,(Tm 22))]),iA 5 (.alloc [(.int .i64 0),.aB,.aB,.aB,.aB,.aB,.aB]),iS 7 5 23]
def akQ:Rg:=[iA 24 (.call 241 [(Ci 1),(Ci 1)]),iA 25 (.bGO true 3 1 [(.bool false),.aB,.aB] [(0,(Tm 24))]),iA 26 (.call 241 [(Ci 0),(Ci 1)]),iA 27 (.bGO true 3 1 [(.bool false),.aB,.aB] [(0,(Tm 26))]),iA 28 (.bGO true 1 1 [.aB] [(0,(Tm 27))]),iM 29 0,iA 30 (.call 240 [(Tm 29),(Ci 100)]),iA 31 (.bin .add (Ci 100) (Tm 30)),iA 32 (.call 241 [(Ci 1),(Tm 31)]),iA 33 (.bGO true 3 1 [(.bool false),.aB,.aB] [(0,(Tm 32))]),iA 34 (.build [(.str []),.aB,.aB,.aB] [(0,1,(.const (.str [100,105,115,107]))),(1,1,(Tm 25)),(2,1,(Tm 28)),(3,1,(Tm 33))]),iA 35 (.bGO true 4 1 [(.str []),.aB,.aB,.aB] [(0,(Tm 34))]),iF 36 1 5,iS 1 36 35]
def akR:Rg:=[iM 37 0,iA 38 (.call 240 [(Tm 37),(Ci 2)]),iA 39 (.bin .add (Ci 3) (Tm 38)),iM 40 0,iA 41 (.call 240 [(Tm 40),(Ci 9)]),iA 42 (.bin .add (Ci 8) (Tm 41)),iA 43 (.build [(.str []),(.int .i64 0),(.int .i64 0),(.int .i64 0)] [(0,1,(.const (.str [98,105,103]))),(1,1,(Tm 39)),(2,1,(Tm 42)),(3,1,(Ci 0))]),iM 44 0,iA 45 (.call 240 [(Tm 44),(Ci 3)]),iA 46 (.bin .add (Ci 1) (Tm 45)),iM 47 0,iA 48 (.call 240 [(Tm 47),(Ci 9)]),iA 49 (.bin .add (Ci 4) (Tm 48)),iA 50 (.build [(.str []),(.int .i64 0),(.int .i64 0),(.int .i64 0)] [(0,1,(.const (.str [111,108,100]))),(1,1,(Tm 46)),(2,1,(Tm 49)),(3,1,(Ci 0))]),iA 51 (.bGO true 4 2 [(.str []),(.int .i64 0),(.int .i64 0),(.int .i64 0)] [(0,(Tm 43)),(1,(Tm 50))]),iF 52 2 5,iS 1 52 51]
def akS:Rg:=[iA 53 (.call 241 [(Ci 0),(Ci 1)]),iA 54 (.build [(.str []),(.int .i64 0),(.int .i64 0),(.int .i64 0),(.bool false),.aB,.aB] [(2,1,(Ci (-1))),(4,3,(Tm 53))]),iA 55 (.bGO false 7 1 [(.str []),(.int .i64 0),(.int .i64 0),(.int .i64 0),(.bool false),.aB,.aB] [(0,(Tm 54))]),iF 56 3 5,iS 1 56 55]
def akT:Rg:=[iM 57 0,iA 58 (.call 240 [(Tm 57),(Ci 3)]),iA 59 (.bin .add (Ci 3) (Tm 58)),iM 6 59]
def akU:Rg:=[iI 7 0,iI 8 0,iI 9 0]
def akV:Rg:=[iI 10 0]
def akW:Rg:=[iM 60 10,iM 61 6,iB 62 .lss 60 61]
def akX:Rg:=[iM 65 10,iC 66 .eql 65 0,iM 67 66,gM 68 0 67 false,iG 69 (.call 240 [(Tm 68),(Ci 4)]) 67 false,gC 70 .eql 69 0 67 false,iQ 71 67 70]
def DL:Rg:=[iM 72 0,iA 73 (.call 240 [(Tm 72),(Ci 17)]),iA 74 (.bin .add (Ci 16) (Tm 73)),iA 75 (.call 243 [(Tm 5),(Ci 1),(Ci 0),(Tm 74)]),iM 7 75]
def DM:Rg:=[iM 76 7,iM 77 0,iA 78 (.call 240 [(Tm 77),(Ci 17)]),iA 79 (.bin .add (Ci 16) (Tm 78)),iA 80 (.call 243 [(Tm 5),(Ci 2),(Tm 76),(Tm 79)]),iM 8 80]
def DN:Rg:=[iM 81 8,iM 82 0,iA 83 (.call 240 [(Tm 82),(Ci 9)]),iA 84 (.bin .add (Ci 8) (Tm 83)),iA 85 (.call 243 [(Tm 5),(Ci 3),(Tm 81),(Tm 84)]),iM 9 85]
def YN:Rg:=[iM 86 0,iA 87 (.call 240 [(Tm 86),(Ci 2)]),iC 88 .eql 87 0]
def YO:Rg:=[iM 89 8,iM 90 0,iA 91 (.call 240 [(Tm 90),(Ci 9)]),iA 92 (.bin .add (Ci 8) (Tm 91)),iA 93 (.call 243 [(Tm 5),(Ci 3),(Tm 89),(Tm 92)]),iM 9 93]
def tR:Rg:=[iM 94 9,iM 95 0,iA 96 (.call 240 [(Tm 95),(Ci 9)]),iA 97 (.bin .add (Ci 8) (Tm 96)),iA 98 (.call 243 [(Tm 5),(Ci 4),(Tm 94),(Tm 97)]),iM 11 98]
def tT:Rg:=[iM 99 0,iA 100 (.call 240 [(Tm 99),(Ci 2)]),iA 101 (.bin .add (Ci 1) (Tm 100)),iM 12 101]
def YP:Rg:=[iM 102 12,iC 103 .gtr 102 0,iM 104 103,gF 105 4 5 104 true,gL 106 105 104 true,gN 107 106 104 true,gC 108 .lss 107 9 104 true,iP 109 104 108]
def YQ:Rg:=[iI 13 0]
def YR:Rg:=[iM 112 0,iA 113 (.call 240 [(Tm 112),(Ci 4)]),iC 114 .eql 113 0]
def YS:Rg:=[iI 13 1]
def DO:Rd:=[(iF 115 4 5,true),(iL 116 115,true),(iF 117 4 5,false),(iL 118 117,false),(iN 119 118,false),(iA 120 (.call 242 [(.const (.int .u8 100)),(Tm 119)]),true),(iM 121 13,true),(iM 122 11,true),(iA 123 (.build [(.str []),(.int .i64 0),(.int .i64 0)] [(0,1,(Tm 120)),(1,1,(Tm 121)),(2,1,(Tm 122))]),false),(iA 124 (.bGO true 3 1 [(.str []),(.int .i64 0),(.int .i64 0)] [(0,(Tm 123))]),false),(iA 125 (.append 3 32 (Tm 116) (Tm 124)),true),(iF 126 4 5,false)]
def DP:Rd:=[(iS 1 126 125,true)]
def DQ:Rg:=[iM 110 12,iC 111 .sub 110 1,iM 12 111]
def qE:aC:=(.seq (sq YP (.cond (Tm 109) .skip (.exit 2))) (.seq (.block 3 (sq YQ (.seq (sq YR (.cond (Tm 114) (.region YS) .skip)) (dq DO (.draw DP))))) (.region DQ)))
def DR:Rg:=[iM 63 10,iC 64 .add 63 1,iM 10 64]
def DH:aC:=(.seq (sq akW (.cond (Tm 62) .skip (.exit 0))) (.seq (.block 1 (.seq (sq akX (.cond (Tm 71) (sq DL (sq DM (.region DN))) (sq YN (.cond (Tm 88) (.region YO) .skip)))) (sq tR (sq tT (.block 2 (.loop qE)))))) (.region DR)))
def YT:Rg:=[iM 127 0,iA 128 (.call 240 [(Tm 127),(Ci 2)]),iA 129 (.bin .add (Ci 1) (Tm 128)),iM 14 129]
def YU:Rg:=[iM 130 14,iC 131 .gtr 130 0]
def DS:Rg:=[iM 134 0,iA 135 (.call 240 [(Tm 134),(Ci 2)]),iA 136 (.bin .add (Ci 1) (Tm 135)),iM 15 136]
def DT:Rg:=[iM 137 0,iA 138 (.call 240 [(Tm 137),(Ci 3)]),iM 16 138]
def DU:Rg:=[iM 139 14,iA 140 (.call 242 [(.const (.int .u8 112)),(Tm 139)]),iM 141 15,iM 142 16,iM 143 15,iM 144 0,iM 145 16,iC 146 .add 145 1,iK2 147 240 144 146,iB 148 .add 143 147,iA 149 (.bGO true 1 2 [(.int .i64 0)] [(0,(Ci 0)),(1,(Ci 1))]),iA 150 (.call 241 [(Ci 1),(Ci 1000)]),iA 151 (.call 241 [(Ci 30),(Ci 1)]),iA 152 (.build [(.str []),(.int .i64 0),(.int .i64 0),(.int .i64 0),(.int .i64 0),(.int .i64 0),(.int .i64 0),(.int .i64 0),(.int .i64 0),.aB,.aB,(.bool false),.aB,.aB,(.bool false),.aB,.aB] [(0,1,(Tm 140)),(1,1,(Tm 141)),(2,1,(Tm 142)),(3,1,(Tm 148)),(9,1,(Tm 149)),(11,3,(Tm 150)),(14,3,(Tm 151))]),iA 17 (.alloc [(.str []),(.int .i64 0),(.int .i64 0),(.int .i64 0),(.int .i64 0),(.int .i64 0),(.int .i64 0),(.int .i64 0),(.int .i64 0),.aB,.aB,(.bool false),.aB,.aB,(.bool false),.aB,.aB]),iS 17 17 152]
def DW:Rg:=[iM 153 0,iA 154 (.call 240 [(Tm 153),(Ci 4)]),iF 155 4 17,iA 156 (.idxA 5 1 (Tm 155) (Ci 3)),iS 1 156 154]
def DX:Rg:=[iM 157 0,iA 158 (.call 240 [(Tm 157),(Ci 3)]),iF 159 4 17,iA 160 (.idxA 5 1 (Tm 159) (Ci 4)),iS 1 160 158]
def DY:Rg:=[iM 161 0,iA 162 (.call 240 [(Tm 161),(Ci 5)]),iC 163 .eql 162 0]
def DZ:Rg:=[iA 164 (.bGO true 1 1 [(.int .i64 0)] [(0,(Ci 0))]),iF 165 9 17,iS 1 165 164]
def YV:Rg:=[iI 18 0]
def YW:Rg:=[iM 166 18,iM 167 16,iA 168 (.bHJ true (Tm 167) (Ci 1)),iB 169 .lss 166 168]
def YX:Rd:=[(iF 172 10 17,true),(iL 173 172,true),(iA 174 (.call 241 [(Ci 1),(Ci 2)]),true),(iA 175 (.bGO true 3 1 [(.bool false),.aB,.aB] [(0,(Tm 174))]),false),(iA 176 (.append 3 56 (Tm 173) (Tm 175)),true),(iF 177 10 17,false)]
def YY:Rd:=[(iS 1 177 176,true)]
def YZ:Rg:=[iM 170 18,iC 171 .add 170 1,iM 18 171]
def DI:aC:=(.seq (sq YW (.cond (Tm 169) .skip (.exit 6))) (.seq (.block 7 (dq YX (.draw YY))) (.region YZ)))
def ZA:Rg:=[iF 178 5 5,iL 179 178,iO 180 17 17,iA 181 (.bGO true 17 1 [(.str []),(.int .i64 0),(.int .i64 0),(.int .i64 0),(.int .i64 0),(.int .i64 0),(.int .i64 0),(.int .i64 0),(.int .i64 0),.aB,.aB,(.bool false),.aB,.aB,(.bool false),.aB,.aB] [(0,(Tm 180))]),iA 182 (.append 17 240 (Tm 179) (Tm 181)),iF 183 5 5,iS 1 183 182]
def ZB:Rg:=[iM 132 14,iC 133 .sub 132 1,iM 14 133]
def DJ:aC:=(.seq (sq YU (.cond (Tm 131) .skip (.exit 4))) (.seq (.block 5 (sq DS (sq DT (sq DU (sq DW (sq DX (.seq (sq DY (.cond (Tm 163) (.region DZ) .skip)) (.seq (sq YV (.block 6 (.loop DI))) (.region ZA))))))))) (.region ZB)))
def ZC:Rg:=[iM 184 0,iM 185 1,iK2 186 240 184 185,iA 187 (.bin .add (Ci 1) (Tm 186)),iM 19 187]
def ZD:Rg:=[iM 188 19,iC 189 .gtr 188 0]
def ZE:Rd:=[(iF 192 6 5,true),(iL 193 192,true),(iM 194 19,false),(iA 195 (.call 242 [(.const (.int .u8 118)),(Tm 194)]),true),(iM 196 0,true),(iF 197 5 5,true),(iL 198 197,true),(iN 199 198,true),(iK2 200 240 196 199,true),(iA 201 (.build [(.str []),(.int .i64 0)] [(0,1,(Tm 195)),(1,1,(Tm 200))]),false),(iA 202 (.bGO true 2 1 [(.str []),(.int .i64 0)] [(0,(Tm 201))]),false),(iA 203 (.append 2 24 (Tm 193) (Tm 202)),true),(iF 204 6 5,false)]
def ZF:Rd:=[(iS 1 204 203,true)]
def ZG:Rg:=[iM 190 19,iC 191 .sub 190 1,iM 19 191]
def DK:aC:=(.seq (sq ZD (.cond (Tm 189) .skip (.exit 8))) (.seq (.block 9 (dq ZE (.draw ZF))) (.region ZG)))
def ZH:Rg:=[iO 205 7 5,iS 7 4 205]
def yS:aC:=(sq akO (sq akP (sq akQ (sq akR (sq akS (sq akT (sq akU (.seq (sq akV (.block 0 (.loop DH))) (.seq (sq YT (.block 4 (.loop DJ))) (.seq (sq ZC (.block 8 (.loop DK))) (sq ZH .ret)))))))))))
def a3U:List Nat:=[25,27,28,33,35,51,124,149,164,175,181,202]
def JY:aV:=⟨2,206,yS,[.cell 4 (some 7)]⟩
def ZJ:Rg:=[iA 3 (.box true (Tm 1)),iZ 4]
def ZK:Rg:=[iZ 5]
def ZL:Rg:=[iI 6 0]
def ZM:Rg:=[iM 11 6,iF 12 6 3,iL 13 12,iN 14 13,iB 15 .lss 11 14]
def ZN:Rg:=[iA 18 (.bGO false 1 0 [(.int .i64 0)] []),iM 7 18]
def ZO:Rg:=[iI 8 0]
def ZP:Rg:=[iM 19 8,iO 20 7 3,iM 21 6,iK2 22 245 20 21,iB 23 .lss 19 22]
def ZQ:Rg:=[iM 26 0,iF 27 4 3,iL 28 27,iN 29 28,iK2 30 240 26 29,iM 9 30]
def ZR:Rg:=[iI 10 0]
def ZS:Rg:=[iM 31 10,iF 32 4 3,iL 33 32,iN 34 33,iB 35 .lss 31 34,iM 36 35,gM 37 7 36 true,gM 38 9 36 true,gK2 39 247 37 38 36 true,iP 40 36 39]
def RQ:Rg:=[iM 43 9,iC 44 .add 43 1,iF 45 4 3,iL 46 45,iN 47 46,iB 48 .rem 44 47,iM 9 48]
def RR:Rg:=[iM 41 10,iC 42 .add 41 1,iM 10 42]
def yT:aC:=(.seq (sq ZS (.cond (Tm 40) .skip (.exit 4))) (.seq (.block 5 (.region RQ)) (.region RR)))
def RS:Rg:=[iM 49 7,iM 50 9,iK2 51 247 49 50,iM 52 51,gM 53 0 52 false,iG 54 (.call 240 [(Tm 53),(Ci 12)]) 52 false,gC 55 .eql 54 0 52 false,iQ 56 52 55]
def yV:Rg:=[iI 9 (-1)]
def yW:Rg:=[iM 57 7,iM 58 9,iA 59 (.bGO true 1 1 [(.int .i64 0)] [(0,(Tm 58))]),iA 60 (.append 1 8 (Tm 57) (Tm 59)),iM 7 60]
def yX:Rg:=[iM 24 8,iC 25 .add 24 1,iM 8 25]
def yU:aC:=(.seq (sq ZP (.cond (Tm 23) .skip (.exit 2))) (.seq (.block 3 (sq ZQ (.seq (sq ZR (.block 4 (.loop yT))) (.seq (sq RS (.cond (Tm 56) (.region yV) .skip)) (.region yW))))) (.region yX)))
def RT:Rg:=[iM 61 5,iM 62 7,iA 63 (.bGO true 1 1 [.aB] [(0,(Tm 62))]),iA 64 (.append 1 24 (Tm 61) (Tm 63)),iM 5 64]
def RU:Rg:=[iM 16 6,iC 17 .add 16 1,iM 6 17]
def RP:aC:=(.seq (sq ZM (.cond (Tm 15) .skip (.exit 0))) (.seq (.block 1 (sq ZN (.seq (sq ZO (.block 2 (.loop yU))) (.region RT)))) (.region RU)))
def RV:Rg:=[iM 65 5,iM 4 65]
def vP:aC:=(sq ZJ (sq ZK (.seq (sq ZL (.block 0 (.loop RP))) (sq RV .ret))))
def aWL:List Nat:=[3,59,63]
def BN:aV:=⟨2,66,vP,[.tmp 4]⟩
def akZ:Rg:=[iA 3 (.box true (Tm 1)),iZ 4]
def alA:Rg:=[iO 7 7 3,iA 8 (.call 85 [(Tm 7),(.const .aB)]),iM 5 8]
def alB:Rg:=[iI 6 0]
def alC:Rg:=[iM 9 6,iM 10 5,iN 11 10,iB 12 .lss 9 11]
def alD:Rg:=[iM 15 0,iA 16 (.call 240 [(Tm 15),(Ci 9)])]
def xI:Rg:=[iC 18 .eql 16 0,iM 17 18]
def alE:Rg:=[iM 19 5,iM 20 6,iX 21 1 19 20,⟨none,.store 1 (Tm 21) (Ci 0),none⟩]
def KD:Rg:=[iC 23 .eql 16 1,iM 22 23]
def alF:Rg:=[iM 24 5,iM 25 6,iM 26 0,iM 27 5,iM 28 6,iX 29 1 27 28,iL 30 29,iC 31 .add 30 1,iK2 32 240 26 31,iX 33 1 24 25,iS 1 33 32]
def KE:Rg:=[iM 13 6,iC 14 .add 13 1,iM 6 14]
def ZV:aC:=(.seq (sq alC (.cond (Tm 12) .skip (.exit 0))) (.seq (.block 1 (sq alD (.block 2 (sq xI (.cond (Tm 17) (.region alE) (sq KD (.cond (Tm 22) (.region alF) .skip))))))) (.region KE)))
def EH:Rg:=[iM 34 5,iM 4 34]
def yY:aC:=(sq akZ (sq alA (.seq (sq alB (.block 0 (.loop ZV))) (sq EH .ret))))
def a3Y:List Nat:=[3]
def KC:aV:=⟨2,35,yY,[.tmp 4]⟩
def avD:Rg:=[iA 2 (.alloc [(.int .i64 0),.aB,.aB,.aB,.aB,.aB,.aB,.aB,.aB]),iA 3 (.mv (.const (.lit (.pointer none))))]
def avE:Rg:=[iM 7 0,iA 8 (.build [.aB,(.int .i64 0)] [(0,1,(Tm 7))]),iA 9 (.box false (Tm 8)),iM 4 9]
def avF:Rg:=[iM 10 4,iA 11 (.call 244 [(Tm 10),(Ci 3)]),iA 5 (.alloc [(.int .i64 0),.aB,.aB,.aB,.aB,.aB,.aB]),iS 7 5 11]
def avG:Rg:=[iM 12 4,iO 13 7 5,iK2 14 246 12 13,iM 6 14]
def avH:Rd:=[(iO 15 7 5,true),(iM 16 6,true),(iM 17 4,false),(iO 18 7 5,false),(iK2 19 248 17 18,true),(iA 20 (.build [(.int .i64 0),.aB,.aB,.aB,.aB,.aB,.aB,.aB,.aB] [(0,7,(Tm 15)),(7,1,(Tm 16)),(8,1,(Tm 19))]),false),(iM 21 4,true),(iS 9 2 20,true),(iM 3 21,false)]
def EC:aC:=(sq avD (sq avE (sq avF (sq avG (dq avH .ret)))))
def bcX:List Nat:=[]
def ZT:aV:=⟨1,22,EC,[.cell 2 (some 9),.tmp 3]⟩
def aHD:Rg:=[iZ 2]
def aHE:Rg:=[iM 4 0,iN 5 4,iM 3 5]
def aHF:Rg:=[iM 6 3,iC 7 .gtr 6 0,iM 8 7,gM 9 0 8 true,gM 10 3 8 true,gC 11 .sub 10 1 8 true,iG 12 (.bHD 1 (Tm 9) (Tm 11)) 8 true,gL 13 12 8 true,iG 14 (.bin .eql (Tm 13) (.const (.int .u32 0))) 8 true,iP 15 8 14]
def aHG:Rg:=[iM 16 3,iC 17 .sub 16 1,iM 3 17]
def aHC:aC:=(.seq (sq aHF (.cond (Tm 15) .skip (.exit 0))) (.block 1 (.region aHG)))
def XD:Rg:=[iM 18 0,iM 19 3,iA 20 (.slice 1 (Tm 18) none (some (Tm 19)) none),iA 21 (.append 1 4 (.const .aB) (Tm 20)),iM 2 21]
def HU:aC:=(sq aHD (sq aHE (.seq (.block 0 (.loop aHC)) (sq XD .ret))))
def bhQ:List Nat:=[]
def aeI:aV:=⟨1,22,HU,[.tmp 2]⟩
def aGR:Rg:=[iZ 2]
def aGS:Rg:=[iM 3 0,iA 4 (.conv .u32 (Tm 3)),iM 5 0,iA 6 (.bin .shr (Tm 5) (.const (.int .u64 32))),iA 7 (.conv .u32 (Tm 6)),iA 8 (.bGO true 1 2 [(.int .u32 0)] [(0,(Tm 4)),(1,(Tm 7))]),iK 9 38 8,iM 2 9]
def HL:aC:=(sq aGR (sq aGS .ret))
def bhI:List Nat:=[8]
def aeA:aV:=⟨1,10,HL,[.tmp 2]⟩
def apJ:Rg:=[iT 2 false]
def apK:Rg:=[iM 3 0,iK 4 38 3,iN 5 4,iC 6 .gtr 5 512,iM 2 6]
def AN:aC:=(sq apJ (sq apK .ret))
def a8H:List Nat:=[]
def ON:aV:=⟨1,7,AN,[.tmp 2]⟩
def aSF:Rg:=[iI 4 0]
def aSG:Rg:=[iM 6 0,iK 7 38 6,iM 8 1,iK 9 38 8,iM 0 7,iM 1 9]
def aSH:Rg:=[iM 10 0,iN 11 10,iM 12 1,iN 13 12,iB 14 .neq 11 13]
def aSI:Rg:=[iM 15 0,iN 16 15,iM 17 1,iN 18 17,iB 19 .lss 16 18]
def aSJ:Rg:=[iI 4 (-1)]
def aSK:Rg:=[iI 4 1]
def aSL:Rg:=[iM 20 0,iN 21 20,iC 22 .sub 21 1,iM 5 22]
def aSM:Rg:=[iM 23 5,iC 24 .geq 23 0]
def aSN:Rd:=[(iM 27 0,false),(iM 28 5,false),(iX 29 1 27 28,false),(iL 30 29,false),(iM 31 1,false),(iM 32 5,false),(iX 33 1 31 32,false),(iL 34 33,false),(iB 35 .lss 30 34,false)]
def aSO:Rg:=[iI 4 (-1)]
def aGD:Rd:=[(iM 36 0,false),(iM 37 5,false),(iX 38 1 36 37,false),(iL 39 38,false),(iM 40 1,false),(iM 41 5,false),(iX 42 1 40 41,false),(iL 43 42,false),(iB 44 .gtr 39 43,false)]
def aGE:Rg:=[iI 4 1]
def aGF:Rg:=[iM 25 5,iC 26 .sub 25 1,iM 5 26]
def aGC:aC:=(.seq (sq aSM (.cond (Tm 24) .skip (.exit 0))) (.seq (.block 1 (.seq (dq aSN (.cond (Tm 35) (sq aSO .ret) .skip)) (dq aGD (.cond (Tm 44) (sq aGE .ret) .skip)))) (.region aGF)))
def aGG:Rg:=[iI 4 0]
def OI:aC:=(sq aSF (sq aSG (.seq (sq aSH (.cond (Tm 14) (.seq (sq aSI (.cond (Tm 19) (sq aSJ .ret) .skip)) (sq aSK .ret)) .skip)) (.seq (sq aSL (.block 0 (.loop aGC))) (sq aGG .ret)))))
def boB:List Nat:=[]
def aGB:aV:=⟨2,45,OI,[.tmp 4]⟩
def adS:Rg:=[iZ 4,iZ 5]
def adT:Rg:=[iM 20 0,iM 21 1,iK2 22 32 20 21,iC 23 .lss 22 0]
def adU:Rg:=[iM 24 0,iK 25 38 24,iZ 4,iM 5 25]
def adV:Rg:=[iM 26 1,iN 27 26,iC 28 .eql 27 1]
def HH:Rg:=[iM 29 0,iN 30 29,iA 31 (.bGS 1 4 [(.int .u32 0)] (Tm 30) (Tm 30)),iM 6 31]
def HI:Rg:=[iA 7 (.mv (.const (.int .u64 0)))]
def HJ:Rg:=[iM 32 0,iN 33 32,iC 34 .sub 33 1,iM 8 34]
def adW:Rg:=[iM 35 8,iC 36 .geq 35 0]
def adX:Rg:=[iM 39 7,iA 40 (.bin .shl (Tm 39) (.const (.int .u64 32))),iM 41 0,iM 42 8,iX 43 1 41 42,iL 44 43,iA 45 (.conv .u64 (Tm 44)),iB 46 .or 40 45,iM 9 46]
def adY:Rg:=[iM 47 6,iM 48 8,iM 49 9,iM 50 1,iA 51 (.bHD 1 (Tm 50) (Ci 0)),iL 52 51,iA 53 (.conv .u64 (Tm 52)),iB 54 .quo 49 53,iA 55 (.conv .u32 (Tm 54)),iX 56 1 47 48,iS 1 56 55]
def TG:Rg:=[iM 57 9,iM 58 1,iA 59 (.bHD 1 (Tm 58) (Ci 0)),iL 60 59,iA 61 (.conv .u64 (Tm 60)),iB 62 .rem 57 61,iM 7 62]
def TH:Rg:=[iM 37 8,iC 38 .sub 37 1,iM 8 38]
def AB:aC:=(.seq (sq adW (.cond (Tm 36) .skip (.exit 0))) (.seq (.block 1 (sq adX (sq adY (.region TG)))) (.region TH)))
def AC:Rg:=[iM 63 6,iK 64 38 63,iM 65 7,iK 66 35 65,iM 4 64,iM 5 66]
def TI:Rg:=[iM 67 1,iN 68 67,iA 69 (.bin .mul (Ci 32) (Tm 68)),iM 70 1,iK 71 31 70,iB 72 .sub 69 71,iM 10 72]
def TJ:Rg:=[iM 73 0,iM 74 10,iK2 75 45 73 74,iA 76 (.bGO true 1 2 [(.int .u32 0)] [(0,(.const (.int .u32 0))),(1,(.const (.int .u32 0)))]),iA 77 (.append 1 4 (Tm 75) (Tm 76)),iM 78 1,iM 79 10,iK2 80 45 78 79,iM 11 77,iM 12 80]
def AD:Rg:=[iM 81 11,iM 82 0,iM 83 10,iK2 84 45 82 83,iN 85 84,iC 86 .add 85 1,iA 87 (.slice 1 (Tm 81) none (some (Tm 86)) none),iM 11 87]
def AE:Rg:=[iM 88 12,iM 89 12,iN 90 89,iC 91 .sub 90 1,iX 92 1 88 91,iL 93 92,iA 94 (.conv .u64 (Tm 93)),iM 13 94]
def AF:Rg:=[iM 95 11,iN 96 95,iM 97 12,iN 98 97,iB 99 .sub 96 98,iA 100 (.bGS 1 4 [(.int .u32 0)] (Tm 99) (Tm 99)),iM 14 100]
def AG:Rg:=[iM 101 14,iN 102 101,iC 103 .sub 102 1,iM 15 103]
def TK:Rg:=[iM 104 15,iC 105 .geq 104 0]
def TL:Rd:=[(iM 108 11,false),(iM 109 15,false),(iM 110 12,false),(iN 111 110,false),(iB 112 .add 109 111,false),(iX 113 1 108 112,false),(iL 114 113,false),(iA 115 (.conv .u64 (Tm 114)),false),(iA 116 (.bin .shl (Tm 115) (.const (.int .u64 32))),false),(iM 117 11,false),(iM 118 15,false),(iM 119 12,false),(iN 120 119,false),(iB 121 .add 118 120,false),(iC 122 .sub 121 1,false),(iX 123 1 117 122,false),(iL 124 123,false),(iA 125 (.conv .u64 (Tm 124)),false),(iB 126 .or 116 125,false),(iM 16 126,false)]
def TM:Rg:=[iM 127 16,iM 128 13,iB 129 .quo 127 128,iM 17 129]
def TN:Rg:=[iM 130 17,iA 131 (.bin .gtr (Tm 130) (.const (.int .u64 4294967295)))]
def TO:Rg:=[iA 17 (.mv (.const (.int .u64 4294967295)))]
def TP:Rd:=[(iM 132 12,true),(iM 133 17,false),(iK 134 35 133,true),(iK2 135 44 132 134,true),(iM 136 11,true),(iM 137 15,true),(iM 138 15,true),(iM 139 12,true),(iN 140 139,true),(iB 141 .add 138 140,true),(iC 142 .add 141 1,true),(iA 143 (.slice 1 (Tm 136) (some (Tm 137)) (some (Tm 142)) none),true),(iA 144 (.append 1 4 (.const .aB) (Tm 143)),true),(iK2 145 32 135 144,true),(iC 146 .gtr 145 0,false)]
def TQ:Rg:=[iM 147 17,iA 148 (.bin .sub (Tm 147) (.const (.int .u64 1))),iM 17 148]
def sE:aC:=(.seq (dq TP (.cond (Tm 146) .skip (.exit 4))) (.block 5 (.region TQ)))
def AH:Rg:=[iM 149 11,iM 150 15,iM 151 15,iM 152 12,iN 153 152,iB 154 .add 151 153,iC 155 .add 154 1,iA 156 (.slice 1 (Tm 149) (some (Tm 150)) (some (Tm 155)) none),iA 157 (.append 1 4 (.const .aB) (Tm 156)),iM 158 12,iM 159 17,iK 160 35 159,iK2 161 44 158 160,iK2 162 42 157 161,iM 18 162]
def AI:Rg:=[iI 19 0]
def TR:Rg:=[iM 163 19,iM 164 12,iN 165 164,iB 166 .leq 163 165]
def TS:Rg:=[iM 169 11,iM 170 15,iM 171 19,iB 172 .add 170 171,iX 173 1 169 172,⟨none,.store 1 (Tm 173) (.const (.int .u32 0)),none⟩]
def TT:Rg:=[iM 174 19,iM 175 18,iN 176 175,iB 177 .lss 174 176]
def TU:Rg:=[iM 178 11,iM 179 15,iM 180 19,iB 181 .add 179 180,iM 182 18,iM 183 19,iX 184 1 182 183,iL 185 184,iX 186 1 178 181,iS 1 186 185]
def AJ:Rg:=[iM 167 19,iC 168 .add 167 1,iM 19 168]
def sF:aC:=(.seq (sq TR (.cond (Tm 166) .skip (.exit 6))) (.seq (.block 7 (sq TS (sq TT (.cond (Tm 177) (.region TU) .skip)))) (.region AJ)))
def AK:Rg:=[iM 187 14,iM 188 15,iM 189 17,iA 190 (.conv .u32 (Tm 189)),iX 191 1 187 188,iS 1 191 190]
def AL:Rg:=[iM 106 15,iC 107 .sub 106 1,iM 15 107]
def sG:aC:=(.seq (sq TK (.cond (Tm 105) .skip (.exit 2))) (.seq (.block 3 (dq TL (sq TM (.seq (sq TN (.cond (Tm 131) (.region TO) .skip)) (.seq (.block 4 (.loop sE)) (sq AH (.seq (sq AI (.block 6 (.loop sF))) (.region AK)))))))) (.region AL)))
def AM:Rg:=[iM 192 14,iK 193 38 192,iM 194 11,iK 195 38 194,iM 196 10,iK2 197 40 195 196,iM 4 193,iM 5 197]
def wQ:aC:=(sq adS (.seq (sq adT (.cond (Tm 23) (sq adU .ret) .skip)) (.seq (sq adV (.cond (Tm 28) (sq HH (sq HI (.seq (sq HJ (.block 0 (.loop AB))) (sq AC .ret)))) .skip)) (sq TI (sq TJ (sq AD (sq AE (sq AF (.seq (sq AG (.block 2 (.loop sG))) (sq AM .ret))))))))))
def aZY:List Nat:=[76]
def CK:aV:=⟨2,198,wQ,[.tmp 4,.tmp 5]⟩
def aSP:Rg:=[iZ 4,iZ 5,iI 6 0]
def aSQ:Rg:=[iM 9 0,iK 10 41 9,iM 11 10,gM 12 1 11 false,gK 13 41 12 11 false,iQ 14 11 13]
def ajO:Rg:=[iZ 4,iZ 5,iI 6 2]
def aSR:Rg:=[iM 15 1,iK 16 38 15,iN 17 16,iC 18 .eql 17 0]
def aSS:Rg:=[iZ 4,iZ 5,iI 6 3]
def aST:Rg:=[iM 20 0,iK 21 38 20,iM 22 1,iK 23 38 22,iK2 24 39 21 23,iM 19 24,iE 25 19 0,iE 26 19 1,iM 7 25,iM 8 26]
def aSU:Rg:=[iM 27 7,iM 28 8,iM 4 27,iM 5 28,iI 6 0]
def OJ:aC:=(sq aSP (.seq (sq aSQ (.cond (Tm 14) (sq ajO .ret) .skip)) (.seq (sq aSR (.cond (Tm 18) (sq aSS .ret) .skip)) (sq aST (sq aSU .ret)))))
def boD:List Nat:=[]
def udiv:aV:=⟨2,29,OJ,[.tmp 4,.tmp 5,.tmp 6]⟩
def aSW:Rg:=[iZ 4,iI 5 0]
def aSX:Rg:=[iM 10 0,iK 11 41 10,iM 12 11,gM 13 1 12 false,gK 14 41 13 12 false,iQ 15 12 14]
def ajP:Rg:=[iZ 4,iI 5 2]
def aSY:Rg:=[iM 16 0,iK 17 38 16,iM 18 1,iK 19 38 18,iM 6 17,iM 7 19]
def aSZ:Rg:=[iM 20 7,iN 21 20,iC 22 .gtr 21 0]
def aTA:Rg:=[iM 24 6,iM 25 7,iK2 26 39 24 25,iM 23 26,iE 27 23 0,iE 28 23 1,iM 8 27,iM 9 28]
def aTB:Rg:=[iM 29 7,iM 30 9,iM 6 29,iM 7 30]
def aSV:aC:=(.seq (sq aSZ (.cond (Tm 22) .skip (.exit 0))) (.block 1 (sq aTA (.region aTB))))
def aTC:Rg:=[iM 31 6,iM 4 31,iI 5 0]
def OM:aC:=(sq aSW (.seq (sq aSX (.cond (Tm 15) (sq ajP .ret) .skip)) (sq aSY (.seq (.block 0 (.loop aSV)) (sq aTC .ret)))))
def boF:List Nat:=[]
def aGQ:aV:=⟨2,32,OM,[.tmp 4,.tmp 5]⟩
def aeM:Rg:=[iA 6 (.alloc [(.bool false),.aB,.aB])]
def aeN:Rg:=[iM 9 1,iK 10 38 9,iM 11 2,iK 12 38 11,iM 1 10,iM 2 12]
def aeO:Rg:=[iM 13 1,iN 14 13,iC 15 .eql 14 0]
def aeP:Rg:=[iA 16 (.bGO true 1 1 [(.int .u32 0)] [(0,(.const (.int .u32 1)))]),iA 17 (.build [(.bool false),.aB,.aB] [(2,1,(Tm 16))]),iS 3 6 17]
def aeQ:Rg:=[iM 19 1,iM 20 2,iK2 21 34 19 20,iM 18 21,iE 22 18 0,iE 23 18 1,iM 7 22,iM 8 23]
def aeR:Rg:=[iM 24 7,iN 25 24,iC 26 .gtr 25 1,iM 27 26,gM 28 7 27 false,iG 29 (.bHD 1 (Tm 28) (Ci 0)) 27 false,gL 30 29 27 false,iG 31 (.bin .gtr (Tm 30) (.const (.int .u32 1))) 27 false,iQ 32 27 31]
def HX:Rg:=[iM 34 1,iM 35 7,iK2 36 33 34 35,iM 33 36,iE 37 33 0,iE 38 33 1,iE 39 33 2,iM 1 37]
def HY:Rg:=[iM 41 2,iM 42 7,iK2 43 33 41 42,iM 40 43,iE 44 40 0,iE 45 40 1,iE 46 40 2,iM 2 44]
def uJ:Rg:=[iM 47 0,iM 48 1,iM 49 2,iA 50 (.build [(.bool false),.aB,.aB] [(0,1,(Tm 47)),(1,1,(Tm 48)),(2,1,(Tm 49))]),iS 3 6 50]
def wT:aC:=(sq aeM (sq aeN (.seq (sq aeO (.cond (Tm 15) (sq aeP .ret) .skip)) (.seq (sq aeQ (sq aeR (.cond (Tm 32) (sq HX (.region HY)) .skip))) (sq uJ .ret)))))
def a0V:List Nat:=[16]
def CM:aV:=⟨3,51,wT,[.cell 6 (some 3)]⟩
def aIG:Rg:=[iA 2 (.mv (.const (.int .u64 0)))]
def aIH:Rg:=[iM 3 0,iC 4 .lss 3 0]
def aII:Rg:=[iM 5 0,iC 6 .add 5 1,iA 7 (.un .neg (Tm 6)),iA 8 (.conv .u64 (Tm 7)),iA 9 (.bin .add (Tm 8) (.const (.int .u64 1))),iM 2 9]
def aIJ:Rg:=[iM 10 0,iA 11 (.conv .u64 (Tm 10)),iM 2 11]
def ID:aC:=(sq aIG (.seq (sq aIH (.cond (Tm 4) (sq aII .ret) .skip)) (sq aIJ .ret)))
def biP:List Nat:=[]
def aeY:aV:=⟨1,12,ID,[.tmp 2]⟩
def aHT:Rg:=[iA 4 (.alloc [(.bool false),.aB,.aB]),iI 5 0]
def aHU:Rg:=[iM 6 1,iC 7 .eql 6 0]
def aHV:Rg:=[iA 8 (.build [(.bool false),.aB,.aB] []),iS 3 4 8,iI 5 3]
def aHW:Rg:=[iM 9 0,iC 10 .lss 9 0,iM 11 1,iC 12 .lss 11 0,iA 13 (.eqb true (Tm 10) (Tm 12)),iM 14 0,iK 15 59 14,iK 16 35 15,iM 17 1,iK 18 59 17,iK 19 35 18,iA 20 (.call 58 [(Tm 13),(Tm 16),(Tm 19)]),iS 3 4 20,iI 5 0]
def HZ:aC:=(sq aHT (.seq (sq aHU (.cond (Tm 7) (sq aHV .ret) .skip)) (sq aHW .ret)))
def biJ:List Nat:=[]
def RI:aV:=⟨2,21,HZ,[.cell 4 (some 3),.tmp 5]⟩
def aUC:Rg:=[iA 2 (.alloc [(.bool false),.aB,.aB])]
def aUD:Rg:=[iM 6 0,iA 7 (.call 50 [(Tm 6),(Ci 1)]),iM 5 7,iE 8 5 0,iE 9 5 1,iA 3 (.alloc [(.bool false),.aB,.aB]),iS 3 3 8,iM 4 9]
def aUE:Rg:=[iO 10 3 3,iS 3 2 10]
def PD:aC:=(sq aUC (sq aUD (sq aUE .ret)))
def boS:List Nat:=[]
def aHQ:aV:=⟨1,11,PD,[.cell 2 (some 3)]⟩
open Go Go.Na
def utF (xs:List Nat) (n:Nat):PF:=((PF.nil.set 0 (aF xs)).set 3 (.int .i64 n))
theorem bhP {C:Ctx} (xs:List Nat) (hx:Lim xs) (hl:xs.length≤35184372087808):HU.wp C (aU aeI.res (kI 1 (aH (aG (val xs))))) (PF.args [aF xs]) .nil:=by
 simp only[go_sem,γ,reduceCtorEq,HU,aHD,aHE,aeI,bIM]
 refine wp_loop (α:=Nat) (fun n=>utF xs n) (fun _=>.nil) (fun n=>n≤xs.length∧∀ j x,n≤j→xs[j]?=some x→x=0) (fun n=>n) xs.length ⟨bIO _,fun j x hj hxj=>?_⟩ ?_ PH.nil_le ?_
 ·rw[bJZ hj] at hxj; cases hxj
 ·unfold utF
  exact Lq
 rintro n ⟨hn,hz⟩
 have done:(0<n→∀ h:n-1<xs.length,xs[n-1]≠0)→∀ F:PF,(utF xs n).le F→aC.wp C (.seq (.region XD) .ret) (aU [.tmp 2] (kI 1 (aH (aG (val xs))))) F .nil:=by
  intro h F hF
  have f0:F 0=some (aF xs):=hF 0 _ (by unfold utF; simp only[go_sem,reduceCtorEq])
  have f3:F 3=some (.int .i64 n):=hF 3 _ (by unfold utF; simp only[go_sem,reduceCtorEq])
  have ht:xs.take n=aG (val xs):=HE hx hn hz fun x h0 hxj=>by
   rw[bIW Om] at hxj
   injection hxj with hxj
   subst hxj
   exact h h0 Om
  have hc:((n:Nat):Int)≤(xs.length:Nat):=by omega
  simp only[go_sem,ν,γ,reduceCtorEq,XD,f0,f3,bIM,hc,or_true,bJO]
  refine fR (rows:=[]) (src:=aH (aG (val xs))) .nil ?_ ?_ fun v H' ho _=>?_
  ·simp only[go_sem]
   rw[← ht,← List.map_take]
  ·unfold roomFor
   rw[bU,← ht,bJF]
   simp only[bKY,maxLen]
   omega
  ·exact GQ (.inr rfl) (by simpa using ho) rfl
 simp only[aC.wp,go_sem] at done
 simp only[go_sem,γ,reduceCtorEq,aHC,aHF,utF]
 by_cases h0:0<n
 ·have h0':((n:Nat):Int)>0:=by omega
  have hlt:n-1<xs.length:=by omega
  have hat:=bL xs hlt
  have hw:IntKind.i64.wrap ((n:Int)-1)=((n-1:Nat):Int):=tC Om h0
  simp only[go_sem,γ,reduceCtorEq,h0',hw,hat]
  by_cases c:xs[n-1]=0
  ·simp only[go_sem,γ,reduceCtorEq,bS (Om:((xs[n-1]:Nat):Int)=0),aHG,hw]
   refine aK (n-1) ⟨by omega,fun j x hj hxj=>?_⟩ Om ?_ PH.nil_le
   ·by_cases e:j=n-1
    ·subst e
     rw[bIW hlt] at hxj
     injection hxj with hxj
     omega
    ·exact hz j x Om hxj
   ·exact Lq
  ·simp only[go_sem,bF (Om:((xs[n-1]:Nat):Int)≠0)]
   exact done (fun _ _=>c) _ (by unfold utF; exact Lq)
 ·have h0':¬ ((n:Nat):Int)>0:=by omega
  simp only[go_sem,γ,reduceCtorEq,h0']
  exact done (fun h=>absurd h h0) _ (by unfold utF; exact Lq)
structure nC (C:Ctx):Prop where
 trimM:∀ xs,Lim xs→xs.length≤35184372087808→aD C 38 [aF xs] .nil (kI 1 (aH (aG (val xs))))
theorem nC.trim {C:Ctx} (L:nC C) (xs:List Nat) (hx:Lim xs) (hl:xs.length≤35184372087808):aD C 38 [aF xs] .nil (aE (aF (aG (val xs)))):=(L.trimM xs hx hl).freeze
theorem bhH {C:Ctx} (L:nC C) (v:Nat) (hv:v<18446744073709551616):HL.wp C (aU aeA.res (bZ (aF (aG v)))) (PF.args [.int .u64 v]) .nil:=by
 have e1:IntKind.u32.wrap ((v:Nat):Int)=((v%4294967296:Nat):Int):=cB v
 have hd:v/4294967296<4294967296:=by omega
 have e3:IntKind.u32.wrap ((v/4294967296:Nat):Int)=((v/4294967296:Nat):Int):=by rw[cB,bJV hd]
 have hL:Lim [v%4294967296,v/4294967296]:=by
  intro x hx
  simp only[bJA,List.mem_nil_iff,or_false] at hx
  rcases hx with rfl | rfl
  ·exact bKA _ (by decide)
  ·exact hd
 have bHB:val [v%4294967296,v/4294967296]=v:=by simp only[val,Nat.mul_zero,bKD]; exact Nat.mod_add_div v 4294967296
 have hsh:shift .shr .u64 (v:Int) 32=some (.int .u64 ((v/4294967296:Nat):Int)):=uG
 have hb:(2:Nat)*1≤16777216:=by decide
 simp only[go_sem,υ,δ,γ,η,ζ,reduceCtorEq,HL,aGR,aGS,aeA,e1,hsh,e3,hb]
 have ht:=L.trim [v%4294967296,v/4294967296] hL (by simp)
 rw[bHB] at ht
 refine aA ht rfl ?_
 simp only[go_sem,γ]
 exact aW (.inr rfl) .nil rfl PH.nil_le ⟨.refl _,rfl⟩
theorem a8G {C:Ctx} (L:nC C) (xs:List Nat) (hx:Lim xs) (hl:xs.length≤35184372087808):AN.wp C (aU ON.res (bZ (.bool (decide (nl (val xs)>512))))) (PF.args [aF xs]) .nil:=by
 simp only[go_sem,reduceCtorEq,AN,apJ,apK,ON]
 refine aA (L.trim xs hx hl) rfl ?_
 simp only[go_sem,γ,bIM,aZ]
 refine bA rfl ?_
 rw[decide_eq_decide]
 omega
theorem aWE {a b:Nat} (h:nl a<nl b):dA a b=-1:=by
 have:a<b:=by
  rcases bJE a b with h' | h'
  ·exact h'
  ·have:=eY h'; omega
 simp[dA,this]
theorem aWD {a b:Nat} (h:nl b<nl a):dA a b=1:=by
 have:b<a:=by
  rcases bJE b a with h' | h'
  ·exact h'
  ·have:=eY h'; omega
 have h2:¬ a<b:=by omega
 simp[dA,this,h2]
def aZV (X Y:List Nat) (i:Int):PF:=(((PF.nil.set 0 (aF X)).set 1 (aF Y)).set 5 (.int .i64 i))
theorem boA {C:Ctx} (L:nC C) (xs ys:List Nat) (hx:Lim xs) (hy:Lim ys) (lx:xs.length≤35184372087808) (ly:ys.length≤35184372087808) :
  OI.wp C (aU aGB.res (aE (.int .i64 (dA (val xs) (val ys))))) (PF.args [aF xs,aF ys]) .nil:=by
 simp only[go_sem,reduceCtorEq,OI,aSF,aSG,aGB]
 refine aA (L.trim xs hx lx) Ev ?_
 simp only[go_sem,γ]
 refine aA (L.trim ys hy ly) Ev ?_
 have bx:=eS hx
 have by':=eS hy
 simp only[go_sem,γ,reduceCtorEq,aSH,bIM,aZ]
 by_cases c0:nl (val xs)≠nl (val ys)
 ·simp only[go_sem,γ,reduceCtorEq,cT (show ((nl (val xs):Nat):Int)≠(nl (val ys):Nat) by omega),aSI]
  by_cases c1:nl (val xs)<nl (val ys)
  ·simp only[go_sem,ο,bIM,aZ,show ((nl (val xs):Nat):Int)<(nl (val ys):Nat) by omega,aSJ]
   refine aM (.inr rfl) Ev ?_
   rw[aWE c1]; rfl
  ·simp only[go_sem,bIM,aZ,show ¬ ((nl (val xs):Nat):Int)<(nl (val ys):Nat) by omega,aSK]
   refine aM (.inr rfl) Ev ?_
   rw[aWD Om]; rfl
 replace c0:=Decidable.of_not_not c0
 simp only[go_sem,γ,reduceCtorEq,bP (show ((nl (val xs):Nat):Int)=(nl (val ys):Nat) by omega),aSL,bIM,aZ]
 have ex:=aR (val xs)
 have ey:=aR (val ys)
 have LX:=aT (val xs)
 have LY:=aT (val ys)
 generalize hX:aG (val xs)=X at *
 generalize hY:aG (val ys)=Y at *
 have hlX:X.length=nl (val xs):=by rw[← hX]; rfl
 have hlY:Y.length=nl (val xs):=by rw[c0,← hY]; rfl
 refine wp_loop (α:=Nat) (fun k=>aZV X Y ((k:Int)-1)) (fun _=>.nil) (fun k=>k≤nl (val xs)∧X.drop k=Y.drop k) (fun k=>k) (nl (val xs)) ⟨bIO _,?_⟩ ?_ PH.nil_le ?_
 ·rw[bLU Om,bLU Om]
 ·unfold aZV
  (repeat' (first|exact PF.nil_le|refine PF.aI ?_ ?_))<;>first|(simp only[go_sem,γ,reduceCtorEq,wrap_i64 (show -9223372036854775808≤((nl (val xs):Nat):Int)-1 by omega) (show ((nl (val xs):Nat):Int)-1≤9223372036854775807 by omega)]<;>rfl)|rfl
 rintro k ⟨hk,hd⟩
 simp only[go_sem,γ,reduceCtorEq,aGC,aSM,aZV]
 by_cases h0:0<k
 ·obtain⟨m,rfl⟩:∃ m,k=m+1:=⟨k-1,by omega⟩
  have hz:((m+1:Nat):Int)-1=(m:Int):=by omega
  have hge:(m:Int)≥0:=by omega
  have x1:m<X.length:=by omega
  have y1:m<Y.length:=by omega
  simp only[go_sem,hz,hge]
  refine bT .nil eG PH.nil_le ?_
  simp only[go_sem,γ,reduceCtorEq,aSN,bL X x1,bL Y y1]
  by_cases c3:X[m]<Y[m]
  ·simp only[go_sem,ο,show ((X[m]:Nat):Int)<(Y[m]:Nat) by omega,aSO]
   refine aM (.inr rfl) Ev ?_
   have:=YJ LX x1 y1 hd c3
   rw[ex,ey] at this
   simp[aX,dA,this]
  ·simp only[go_sem,show ¬ ((X[m]:Nat):Int)<(Y[m]:Nat) by omega]
   refine bT .nil eG PH.nil_le ?_
   simp only[go_sem,γ,reduceCtorEq,aGD,bL X x1,bL Y y1]
   by_cases c4:X[m]>Y[m]
   ·simp only[go_sem,show ((X[m]:Nat):Int)>(Y[m]:Nat) by omega,aGE]
    refine aM (.inr rfl) Ev ?_
    have:=YJ LY y1 x1 hd.symm c4
    rw[ex,ey] at this
    have h2:¬ val xs<val ys:=by omega
    simp[aX,dA,this,h2]
   ·simp only[go_sem,γ,reduceCtorEq,show ¬ ((X[m]:Nat):Int)>(Y[m]:Nat) by omega,aGF]
    refine aK m ⟨by omega,alG x1 y1 hd Om⟩ Om ?_ PH.nil_le
    (repeat' (first|exact PF.nil_le|refine PF.aI ?_ ?_))<;>first|(simp only[go_sem,γ,reduceCtorEq,wrap_i64 (Om:-9223372036854775808≤(m:Int)-1) (Om:(m:Int)-1≤9223372036854775807)]<;>rfl)|rfl
 ·have:k=0:=by omega
  subst this
  have hz:¬ ((0:Nat):Int)-1≥0:=by decide
  simp only[go_sem,hz,aGG]
  refine aM (.inr rfl) Ev ?_
  rw[bJO,bJO] at hd
  have:val xs=val ys:=by rw[← ex,← ey,hd]
  simp[aX,dA,this]
theorem yG (n:Nat):(((n:Nat):Int)==0)=decide (n=0):=by
 by_cases h:n=0
 ·subst h; rfl
 ·rw[bF Om,decide_eq_false h]
structure atP (C:Ctx):Prop extends nC C where
 make:∀ v:Nat,v<18446744073709551616→aD C 35 [.int .u64 v] .nil (aE (aF (aG v)))
 large:∀ xs,Lim xs→xs.length≤35184372087808→aD C 41 [aF xs] .nil (aE (.bool (decide (nl (val xs)>512))))
 cmp:∀ xs ys,Lim xs→Lim ys→xs.length≤35184372087808→ys.length≤35184372087808→aD C 32 [aF xs,aF ys] .nil (aE (.int .i64 (dA (val xs) (val ys))))
def aZZ (a b:Nat):PF:=((PF.nil.set 6 (aF (aG a))).set 7 (aF (aG b)))
structure XW (C:Ctx):Prop extends atP C where
 divide:∀ A B:Nat,B≠0→nl A≤512→nl B≤512→aD C 39 [aF (aG A),aF (aG B)] .nil (aE (oA A B))
def aXC (a b:Nat):PV:=if dP a b then .tup [aF [],.int .i64 2] else .tup [aF (aG (bIQ a b)),.int .i64 0]
theorem boE {C:Ctx} (L:XW C) (a b:List Nat) (ha:Lim a) (hb:Lim b) (la:a.length≤35184372087808) (lb:b.length≤35184372087808) :
  OM.wp C (aU aGQ.res (bZ (aXC (val a) (val b)))) (PF.args [aF a,aF b]) .nil:=by
 unfold aXC
 simp only[go_sem,reduceCtorEq,OM,aSW,aSX,aGQ]
 refine aA (L.large a ha la) rfl ?_
 by_cases c1:nl (val a)>512
 ·simp only[go_sem,γ,c1,ajP]
  rw[if_pos (by simp[dP,c1])]
  exact eC rfl
 simp only[go_sem,γ,c1]
 refine aA (L.large b hb lb) rfl ?_
 by_cases c2:nl (val b)>512
 ·simp only[go_sem,γ,reduceCtorEq,c2,ajP]
  rw[if_pos (by simp[dP,c2])]
  exact eC rfl
 rw[if_neg (by simp[dP,c1,c2])]
 simp only[go_sem,γ,reduceCtorEq,c2,aSY]
 refine aA (L.trim a ha la) rfl ?_
 simp only[go_sem,γ]
 refine aA (L.trim b hb lb) rfl ?_
 simp only[go_sem,γ]
 refine wp_loop (α:=Nat × Nat) (fun t=>aZZ t.1 t.2) (fun _=>.nil) (fun t=>bIQ t.1 t.2=bIQ (val a) (val b)∧nl t.1≤512∧nl t.2≤512) (fun t=>t.2) (val a,val b) ⟨rfl,by simp only; omega,by simp only; omega⟩ ?_ PH.nil_le ?_
 ·unfold aZZ
  exact Lq
 rintro⟨x,y⟩ ⟨hg,hx,hy⟩
 simp only at hg hx hy
 simp only[go_sem,γ,aSV,aSZ,aZZ,aZ]
 by_cases c3:y=0
 ·subst c3
  have:¬ ((nl 0:Nat):Int)>0:=by rw[vE]; decide
  simp only[go_sem,γ,this,aTC]
  refine aW (vs:=[aF (aG x),.int .i64 0]) (.inr rfl) .nil rfl PH.nil_le ⟨?_,rfl⟩
  rw[← hg,Nat.gcd_zero_right]
  exact .refl _
 ·have h0:nl y≠0:=fun h=>c3 (fX.1 h)
  have:((nl y:Nat):Int)>0:=by omega
  simp only[go_sem,γ,this,aTA]
  refine aA (L.divide x y c3 Om Om) rfl ?_
  simp only[go_sem,γ,oA,aTB]
  have hlt:x%y<y:=bKA _ (bKR c3)
  refine aK (y,x%y) ⟨?_,hy,?_⟩ hlt ?_ PH.nil_le
  ·simp only
   rw[← hg,Nat.gcd_comm y,← Nat.gcd_rec y x,Nat.gcd_comm]
  ·have:=eY (Nat.le_of_lt hlt)
   simp only; omega
  ·exact Lq
theorem boC {C:Ctx} (L:XW C) (a b:List Nat) (ha:Lim a) (hb:Lim b) (la:a.length≤35184372087808) (lb:b.length≤35184372087808) :
  OJ.wp C (aU udiv.res (bZ (kV (val a) (val b)))) (PF.args [aF a,aF b]) .nil:=by
 unfold kV
 simp only[go_sem,reduceCtorEq,OJ,aSP,aSQ,udiv]
 refine aA (L.large a ha la) rfl ?_
 by_cases c1:nl (val a)>512
 ·simp only[go_sem,γ,c1,ajO]
  rw[if_pos (by simp[dP,c1])]
  exact pJ rfl
 simp only[go_sem,γ,c1]
 refine aA (L.large b hb lb) rfl ?_
 by_cases c2:nl (val b)>512
 ·simp only[go_sem,γ,reduceCtorEq,c2,ajO]
  rw[if_pos (by simp[dP,c2])]
  exact pJ rfl
 rw[if_neg (by simp[dP,c1,c2])]
 simp only[go_sem,γ,reduceCtorEq,c2,aSR]
 refine aA (L.trim b hb lb) rfl ?_
 simp only[go_sem,γ,bIM,aZ,yG,fX]
 by_cases c3:val b=0
 ·rw[if_pos c3]
  simp only[go_sem,decide_eq_true c3,aSS]
  exact pJ rfl
 rw[if_neg c3]
 simp only[go_sem,reduceCtorEq,decide_eq_false c3,aST]
 refine aA (L.trim a ha la) rfl ?_
 simp only[go_sem,γ]
 refine aA (L.trim b hb lb) rfl ?_
 simp only[go_sem]
 refine aA (L.divide (val a) (val b) c3 Om Om) rfl ?_
 simp only[go_sem,γ,oA,aSU]
 exact aW (.inr rfl) .nil rfl PH.nil_le ⟨.refl _,rfl⟩
def kR (neg:Bool) (a b:Nat):FV:=(neg&&decide (a/bIQ a b≠0),a/bIQ a b,b/bIQ a b)
structure atQ (C:Ctx):Prop extends XW C where
 gcd:∀ a b,Lim a→Lim b→a.length≤35184372087808→b.length≤35184372087808→aD C 34 [aF a,aF b] .nil (aE (aXC (val a) (val b)))
 div:∀ a b,Lim a→Lim b→a.length≤35184372087808→b.length≤35184372087808→aD C 33 [aF a,aF b] .nil (aE (kV (val a) (val b)))
theorem qO {n:Nat} (h:nl n≤512):(aG n).length≤35184372087808:=by rw[aZ]; omega
theorem sT:aG 1=[1]:=mB (by decide) (by decide)
theorem aaY {n:Nat} (h:n≠0):aG n=n%4294967296::aG (n/4294967296):=pI h
theorem vY {n:Nat} (h:n≠0):(nl n>1∨n%4294967296>1)↔n≠1:=by
 constructor
 ·rintro h1 rfl
  rcases h1 with h1 | h1
  ·rw[nl,sT] at h1; simp at h1
  ·omega
 ·intro h1
  by_cases c:nl n>1
  ·exact .inl c
  ·have:n<4294967296 ^ 1:=(gI n 1).1 Om
   rw[Nat.pow_one] at this
   rw[bJV this]
   exact .inr Om
theorem a0U {C:Ctx} (L:atQ C) (neg:Bool) (a b:List Nat) (ha:Lim a) (hb:Lim b) (la:a.length≤35184372087808) (lb:b.length≤35184372087808) (na:nl (val a)≤512) (nb:nl (val b)≤512) (h0:val b≠0) :
  wT.wp C (aU CM.res (bZ (.agg (kR neg (val a) (val b)).rf.cells))) (PF.args [.bool neg,aF a,aF b]) .nil:=by
 have hg0:bIQ (val a) (val b)≠0:=fun h=>h0 (Nat.eq_zero_of_gcd_eq_zero_right h)
 have hgb:bIQ (val a) (val b)≤val b:=Nat.gcd_le_right _ (bKR h0)
 have ng:nl (bIQ (val a) (val b))≤512:=Nat.le_trans (eY hgb) nb
 have hnb:dP (val a) (val b)=false:=fV na nb
 simp only[go_sem,δ,wT,aeM,aeN,CM]
 refine aQ fun o ho=>?_
 simp only[go_sem,γ]
 refine aA (L.trim a ha la) rfl ?_
 simp only[go_sem,γ]
 refine aA (L.trim b hb lb) rfl ?_
 simp only[go_sem,γ,aeO,bIM,aZ,yG,fX]
 by_cases c1:val a=0
 ·simp only[go_sem,υ,δ,γ,η,θ,ζ,decide_eq_true c1,aeP]
  have e:(kR neg (val a) (val b)).rf=⟨false,[],[1]⟩:=by
   rw[c1]
   unfold kR FV.rf
   simp[eU,Nat.div_self (bKR h0),sT]
  rw[e]
  refine aW (vs:=[.agg [.bool false,.aB,aF [1]]]) (.inr rfl) .nil ?_ PH.nil_le ⟨show Co (.agg _) (.agg _) from CoL.agg (CoL.cons (.refl _) (CoL.cons (.nil 1) (CoL.cons (.refl _) .nil))),rfl⟩
  simp only[go_sem,δ,γ]
  rfl
 have hgcd:=L.gcd (aG (val a)) (aG (val b)) (aT _) (aT _) (qO na) (qO nb)
 rw[aR,aR,aXC,hnb] at hgcd
 simp only[go_sem,γ,decide_eq_false c1,aeQ]
 refine aA hgcd rfl ?_
 have fin:∀ x y:Nat,x=val a/bIQ (val a) (val b)→y=val b/bIQ (val a) (val b)→∀ (F:PF) (H:PH),F 0=some (.bool neg)→F 1=some (aF (aG x))→F 2=some (aF (aG y))→F 6=some (.ptr o 3 0 0)→H o=some (.rows 3 [[.bool false,.aB,.aB]]) →
   aC.wp C (.seq (.region uJ) .ret) (aU [.cell 6 (some 3)] (bZ (.agg (kR neg (val a) (val b)).rf.cells))) F H:=by
  intro x y hx hy F H f0 f1 f2 f6 hH
  subst hx; subst hy
  simp only[go_sem,δ,γ,θ,uJ,f0,f1,f2,f6,hH]
  have hq:val a/bIQ (val a) (val b)≠0:=by
   have:=Nat.div_pos (Nat.gcd_le_left (val b) (bKR c1)) (bKR hg0)
   omega
  have e:(kR neg (val a) (val b)).rf=⟨neg,aG (val a/bIQ (val a) (val b)),aG (val b/bIQ (val a) (val b))⟩:=by
   unfold kR FV.rf
   simp only[hq,ne_eq,not_false_eq_true,decide_true,bKL]
  rw[e]
  refine aW (vs:=[.agg (dY neg (aG (val a/bIQ (val a) (val b))) (aG (val b/bIQ (val a) (val b))))]) (.inr rfl) .nil ?_ PH.nil_le ⟨.refl _,rfl⟩
  simp only[go_sem,δ,γ,f6]
 simp only[aC.wp,go_sem] at fin
 have hd:=fun x (hx:nl x≤512)=>L.div (aG x) (aG (bIQ (val a) (val b))) (aT _) (aT _) (qO hx) (qO ng)
 simp only[aR,kV] at hd
 have tail:bIQ (val a) (val b)≠1→∀ (F:PF) (H:PH),F 0=some (.bool neg)→F 1=some (aF (aG (val a)))→F 2=some (aF (aG (val b)))→F 6=some (.ptr o 3 0 0)→F 7=some (aF (aG (bIQ (val a) (val b))))→H o=some (.rows 3 [[.bool false,.aB,.aB]]) →
   aC.wp C (.seq (.seq (.region HX) (.region HY)) (.seq (.region uJ) .ret)) (aU [.cell 6 (some 3)] (bZ (.agg (kR neg (val a) (val b)).rf.cells))) F H:=by
  intro _ F H f0 f1 f2 f6 f7 hH
  have d1:=hd (val a) na
  have d2:=hd (val b) nb
  rw[fV na ng,if_neg hg0] at d1
  rw[fV nb ng,if_neg hg0] at d2
  simp only[go_sem,γ,HX,f1,f7]
  refine aA d1 rfl ?_
  simp only[go_sem,γ,bLL,HY,f2,f7]
  refine aA d2 rfl ?_
  simp only[go_sem,γ,bLL]
  exact fin _ _ rfl rfl _ _ (by simp only[go_sem,reduceCtorEq,f0]) rfl rfl (by simp only[go_sem,γ,f6]) hH
 simp only[aC.wp,go_sem] at tail
 simp only[go_sem,γ,bLL,aeR,bIM,aZ]
 by_cases c2:nl (bIQ (val a) (val b))>1
 ·have c2':((nl (bIQ (val a) (val b)):Nat):Int)>1:=by omega
  simp only[go_sem,γ,c2']
  exact tail ((vY hg0).1 (.inl c2)) _ _ rfl rfl rfl rfl rfl Sq
 ·have c2':¬ ((nl (bIQ (val a) (val b)):Nat):Int)>1:=by omega
  simp only[go_sem,ν,γ,reduceCtorEq,c2',aaY hg0]
  by_cases c3:bIQ (val a) (val b)%4294967296>1
  ·have c3':((bIQ (val a) (val b)%4294967296:Nat):Int)>1:=by omega
   simp only[go_sem,c3']
   exact tail ((vY hg0).1 (.inr c3)) _ _ rfl rfl rfl rfl (by simp only[go_sem,γ,aaY hg0]) Sq
  ·have c3':¬ ((bIQ (val a) (val b)%4294967296:Nat):Int)>1:=by omega
   have h1:bIQ (val a) (val b)=1:=by
    rcases Decidable.em (bIQ (val a) (val b)=1) with h | h
    ·exact h
    ·rcases (vY hg0).2 h with h | h
     ·exact absurd h c2
     ·exact absurd h c3
   simp only[go_sem,c3']
   exact fin (val a) (val b) (by rw[h1,Nat.div_one]) (by rw[h1,Nat.div_one]) _ _ rfl rfl rfl rfl Sq
theorem biO {C:Ctx} (v:Int) (h1:-9223372036854775808≤v) (h2:v≤9223372036854775807) :
  ID.wp C (aU aeY.res (aE (.int .u64 (v.natAbs:Nat)))) (PF.args [.int .i64 v]) .nil:=by
 simp only[go_sem,γ,reduceCtorEq,ID,aIG,aIH,aeY]
 by_cases c:v<0
 ·have e1:IntKind.i64.wrap (v+1)=v+1:=wrap_i64 Om Om
  have e2:IntKind.i64.wrap (0-(v+1))=-(v+1):=by rw[wrap_i64 Om Om]; omega
  have e3:IntKind.u64.wrap (IntKind.u64.wrap (-(v+1))+1)=((v.natAbs:Nat):Int):=by
   rw[eZ,eZ]; omega
  simp only[go_sem,γ,reduceCtorEq,c,aII,e1,e2,e3]
  refine aM (.inr rfl) rfl ?_
  rfl
 ·have e:IntKind.u64.wrap v=((v.natAbs:Nat):Int):=by
   rw[eZ]; omega
  simp only[go_sem,γ,reduceCtorEq,c,aIJ,e]
  refine aM (.inr rfl) rfl ?_
  rfl
structure aVL (C:Ctx):Prop extends atQ C where
 lowest:∀ neg a b,Lim a→Lim b→a.length≤35184372087808→b.length≤35184372087808→nl (val a)≤512→nl (val b)≤512→val b≠0→aD C 58 [.bool neg,aF a,aF b] .nil (aE (.agg (kR neg (val a) (val b)).rf.cells))
 size:∀ v:Int,cU v→aD C 59 [.int .i64 v] .nil (aE (.int .u64 (v.natAbs:Nat)))
def mkT (n d:Int):RF:=(kR (decide (n<0) != decide (d<0)) n.natAbs d.natAbs).rf
def CN (n d:Int):PV:=if d=0 then xM 3 else .tup [.agg (mkT n d).cells,.int .i64 0]
theorem biI {C:Ctx} (L:aVL C) (n d:Int) (h1:cU n) (h2:cU d) :
  HZ.wp C (aU RI.res (bZ (CN n d))) (PF.args [.int .i64 n,.int .i64 d]) .nil:=by
 simp only[go_sem,δ,HZ,aHT,aHU]
 refine aQ fun o ho=>?_
 unfold CN
 by_cases c:d=0
 ·subst c
  simp only[go_sem,ρ,δ,γ,aHV]
  refine fW ?_
  simp only[go_sem,δ,γ,RI]
 ·rw[if_neg c]
  simp only[go_sem,γ,reduceCtorEq,bF c,aHW]
  refine aA (L.size n h1) rfl ?_
  simp only[go_sem]
  refine aA (L.make n.natAbs Om) rfl ?_
  simp only[go_sem,γ]
  refine aA (L.size d h2) rfl ?_
  simp only[go_sem]
  refine aA (L.make d.natAbs Om) rfl ?_
  simp only[go_sem]
  have n1:nl n.natAbs≤2:=lO Om
  have n2:nl d.natAbs≤2:=lO Om
  have low:=L.lowest (decide (n<0) != decide (d<0)) (aG n.natAbs) (aG d.natAbs) (aT _) (aT _) (by rw[aZ]; omega) (by rw[aZ]; omega)
  rw[aR,aR] at low
  have low:=low Om Om Om
  refine aA low rfl ?_
  simp only[go_sem,δ,γ]
  exact aW (.inr rfl) .nil (vs:=[.agg (mkT n d).cells,.int .i64 0]) (by simp only[go_sem,δ,γ,RI]; rfl) PH.nil_le ⟨.refl _,rfl⟩
structure atR (C:Ctx):Prop extends aVL C where
 fmk:∀ n d:Int,cU n→cU d→aD C 50 [.int .i64 n,.int .i64 d] .nil (aE (CN n d))
theorem boR {C:Ctx} (L:atR C) (n:Int) (h1:cU n) :
  PD.wp C (aU aHQ.res (bZ (.agg (mkT n 1).cells))) (PF.args [.int .i64 n]) .nil:=by
 simp only[go_sem,δ,PD,aUC,aUD,aHQ]
 refine aQ fun o ho=>?_
 simp only[go_sem,reduceCtorEq]
 refine aA (L.fmk n 1 h1 (by unfold cU; omega)) rfl ?_
 unfold CN
 rw[if_neg (by decide)]
 simp only[go_sem,δ,γ]
 refine aQ fun p hp=>?_
 have hne:o≠p:=by
  rintro rfl
  simp only[bH,if_true] at hp
  cases hp
 have bHN:p≠o:=fun h=>hne h.symm
 simp only[go_sem,δ,γ,hne,aUE]
 refine aW (vs:=[.agg (mkT n 1).cells]) (.inr rfl) .nil ?_ PH.nil_le ⟨.refl _,rfl⟩
 simp only[go_sem,δ,γ,bHN]
def eX (l:List Nat) (n a:Nat):Nat × Nat:=if l.length≤a∨n<2 then (0,a) else (l.getD a 0%n,a+1)
def atB (l:List Nat) (a:Nat):RF × Nat :=
 let x:=eX l 6 a
 let y:=eX l 8 x.2
 (mkT ((1+x.1:Nat):Int) ((1+y.1:Nat):Int),y.2)
abbrev nZ:RF:=mkT 0 1
def btN (l:List Nat) (i j a:Nat):RF × Nat :=
 if j=i+1 then atB l a
 else if j=i then (nZ,a)
 else let t:=eX l 3 a
  if t.1=0 then atB l t.2 else (nZ,t.2)
def brJ (l:List Nat) (i a:Nat):Nat→List RF × Nat
 | 0=>([],a)
 | j+1=>let s:=brJ l i a j
  let z:=btN l i j s.2
  (s.1++[z.1],z.2)
structure bpN where
 start:List RF
 exit:List RF
 bGN:List (List RF)
 left:Nat
 a:Nat
def buF (l:List Nat) (n i:Nat) (s:bpN):Nat × Nat:=if i+1<n then eX l (s.left+1) s.a else (s.left,s.a)
def buA (l:List Nat) (n i a:Nat):RF × Nat :=
 let e:=atB l a
 if i+1<n then (let t:=eX l 3 e.2; (if t.1=0 then nZ else e.1,t.2)) else e
def bqC (l:List Nat) (n a:Nat):Nat→bpN
 | 0=>⟨[],[],[],8,a⟩
 | i+1=>let s:=bqC l n a i
  let k:=buF l n i s
  let e:=buA l n i k.2
  let r:=brJ l i e.2 n
  ⟨s.start++[mkT (k.1:Nat) 8],s.exit++[e.1],s.bGN++[r.1],s.left-k.1,r.2⟩
def bAR (l:List Nat) (bqT a:Nat):cI × Nat :=
 let t:=eX l bqT a
 let s:=bqC l (1+t.1) t.2 (1+t.1)
 (⟨[],s.start,s.bGN,s.exit⟩,s.a)
def brD (l:List Nat) (a:Nat):Nat→List RF × Nat
 | 0=>([],a)
 | k+1=>let s:=brD l a k
  let z:=atB l s.2
  (s.1++[z.1],z.2)
abbrev xS (n:Nat):List UInt8:=Lib.decDigits n
def bjF (l:List Nat) (a:Nat):Nat→List cI × Nat
 | 0=>([],a)
 | k+1=>let s:=bjF l a k
  let z:=bAR l 2 s.2
  (s.1++[{ z.1 with name:=[108,97,119]++xS k }],z.2)
def aOS (l:List Nat) (bGR a:Nat):Nat→List cS × Nat
 | 0=>([],a)
 | k+1=>let s:=aOS l bGR a k
  let x:=eX l 4 s.2
  let y:=eX l 8 x.2
  let z:=eX l bGR y.2
  (s.1++[⟨[109]++xS k,(1+x.1:Nat),(1+y.1:Nat),(z.1:Nat)⟩],z.2)
structure GS where
 bGT:List bR
 bHH:List cC
 a:Nat
def bjA (l:List Nat) (mc bGI domain:Nat) (s:GS):Nat→GS
 | 0=>s
 | i+1=>let s:=bjA l mc bGI domain s i
  if s.bHH.length<bGI then
   let t:=eX l mc s.a
   { s with bHH:=s.bHH++[⟨[100]++xS s.bHH.length,(t.1:Nat),(domain:Nat)⟩],a:=t.2 }
  else s
def aOP (level:Nat):UInt8:=match level with
 | 0=>45
 | 1=>115
 | 2=>114
 | 3=>107
 | _=>109
def bAJ (l:List Nat) (level domain:Nat) (s:GS):GS :=
 let u:=eX l 16 s.a
 let t:=eX l 3 u.2
 let k:=eX l 6 t.2
 let sh:RF × Nat:=if t.1=0 then (mkT 1 ((2+k.1:Nat):Int),k.2) else (nZ,t.2)
 { s with bGT:=s.bGT++[⟨[aOP level]++xS s.bGT.length,(level:Nat),(domain:Nat),(1+u.1:Nat),sh.1⟩],a:=sh.2 }
def buC (bGI:Nat) (s:GS):Bool:=decide (bGI≤s.bHH.length)||decide (35≤s.bGT.length)
def bjB (l:List Nat) (level bGI domain:Nat) (rec:Nat→GS→GS) (s:GS):Nat→GS
 | 0=>s
 | i+1=>let s:=bjB l level bGI domain rec s i
  if buC bGI s then s else (let s':=bAJ l level domain s; rec (s'.bGT.length-1) s')
def bjD (l:List Nat) (mc bGI:Nat):Nat→Nat→GS→GS
 | 0,domain,s=>let t:=eX l 2 s.a
  bjA l mc bGI domain { s with a:=t.2 } (1+t.1)
 | k+1,domain,s=>let t:=eX l 2 s.a
  bjB l (4-k) bGI domain (bjD l mc bGI k) { s with a:=t.2 } (if 4-k=2 then 1 else 1+t.1)
def iR:bR:=⟨[],0,-1,0,nZ⟩
def QZ (l:List Nat) (a:Nat):Int × Nat :=
 let t:=eX l 3 a
 let k:=eX l 3 t.2
 if t.1=0 then ((1+k.1:Nat),k.2) else (0,t.2)
def bnD (l:List Nat) (bGJ i a:Nat):cY × Nat :=
 let k:=eX l 2 a
 let m:=eX l 3 k.2
 let h:=eX l 4 m.2
 let q:=eX l (m.1+1) h.2
 let r:=brD l q.2 (max m.1 1)
 let g:=eX l 9 r.2
 let s1:=QZ l g.2
 let s2:=QZ l s1.2
 let s3:=QZ l s2.2
 let s4:=QZ l s3.2
 let f:=eX l bGJ s4.2
 let b:=eX l 2 f.2
 let ms:List Int × Nat:=if 1<bGJ then (if b.1=0 then ([(f.1:Int),1-(f.1:Int)],b.2) else ([(f.1:Int)],b.2)) else ([(f.1:Int)],f.2)
 (⟨[112]++xS i,(1+k.1:Nat),(m.1:Nat),(1+k.1+q.1:Nat),0,s1.1,s2.1,s3.1,s4.1,ms.1,r.1,mkT (g.1:Nat) 8,mkT ((1+h.1:Nat):Int) 1⟩,ms.2)
def aoR (l:List Nat) (bGJ a:Nat):Nat→List cY × Nat
 | 0=>([],a)
 | k+1=>let s:=aoR l bGJ a k
  let z:=bnD l bGJ k s.2
  (s.1++[z.1],z.2)
def aIA (l:List Nat) (pols a:Nat):Nat→List dZ × Nat
 | 0=>([],a)
 | k+1=>let s:=aIA l pols a k
  let z:=eX l pols s.2
  (s.1++[⟨[118]++xS k,(z.1:Nat)⟩],z.2)
def aaB (l:List Nat) (bGI bGK a:Nat):aL × Nat :=
 let e:=eX l 2 a
 let lw:=eX l 2 e.2
 let bGR:=bjF l lw.2 (1+lw.1)
 let md:=eX l 2 bGR.2
 let bGJ:=aOS l (1+lw.1) md.2 (1+md.1)
 let g:=bjD l (1+md.1) bGI 4 0 ⟨[iR],[],bGJ.2⟩
 let pl:=eX l 2 g.a
 let pols:=aoR l (1+md.1) pl.2 (1+pl.1)
 let vo:=eX l (bGK+1) pols.2
 let vols:=aIA l (1+pl.1) vo.2 vo.1
 (⟨(1+e.1:Nat),bGR.1,bGJ.1,g.bGT,g.bHH,pols.1,vols.1⟩,vols.2)
def nxM (l:List Int) (n a:Nat):Nat:=if n=0 then 0 else ((l.getD a ((a%3:Nat):Int))%(n:Int)).toNat
theorem cK (l:List Int) {n:Nat} (h:0<n) (a:Nat):nxM l n a<n:=by
 unfold nxM
 rw[if_neg Om]
 have h1:=Int.emod_lt_of_pos (l.getD a ((a%3:Nat):Int)) (Om:(0:Int)<n)
 have h2:=Int.emod_nonneg (l.getD a ((a%3:Nat):Int)) (Om:(n:Int)≠0)
 omega
def dK (c:UInt8) (n:Nat):List UInt8:=[c,UInt8.ofNat (97+n/26%26),UInt8.ofNat (97+n%26)]
def dH (ds:List bR) (level parent bHI:Nat):List bR:=ds++[⟨dK 110 ds.length,(level:Nat),(parent:Nat),(bHI:Nat),nZ⟩]
structure MS where
 bGT:List bR
 bHH:List cC
 site:Nat
 room:Nat
 rack:Nat
 a:Nat
def eH (l:List Int) (i:Nat) (s:MS):MS :=
 let new (a:Nat):MS :=
  let d1:=dH s.bGT 1 0 (16+nxM l 17 a)
  let d2:=dH d1 2 s.bGT.length (16+nxM l 17 (a+1))
  let d3:=dH d2 3 d1.length (8+nxM l 9 (a+2))
  ⟨d3,s.bHH,s.bGT.length,d1.length,d2.length,a+3⟩
 if i=0 then new s.a
 else if nxM l 4 s.a=0 then new (s.a+1)
 else if nxM l 2 (s.a+1)=0 then ⟨dH s.bGT 3 s.room (8+nxM l 9 (s.a+2)),s.bHH,s.site,s.room,s.bGT.length,s.a+3⟩
 else { s with a:=s.a+2 }
def gZ (l:List Int) (m:Nat):Nat→List cC × Nat→List cC × Nat
 | 0,s=>s
 | k+1,s=>if s.1.length<9 then gZ l m k (s.1++[⟨dK 100 s.1.length,((if nxM l 4 s.2=0 then 1 else 0:Nat):Int),(m:Nat)⟩],s.2+1) else s
def xV (l:List Int) (i:Nat) (s:MS):MS :=
 let p:=eH l i s
 let ds:=dH p.bGT 4 p.rack (8+nxM l 9 p.a)
 let d:=gZ l p.bGT.length (1+nxM l 2 (p.a+1)) (p.bHH,p.a+2)
 { p with bGT:=ds,bHH:=d.1,a:=d.2 }
def eE (l:List Int) (s:MS):Nat→MS
 | 0=>s
 | i+1=>xV l i (eE l s i)
def oE (l:List Int) (n a:Nat):cY :=
 let k:=1+nxM l 2 a
 let m:=nxM l 3 (a+1)
 ⟨dK 112 n,(k:Nat),(m:Nat),(k+nxM l (m+1) (a+2):Nat),0,0,0,(nxM l 4 (a+3):Nat),(nxM l 3 (a+4):Nat),if nxM l 5 (a+5)=0 then [0] else [0,1],bIP (max m 1) (mkT 1 2),mkT 1 1000,mkT 30 1⟩
def gU (l:List Int):Nat→Nat→List cY
 | 0,_=>[]
 | n+1,a=>oE l (n+1) a::gU l n (a+6)
def kN (l:List Int) (pols:Nat):Nat→Nat→List dZ
 | 0,_=>[]
 | n+1,a=>⟨dK 118 (n+1),(nxM l pols a:Nat)⟩::kN l pols n (a+1)
def dC (l:List Int) (bGK a:Nat):aL × Nat :=
 let law:cI:=⟨[100,105,115,107],[mkT 1 1],[[mkT 0 1]],[mkT 1 ((100+nxM l 100 (a+1):Nat):Int)]⟩
 let m1:cS:=⟨[98,105,103],(3+nxM l 2 (a+2):Nat),(8+nxM l 9 (a+3):Nat),0⟩
 let m2:cS:=⟨[111,108,100],(1+nxM l 3 (a+4):Nat),(4+nxM l 9 (a+5):Nat),0⟩
 let s:=eE l ⟨[iR],[],0,0,0,a+7⟩ (3+nxM l 3 (a+6))
 let np:=1+nxM l 2 s.a
 let nv:=1+nxM l bGK (s.a+1+6*np)
 (⟨(1+nxM l 2 a:Nat),[law],[m1,m2],s.bGT,s.bHH,gU l np (s.a+1),kN l np nv (s.a+2+6*np)⟩,s.a+2+6*np+nv)
def oQ (row:List Int) (n:Nat):Nat→Nat→Nat
 | 0,d=>d
 | k+1,d=>if row.contains (d:Int) then oQ row n k ((d+1)%n) else d
def uB (l:List Int) (row:List Int) (n a:Nat):Int × Nat :=
 let d:=oQ row n n (nxM l n a)
 if row.contains (d:Int) then (-1,a+1) else if nxM l 12 (a+1)=0 then (-1,a+2) else ((d:Int),a+2)
def jM (l:List Int) (n a:Nat):Nat→List Int × Nat
 | 0=>([],a)
 | i+1=>let s:=jM l n a i
  let z:=uB l s.1 n s.2
  (s.1++[z.1],z.2)
def cX (l:List Int) (f:aL) (a:Nat):Nat→List (List Int) × Nat
 | 0=>([],a)
 | v+1=>let s:=cX l f a v
  let r:=jM l f.bGI.length s.2 (fA f v).toNat
  (s.1++[r.1],r.2)
def vO (l:List Int) (x:Int) (a:Nat):Int × Nat :=
 if nxM l 9 a=0 then (0,a+1) else if nxM l 9 a=1 then ((nxM l (x+1).toNat (a+1):Nat),a+2) else (x,a+1)
def eW (l:List Int):List Int→Nat→List Int × Nat
 | [],a=>([],a)
 | x::xs,a=>let z:=vO l x a
  let r:=eW l xs z.2
  (z.1::r.1,r.2)
theorem aLX (l:List Int) (m:Nat):∀ (k:Nat) (s:List cC × Nat),s.1.length≤9→(gZ l m k s).1.length≤9∧s.2≤(gZ l m k s).2∧(gZ l m k s).2≤s.2+k
 | 0,s,h=>⟨h,bIO _,bIO _⟩
 | k+1,s,h=>by
  rw[gZ]
  split
  ·have:=aLX l m k (s.1++[⟨dK 100 s.1.length,((if nxM l 4 s.2=0 then 1 else 0:Nat):Int),(m:Nat)⟩],s.2+1) (by simp; omega)
   simp only at this
   omega
  ·exact⟨h,bIO _,by omega⟩
theorem aOR (a b:Nat):mkT (a:Int) (b:Int)=⟨false,aG (a/bIQ a b),aG (b/bIQ a b)⟩:=by
 have h1:decide ((a:Int)<0)=false:=decide_eq_false Om
 have h2:decide ((b:Int)<0)=false:=decide_eq_false Om
 unfold mkT kR FV.rf
 rw[h1,h2,Int.natAbs_natCast,Int.natAbs_natCast]
 rfl
structure SmF (x:RF) (p q:Nat):Prop where
 eq:x=⟨false,aG (p/bIQ p q),aG (q/bIQ p q)⟩
 a:p≤64
 b:q≤64
 pos:0<q
theorem SmF.mk' {a b:Nat} (ha:a≤64) (hb:b≤64) (h:0<b):SmF (mkT (a:Int) (b:Int)) a b:=⟨aOR a b,ha,hb,h⟩
theorem SmF.num {x:RF} {a b:Nat} (h:SmF x a b):val x.num=a/bIQ a b:=by rw[h.eq,aR]
theorem SmF.den {x:RF} {a b:Nat} (h:SmF x a b):val x.den=b/bIQ a b:=by rw[h.eq,aR]
theorem SmF.v {x:RF} {a b:Nat} (h:SmF x a b):x.v=(false,a/bIQ a b,b/bIQ a b):=by
 unfold RF.v
 rw[h.num,h.den,h.eq]
theorem SmF.aCU {x:RF} {a b:Nat} (_:SmF x a b):a/bIQ a b≤a:=Nat.div_le_self ..
theorem SmF.auW {x:RF} {a b:Nat} (_:SmF x a b):b/bIQ a b≤b:=Nat.div_le_self ..
theorem SmF.den_pos {x:RF} {a b:Nat} (h:SmF x a b):0<b/bIQ a b:=Nat.div_pos (Nat.le_of_dvd h.pos (Nat.gcd_dvd_right a b)) (Nat.gcd_pos_of_pos_right a h.pos)
theorem uR {n:Nat} (h:n≤4096):cD n≤32:=(kE n 32).2 Om
theorem aJN {n:Nat} (h:0<n):0<cD n:=by
 rcases bLK (cD n) with e | e
 ·rw[iV] at e; omega
 ·exact e
theorem PC {a b:Nat} (ha:a≤4096) (hb:b≤4096) (h:0<b):cM a b=true:=by
 have h1:=uR ha
 have h2:=uR hb
 have h3:=aJN h
 unfold cM
 rw[decide_eq_true h3,decide_eq_true (Om:cD b≤4096),decide_eq_true (Om:cD a≤4096)]
 rfl
theorem bmE {n:Bool} {a b:Nat} (ha:a≤4096) (hb:b≤4096):fZ n a b=.ok (n&&decide (a/bIQ a b≠0),a/bIQ a b,b/bIQ a b):=by
 have h1:=uR (Nat.le_trans (Nat.div_le_self a (bIQ a b)) ha)
 have h2:=uR (Nat.le_trans (Nat.div_le_self b (bIQ a b)) hb)
 unfold fZ
 rw[if_neg Om]
theorem SmF.lim {x:RF} {a b:Nat} (h:SmF x a b):cG x=true:=by
 have h1:=h.aCU
 have h2:=h.auW
 have h3:=h.den_pos
 have:=h.a
 have:=h.b
 have hn:x.neg=false:=by rw[h.eq]
 unfold cG mG
 rw[h.num,h.den,hn,PC Om Om h3,if_pos rfl,bmE Om Om]
 have e1:=Nat.div_le_self (a/bIQ a b) (bIQ (a/bIQ a b) (b/bIQ a b))
 have e2:=Nat.div_le_self (b/bIQ a b) (bIQ (a/bIQ a b) (b/bIQ a b))
 simp only[bIS,bJB,bIY,bJI,decide_eq_true_eq]
 exact⟨uR Om,uR Om⟩
theorem SmF.tO {x:RF} {a b:Nat} (h:SmF x a b) (ha:0<a):cA x=true:=by
 unfold cA
 rw[h.num]
 exact decide_eq_true (Nat.ne_of_gt (Nat.div_pos (Nat.le_of_dvd ha (Nat.gcd_dvd_left a b)) (Nat.gcd_pos_of_pos_right a h.pos)))
theorem SmF.zero {x:RF} {b:Nat} (h:SmF x 0 b):cA x=false:=by
 unfold cA
 rw[h.num,Nat.zero_div]
 rfl
theorem SmF.one {x:RF} {a b:Nat} (h:SmF x a b) (hab:a≤b):rN x=true:=by
 have h1:=h.aCU
 have h2:=h.auW
 have h3:=h.den_pos
 have:=h.a
 have:=h.b
 have hn:x.neg=false:=by rw[h.eq]
 unfold rN
 rw[h.num,h.den,hn,PC Om Om h3]
 have:a/bIQ a b≤b/bIQ a b:=Nat.div_le_div_right hab
 show (true&&decide (dA (a/bIQ a b*1) (1*(b/bIQ a b))≤0))=true
 rw[Nat.mul_one,Nat.one_mul,bIY]
 refine decide_eq_true ?_
 unfold dA
 split
 ·decide
 ·split
  ·omega
  ·decide
theorem SmF.ok {x:RF} {a b:Nat} (h:SmF x a b):x.Ok:=by
 have h1:=h.aCU
 have h2:=h.auW
 have:=h.a
 have:=h.b
 have k1:nl (a/bIQ a b)≤1:=(gI _ _).2 Om
 have k2:nl (b/bIQ a b)≤1:=(gI _ _).2 Om
 rw[h.eq]
 refine⟨aT _,aT _,?_,?_⟩
 ·show (aG _).length≤_
  rw[aZ]; omega
 ·show (aG _).length≤_
  rw[aZ]; omega
theorem RN {l:List (List UInt8)} (h1:∀ x∈l,isName x=true) (h2:l.Nodup):distinct l=true:=by
 unfold distinct
 rw[bJJ]
 intro i hi
 rw[bKB] at hi
 have e:l.getD i []=l[i]:=by simp[bJG,hi]
 rw[e,h1 _ (bIR hi),bIY]
 have:¬ l[i]∈l.take i:=by
  intro hm
  obtain⟨j,hj,e⟩:=bKQ hm
  rw[bJF] at hj
  rw[List.getElem_take] at e
  have:=(List.nodup_iff_pairwise_ne.1 h2)
  rw[List.pairwise_iff_getElem] at this
  exact this j i Om hi Om e
 simp[this]
theorem MH {l:List (List UInt8)} {g:List UInt8→Nat} (h:∀ i (hi:i<l.length),g l[i]=i):l.Nodup:=by
 rw[List.nodup_iff_pairwise_ne,List.pairwise_iff_getElem]
 intro i j hi hj hlt e
 have h1:=h i hi
 have h2:=h j hj
 rw[e] at h1
 omega
theorem mU (a b:Nat) (ha:a<4294967296) (hb:b<4294967296):(mkT (a:Int) (b:Int)).Ok:=by
 rw[aOR]
 have h1:=Nat.div_le_self a (bIQ a b)
 have h2:=Nat.div_le_self b (bIQ a b)
 have k1:nl (a/bIQ a b)≤1:=(gI _ _).2 Om
 have k2:nl (b/bIQ a b)≤1:=(gI _ _).2 Om
 refine⟨aT _,aT _,?_,?_⟩
 ·show (aG _).length≤_
  rw[aZ]; omega
 ·show (aG _).length≤_
  rw[aZ]; omega
theorem jV {n:Nat} (h:n≤1000000):cU (n:Int):=by unfold cU; omega
def JN (ds:List bR):Prop:=∀ x∈ds,x.bHA.Ok∧cU x.level∧cU x.parent
def XR (ds:List cC):Prop:=∀ x∈ds,cU x.model∧cU x.machine
theorem JN.dom {ds:List bR} (h:JN ds) {level parent bHI:Nat} (h1:level≤1000) (h2:parent≤1000):JN (dH ds level parent bHI):=fun x hx=>by
 unfold dH at hx
 rw[bJY,bJU] at hx
 rcases hx with hx | rfl
 ·exact h x hx
 ·exact⟨mU 0 1 (by decide) (by decide),jV Om,jV Om⟩
structure MOk (k:Nat) (a0:Nat) (s:MS):Prop where
 len:s.bGT.length≤1+4*k
 bGT:JN s.bGT
 dlen:s.bHH.length≤9
 bHH:XR s.bHH
 room:s.room≤4*k
 rack:s.rack≤4*k
 lo:a0≤s.a
 hi:s.a≤a0+8*k
structure POk (k:Nat) (a0:Nat) (s:MS):Prop where
 len:s.bGT.length≤4+4*k
 bGT:JN s.bGT
 dlen:s.bHH.length≤9
 bHH:XR s.bHH
 room:s.room≤3+4*k
 rack:s.rack≤3+4*k
 lo:a0≤s.a
 hi:s.a≤a0+8*k+4
theorem mS (ds:List bR) (a b c:Nat):(dH ds a b c).length=ds.length+1:=by simp[dH]
theorem TB (l:List Int) (i:Nat) {k a0:Nat} {s:MS} (hk:k≤100) (h:MOk k a0 s):POk k a0 (eH l i s):=by
 obtain⟨h1,h2,h3,h4,h5,h6,h7,h8⟩:=h
 have key:∀ a,s.a≤a→a≤s.a+1→POk k a0 ⟨dH (dH (dH s.bGT 1 0 (16+nxM l 17 a)) 2 s.bGT.length (16+nxM l 17 (a+1))) 3 (dH s.bGT 1 0 (16+nxM l 17 a)).length (8+nxM l 9 (a+2)),s.bHH,s.bGT.length,(dH s.bGT 1 0 (16+nxM l 17 a)).length,(dH (dH s.bGT 1 0 (16+nxM l 17 a)) 2 s.bGT.length (16+nxM l 17 (a+1))).length,a+3⟩:=fun a g1 g2 =>
  ⟨by simp only[mS]; omega,((h2.dom Om Om).dom Om Om).dom Om (by rw[mS]; omega),h3,h4,by simp only[mS]; omega,by simp only[mS]; omega,by simp only; omega,by simp only; omega⟩
 unfold eH
 simp only
 split
 ·exact key _ (bIO _) Om
 ·split
  ·exact key _ Om (bIO _)
  ·split
   ·exact⟨by simp only[mS]; omega,h2.dom Om Om,h3,h4,by simp only; omega,by simp only; omega,by simp only; omega,by simp only; omega⟩
   ·exact⟨by simp only; omega,h2,h3,h4,by simp only; omega,by simp only; omega,by simp only; omega,by simp only; omega⟩
theorem alI (l:List Int) {m:Nat} (hm:m≤1000):∀ (k:Nat) (s:List cC × Nat),XR s.1→XR (gZ l m k s).1
 | 0,s,h=>h
 | k+1,s,h=>by
  rw[gZ]
  split
  ·refine alI l hm k _ fun x hx=>?_
   rw[bJY,bJU] at hx
   rcases hx with hx | rfl
   ·exact h x hx
   ·refine⟨jV ?_,jV Om⟩
    split<;>omega
  ·exact h
theorem aXW (l:List Int) (i:Nat) {k a0:Nat} {s:MS} (hk:k≤100) (h:MOk k a0 s):MOk (k+1) a0 (xV l i s):=by
 obtain⟨h1,h2,h3,h4,h5,h6,h7,h8⟩:=TB l i hk h
 have n2:=cK l (show 0<2 by decide) ((eH l i s).a+1)
 unfold xV
 simp only
 obtain⟨g1,g2,g3⟩:=aLX l (eH l i s).bGT.length (1+nxM l 2 ((eH l i s).a+1)) ((eH l i s).bHH,(eH l i s).a+2) h3
 have g4:=alI l (m:=(eH l i s).bGT.length) Om (1+nxM l 2 ((eH l i s).a+1)) ((eH l i s).bHH,(eH l i s).a+2) h4
 simp only at g2 g3
 exact⟨by simp only[mS]; omega,h2.dom Om Om,g1,g4,by simp only; omega,by simp only; omega,by simp only; omega,by simp only; omega⟩
theorem oL (l:List Int) {a0:Nat} {s:MS} (h:MOk 0 a0 s):∀ k,k≤100→MOk k a0 (eE l s k)
 | 0,_=>h
 | k+1,hk=>aXW l k Om (oL l h k Om)
theorem abO (a:Nat):MOk 0 a ⟨[iR],[],0,0,0,a⟩ :=
 ⟨by simp,fun x hx=>by
  rw[bJU] at hx
  subst hx
  exact⟨mU 0 1 (by decide) (by decide),by unfold cU iR; simp,by unfold cU iR; simp⟩,by simp,(fun x hx=>by cases hx),by simp,by simp,bIO _,by simp only; omega⟩
theorem pL (l:List Int):∀ n a,(gU l n a).length=n
 | 0,_=>rfl
 | n+1,a=>by rw[gU,bKH,pL l n]
theorem yL (l:List Int) (p:Nat):∀ n a,(kN l p n a).length=n
 | 0,_=>rfl
 | n+1,a=>by rw[kN,bKH,yL l p n]
theorem blQ:(mkT 1 2).Ok:=mU 1 2 (by decide) (by decide)
theorem bnA (l:List Int) (n a:Nat):(oE l n a).Ok:=by
 have n1:=cK l (show 0<2 by decide) a
 have n2:=cK l (show 0<3 by decide) (a+1)
 have n3:=cK l (Om:0<nxM l 3 (a+1)+1) (a+2)
 unfold oE
 refine⟨jV Om,jV Om,jV Om,?_,?_,⟨?_,?_⟩,mU 1 1000 (by decide) (by decide),mU 30 1 (by decide) (by decide)⟩
 ·simp only; split<;>decide
 ·simp only
  intro m hm
  split at hm
  ·rw[bJU] at hm; subst hm; exact jV (n:=0) (by decide)
  ·rw[bJA,bJU] at hm
   rcases hm with rfl | rfl
   ·exact jV (n:=0) (by decide)
   ·exact jV (n:=1) (by decide)
 ·show (bIP _ _).length≤_
  rw[bLX]; omega
 ·intro x hx
  rw[List.eq_of_mem_replicate hx]; exact blQ
theorem aDR (l:List Int):∀ n a,∀ p∈gU l n a,p.Ok
 | 0,_,p,h=>by cases h
 | n+1,a,p,h=>by
  rw[gU,bJA] at h
  rcases h with rfl | h
  ·exact bnA l _ _
  ·exact aDR l n _ p h
theorem aHZ (l:List Int) {p:Nat} (hp:0<p) (hp2:p≤1000):∀ n a,∀ x∈kN l p n a,0≤x.bGW∧x.bGW<p∧cU x.bGW
 | 0,_,x,h=>by cases h
 | n+1,a,x,h=>by
  rw[kN,bJA] at h
  rcases h with rfl | h
  ·have:=cK l hp a
   exact⟨by simp only; omega,by simp only; omega,jV Om⟩
  ·exact aHZ l hp hp2 n _ x h
theorem aDQ (l:List Int):∀ n a,∀ p∈gU l n a,1≤p.k∧p.k≤2∧0≤p.m∧p.m≤2
 | 0,_,p,h=>by cases h
 | n+1,a,p,h=>by
  rw[gU,bJA] at h
  rcases h with rfl | h
  ·have n1:=cK l (show 0<2 by decide) a
   have n2:=cK l (show 0<3 by decide) (a+1)
   unfold oE
   simp only
   omega
  ·exact aDQ l n _ p h
structure FM (f:aL):Prop where
 ok:f.Ok
 km:∀ p∈f.bGM,1≤p.k∧p.k≤2∧0≤p.m∧p.m≤2
 bGI:f.bGI.length≤9
 pols:1≤f.bGM.length∧f.bGM.length≤2
 vols:∀ x∈f.bGK,0≤x.bGW∧x.bGW<f.bGM.length
theorem xL (l:List Int) {bGK:Nat} (hv:bGK≤1000) (a:Nat):FM (dC l bGK a).1∧(dC l bGK a).1.bGK.length≤1+bGK∧a≤(dC l bGK a).2∧(dC l bGK a).2≤a+100+bGK:=by
 have n3:=cK l (show 0<3 by decide) (a+6)
 obtain⟨h1,h2,h3,h4,-,-,h7,h8⟩:=oL l (abO (a+7)) (3+nxM l 3 (a+6)) Om
 unfold dC
 simp only
 generalize eE l ⟨[iR],[],0,0,0,a+7⟩ (3+nxM l 3 (a+6))=s at *
 have n2:=cK l (show 0<2 by decide) s.a
 have nv:nxM l bGK (s.a+1+6*(1+nxM l 2 s.a))≤bGK:=by
  rcases bLK bGK with e | e
  ·subst e; unfold nxM; simp
  ·exact Nat.le_of_lt (cK l e _)
 have n100:=cK l (show 0<100 by decide) (a+1)
 have hvo:=aHZ l (p:=1+nxM l 2 s.a) Om Om (1+nxM l bGK (s.a+1+6*(1+nxM l 2 s.a))) (s.a+2+6*(1+nxM l 2 s.a))
 refine⟨⟨⟨by simp,by simp,by unfold Fits; simp only; omega,by unfold Fits; simp only; omega,by unfold Fits; rw[pL]; omega,by unfold Fits; rw[yL]; omega,?_,h2,h4,fun p hp=>aDR l _ _ p hp,fun x hx=>(hvo x hx).2.2⟩,fun p hp=>aDQ l _ _ p hp,h3,by rw[pL]; omega,fun x hx=>by rw[pL]; exact⟨(hvo x hx).1,by have:=(hvo x hx).2.1; omega⟩⟩,by rw[yL]; omega,by omega,by omega⟩
 intro x hx
 rw[bJU] at hx
 subst hx
 refine⟨⟨by simp,fun x hx=>?_⟩,⟨by simp,fun x hx=>?_⟩,by simp,fun r hr=>?_⟩
 ·rw[bJU] at hx; subst hx; exact mU 1 1 (by decide) (by decide)
 ·rw[bJU] at hx; subst hx; exact mU 1 _ (by decide) Om
 ·rw[bJU] at hr
  subst hr
  refine⟨by simp,fun x hx=>?_⟩
  rw[bJU] at hx; subst hx; exact mU 0 1 (by decide) (by decide)
theorem FM.pol {f:aL} (h:FM f) {v:Nat} (hv:v<f.bGK.length):tL f v<f.bGM.length∧gT f v∈f.bGM:=by
 have h1:=h.vols _ (bIR hv)
 have h2:tL f v=(f.bGK[v]).bGW.toNat:=by rw[tL,nG hv]
 have h3:tL f v<f.bGM.length:=by omega
 refine⟨h3,?_⟩
 unfold gT
 rw[bJG,bIW h3,bLE]
 exact bIR h3
theorem FM.UU {f:aL} (h:FM f) {v:Nat} (hv:v<f.bGK.length):1≤fA f v∧fA f v≤4:=by
 have:=h.km _ (h.pol hv).2
 unfold fA
 omega
theorem CE (l:List Int) (n a:Nat):∀ k,(jM l n a k).1.length=k∧a≤(jM l n a k).2∧(jM l n a k).2≤a+2*k
 | 0=>⟨rfl,bIO _,bIO _⟩
 | k+1=>by
  obtain⟨h1,h2,h3⟩:=CE l n a k
  rw[jM]
  simp only[bIU,bJC,h1,true_and]
  unfold uB
  simp only
  split
  ·simp only; omega
  ·split<;>simp only<;>omega
theorem qI (l:List Int) {f:aL} (hf:FM f) (a:Nat):∀ k,k≤f.bGK.length→(cX l f a k).1.length=k∧(∀ r∈(cX l f a k).1,r.length≤4)∧a≤(cX l f a k).2∧(cX l f a k).2≤a+8*k
 | 0,_=>⟨rfl,(fun r h=>by cases h),bIO _,bIO _⟩
 | k+1,hk=>by
  obtain⟨h1,h2,h3,h4⟩:=qI l hf a k Om
  have hfr:=hf.UU (v:=k) Om
  obtain⟨r1,r2,r3⟩:=CE l f.bGI.length (cX l f a k).2 (fA f k).toNat
  rw[cX]
  simp only[bIU,bJC,h1,true_and]
  refine⟨fun r hr=>?_,by omega,by omega⟩
  rw[bJY,bJU] at hr
  rcases hr with hr | rfl
  ·exact h2 r hr
  ·rw[r1]; omega
def aEN:Rg:=[iA 2 (.box true (Tm 0)),iI 4 0]
def aEO:Rd:=[(iF 6 5 2,false),(iL 7 6,false),(iF 8 6 2,false),(iL 9 8,false),(iM 10 1,false),(iX 11 2 9 10,false),(iF 12 1 11,false),(iL 13 12,false),(iX 14 17 7 13,false),(iO 15 17 14,false),(iA 5 (.alloc [(.str []),(.int .i64 0),(.int .i64 0),(.int .i64 0),(.int .i64 0),(.int .i64 0),(.int .i64 0),(.int .i64 0),(.int .i64 0),.aB,.aB,(.bool false),.aB,.aB,(.bool false),.aB,.aB]),true),(iS 17 5 15,true)]
def aEP:Rg:=[iF 16 1 5,iL 17 16,iF 18 2 5,iL 19 18,iB 20 .add 17 19,iM 4 20]
def GU:aC:=(sq aEN (dq aEO (sq aEP .ret)))
def bgT:List Nat:=[2]
def acV:aV:=⟨2,21,GU,[.tmp 4]⟩
abbrev buT (l:List Nat):List (List PV):=l.map fun (n:Nat)=>[PV.int .u8 (n:Int)]
abbrev atD (v:PV) (a:Nat):cP:=.rows 2 [[v,.int .i64 a]]
structure Tp (l:List Nat) (v:PV):Prop where
 seen:Seen 1 v (buT l)
 byte:∀ x∈l,x<256
 len:l.length≤400
section
variable {C:Ctx} {F:PF} {H:PH} {l:List Nat} {v:PV} {o a:Nat}
end
abbrev QP (l:List RF):List (List PV):=l.map RF.cells
theorem aXA (l:List RF) (x:RF):QP l++[x.cells]=QP (l++[x]):=by simp[QP]
theorem KR (l:List RF):(QP l).length=l.length:=by simp[QP]
theorem Tp.frz {l:List Nat} {v:PV} (T:Tp l v) (q s:Nat) (rs:List (List PV)):PV.dB q s rs v=v:=by
 rcases T.seen with ⟨_,rfl⟩ | rfl<;>rfl



section
variable {C:Ctx} {F:PF} {H Hs:PH} {l:List Nat} {v:PV} {o a:Nat}
end
theorem bM.tJ {H:PH} {s:Nat} {v:PV} {rows:List (List PV)} (h:bM H s v rows):PV.tJ v=some (.int .i64 (rows.length:Nat)):=by
 rcases h with ⟨rfl,rfl⟩ | ⟨q,rs,rfl,_⟩<;>rfl
abbrev dJ (l:List bR):List (List PV):=l.map bR.cells
abbrev eA (l:List cC):List (List PV):=l.map cC.cells
abbrev flB (ext wl wm wd wr wp wv:PV):cP:=.rows 7 [[ext,wl,wm,wd,wr,wp,wv]]
structure GE where
 o:Nat
 fo:Nat
 qm:Nat
 ext:PV
 wl:PV
 wp:PV
 wv:PV
abbrev GE.boxes (G:GE) (v:PV) (mc:Nat) (wd wr:PV) (a:Nat):List BX:=[(G.o,atD v a),(G.fo,flB G.ext G.wl (.osl G.qm 4 0 mc) wd wr G.wp G.wv)]
theorem bM.one {H:PH} {s:Nat} {v:PV} {rows:List (List PV)} (h:bM H s v rows) (hn:0<rows.length):∃ q,v=.osl q s 0 rows.length:=by
 rcases h with ⟨rfl,_⟩ | ⟨q,rs,rfl,_⟩
 ·simp at hn
 ·exact⟨q,rfl⟩


structure FE where
 o:Nat
 o6:Nat
 o7:Nat
 bGI:Nat
 bGK:Nat
abbrev flZ:cP:=flB (.int .i64 0) .aB .aB .aB .aB .aB .aB
abbrev FE.boxes (E:FE) (v ext w1 w2 w3 w4 w5 w6:PV) (a:Nat):List BX:=[(E.o,atD v a),(E.o7,flB ext w1 w2 w3 w4 w5 w6),(E.o6,flZ)]
abbrev aAK (l:List cI):List (List PV):=l.map cI.cells
abbrev a5M (l:List cS):List (List PV):=l.map cS.cells


abbrev FE.lists (w1 w2 w3 w4 w5:PV) (lw:List cI) (md:List cS) (dm:List bR) (dv:List cC) (pr:List (List PV)):List LI:=[(w1,4,aAK lw),(w2,4,a5M md),(w3,7,dJ dm),(w4,3,eA dv),(w5,17,pr)]
abbrev kW (l:List cY):List (List PV):=l.map cY.cells
abbrev oM (l:List dZ):List (List PV):=l.map dZ.cells
theorem qR {rows:List (List PV)} (h:∀ r∈rows,∀ c∈r,c.oid=none):Flat rows:=Flat.of fun r hr c hc q s rs=>uA (h r hr c hc) q s rs
theorem aLW (l:List bR):Flat (dJ l):=qR fun r hr c hc=>by
 obtain⟨x,_,rfl⟩:=bJT.1 hr
 simp only[bR.cells,bJA,bJR,or_false] at hc
 rcases hc with rfl | rfl | rfl | rfl | rfl | rfl | rfl<;>rfl
theorem aLY (l:List cC):Flat (eA l):=qR fun r hr c hc=>by
 obtain⟨x,_,rfl⟩:=bJT.1 hr
 simp only[cC.cells,bJA,bJR,or_false] at hc
 rcases hc with rfl | rfl | rfl<;>rfl
theorem boT (l:List dZ):Flat (oM l):=qR fun r hr c hc=>by
 obtain⟨x,_,rfl⟩:=bJT.1 hr
 simp only[dZ.cells,bJA,bJR,or_false] at hc
 rcases hc with rfl | rfl<;>rfl
theorem aQM (l:List cY):Flat (kW l):=qR fun r hr c hc=>by
 obtain⟨x,_,rfl⟩:=bJT.1 hr
 simp only[cY.cells,bJA,bJR,or_false] at hc
 rcases hc with rfl | rfl | rfl | rfl | rfl | rfl | rfl | rfl | rfl | rfl | rfl | rfl | rfl | rfl | rfl | rfl | rfl<;>rfl
def a3E (l:List Nat) (v:PV) (o bGI bGK a:Nat) (r:PV) (H:PH):Prop:=Co r (.agg (aaB l bGI bGK a).1.cells)∧H=PH.nil.set o (atD v (aaB l bGI bGK a).2)
theorem a3E.exact {C:Ctx} {name:Nat} {args:List PV} {H:PH} {l:List Nat} {v:PV} {o bGI bGK a:Nat} (h:aD C name args H (a3E l v o bGI bGK a)):aD C name args H (fun r H=>r=.agg (aaB l bGI bGK a).1.cells∧H=PH.nil.set o (atD v (aaB l bGI bGK a).2)) :=
 h.post fun r H' hr=>⟨_,hr.1,rfl,hr.2⟩
theorem buR (x:Int) {n:Int} (h:0<n):(if Int.tmod x n<0 then Int.tmod x n+n else Int.tmod x n)=x%n:=by
 rcases Int.le_total 0 x with c | c
 ·have e:=Int.tmod_eq_emod_of_nonneg c (b:=n)
  have h1:=Int.emod_nonneg x (Om:n≠0)
  rw[e,if_neg Om]
 ·have e:Int.tmod x n=-((-x)%n):=by rw[← Int.tmod_eq_emod_of_nonneg (Om:0≤-x),Int.neg_tmod,Int.neg_neg]
  have h1:=Int.emod_nonneg (-x) (Om:n≠0)
  have h2:=Int.neg_emod (a:=-x) (b:=n)
  rw[Int.neg_neg] at h2
  rw[e,h2]
  by_cases d:n ∣ -x
  ·rw[if_pos d,Int.emod_eq_zero_of_dvd d]
   simp
  ·have h3:(-x)%n≠0:=fun h=>d (Int.dvd_of_emod_eq_zero h)
   rw[if_neg d,if_pos Om]
   omega
abbrev bG (l:List Int) (a:Nat):cP:=.rows 2 [[ints l,.int .i64 (a:Nat)]]
def XU (l:List Int) (o n a:Nat) (r:PV) (H:PH):Prop:=r=.int .i64 (nxM l n a:Nat)∧H=PH.nil.set o (bG l (a+1))
theorem bdA {C:Ctx} (l:List Int) (hl:l.length≤9223372036854775807) (h64:∀ x∈l,cU x) (o n a:Nat) (hn:n≤1000000) (ha:a≤1000000):EF.wp C (aU EE.res (XU l o n a)) (PF.args [.ptr o 2 0 0,.int .i64 n]) (PH.nil.set o (bG l a)):=by
 have ew:IntKind.i64.wrap ((a:Int)+1)=((a+1:Nat):Int):=dE Om
 have e3:Int.tmod ((a:Nat):Int) 3=((a%3:Nat):Int):=rfl
 have rest:∀ (x:Int) (F:PF),cU x→x=l.getD a ((a%3:Nat):Int)→F 0=some (.ptr o 2 0 0)→F 1=some (.int .i64 n)→F 5=some (.int .i64 x) →
   aC.wp C (.seq (.region UL) (.seq (.seq (.region UM) (.cond (.tmp 40) (.seq (.region UN) .ret) .skip)) (.seq (.region UO) (.seq (.seq (.region UP) (.cond (.tmp 45) (.seq (.region UQ) .ret) .skip)) (.seq (.region KB) .ret))))) (aU EE.res (XU l o n a)) F (PH.nil.set o (bG l a)):=by
  intro x F hx he f0 f1 f5
  simp only[go_sem,γ,δ,ε,ζ,η,θ,ι,κ,μ,ν,ξ,ο,ρ,σ,τ,υ,reduceIte,reduceCtorEq,UL,f0,ew,UM,f1,EE]
  by_cases c:n=0
  ·have c':((n:Nat):Int)<1:=by omega
   simp only[go_sem,γ,δ,ε,ζ,η,θ,ι,κ,μ,ν,ξ,ο,ρ,σ,τ,υ,reduceIte,reduceCtorEq,c',UN]
   refine aW (vs:=[.int .i64 0]) (.inr rfl) _ rfl PH.le_refl ⟨?_,rfl⟩
   unfold nxM
   rw[if_pos c]; rfl
  ·have c':¬ ((n:Nat):Int)<1:=by omega
   have hn0:¬ ((n:Nat):Int)=0:=by omega
   have hm:=buR x (Om:(0:Int)<n)
   have h1:=Int.emod_nonneg x (Om:(n:Int)≠0)
   have h2:=Int.emod_lt_of_pos x (Om:(0:Int)<n)
   have hT:nxM l n a=(x%(n:Int)).toNat:=by unfold nxM; rw[if_neg c,he]
   simp only[go_sem,γ,δ,ε,ζ,η,θ,ι,κ,μ,ν,ξ,ο,ρ,σ,τ,υ,reduceIte,reduceCtorEq,c',UO,f5,f1,hn0,UP]
   by_cases d:Int.tmod x n<0
   ·rw[if_pos d] at hm
    have e4:IntKind.i64.wrap (Int.tmod x n+n)=((nxM l n a:Nat):Int):=by rw[hm,wrap_i64 Om Om,hT]; omega
    simp only[go_sem,γ,δ,ε,ζ,η,θ,ι,κ,μ,ν,ξ,ο,ρ,σ,τ,υ,reduceIte,reduceCtorEq,d,UQ,f1,e4]
    exact aW (vs:=[.int .i64 (nxM l n a:Nat)]) (.inr rfl) _ rfl PH.le_refl ⟨rfl,rfl⟩
   ·rw[if_neg d] at hm
    have e4:Int.tmod x n=((nxM l n a:Nat):Int):=by rw[hm,hT]; omega
    have d':¬ ((nxM l n a:Nat):Int)<0:=by omega
    simp only[go_sem,γ,δ,ε,ζ,η,θ,ι,κ,μ,ν,ξ,ο,ρ,σ,τ,υ,reduceIte,reduceCtorEq,e4,d',KB]
    exact aW (vs:=[.int .i64 (nxM l n a:Nat)]) (.inr rfl) _ rfl PH.le_refl ⟨rfl,rfl⟩
 simp only[aC.wp,go_sem] at rest
 simp only[go_sem,γ,δ,ε,ζ,η,θ,ι,κ,μ,ν,ξ,ο,ρ,σ,τ,υ,reduceIte,reduceCtorEq,EF,avK,avL,EE,e3]
 refine bT .nil eG PH.nil_le ?_
 simp only[go_sem,γ,δ,ε,ζ,η,θ,ι,κ,μ,ν,ξ,ο,ρ,σ,τ,υ,reduceIte,reduceCtorEq,avM,bIM]
 by_cases c:a<l.length
 ·have c':(a:Int)<(l.length:Nat):=by omega
  have hat:(l.map fun n=>[PV.int .i64 n])[a]?=some [.int .i64 l[a]]:=by simp[c]
  simp only[go_sem,γ,δ,ε,ζ,η,θ,ι,κ,μ,ν,ξ,ο,ρ,σ,τ,υ,reduceIte,reduceCtorEq,c']
  refine bT .nil eG PH.nil_le ?_
  simp only[go_sem,γ,δ,ε,ζ,η,θ,ι,κ,μ,ν,ξ,ο,ρ,σ,τ,υ,reduceIte,reduceCtorEq,avN,hat]
  refine rest l[a] _ (h64 _ (bIR c)) (by simp[bJG,c]) ?_ ?_ ?_
  all_goals exact rfl
 ·have c':¬ (a:Int)<(l.length:Nat):=by omega
  simp only[go_sem,γ,δ,ε,ζ,η,θ,ι,κ,μ,ν,ξ,ο,ρ,σ,τ,υ,reduceIte,reduceCtorEq,c']
  refine rest ((a%3:Nat):Int) _ (by unfold cU; omega) (by simp[bJG,bJZ (Om:l.length≤a)]) ?_ ?_ ?_
  all_goals exact rfl
def TpM (l:List Int):Prop:=l.length≤9223372036854775807∧∀ x∈l,cU x
structure CV (C:Ctx):Prop where
 fmk:∀ n d:Int,cU n→cU d→aD C 50 [.int .i64 n,.int .i64 d] .nil (aE (CN n d))
 next:∀ l:List Int,TpM l→∀ o n a:Nat,n≤1000000→a≤1000000→aD C 240 [.ptr o 2 0 0,.int .i64 n] (PH.nil.set o (bG l a)) (XU l o n a)
theorem cE {C:Ctx} {F:PF} {H:PH} {l:List Int} {o a:Nat} (Lb:CV C) (T:TpM l) {n:Nat} {args:List aP} {d:Option Nat} {K:PF→PH→Prop} (hn:n≤1000000) (ha:a≤1000000) (bIB:aP.evs F args=some [.ptr o 2 0 0,.int .i64 n]) (ho:H o=some (bG l a))
  (hk:K (F.put d (.int .i64 (nxM l n a:Nat))) (H.set o (bG l (a+1)))):fU C 240 args [] d K F H :=
 AY (Lb.next l T o n a hn ha) ho bIB hk
theorem bcR {C:Ctx} (Lb:CV C) (n d:Int) (h1:cU n) (h2:cU d) (hd:d≠0):EA.wp C (aU ZI.res (aE (.agg (mkT n d).cells))) (PF.args [.int .i64 n,.int .i64 d]) .nil:=by
 simp only[go_sem,γ,δ,ε,ζ,η,θ,ι,κ,μ,ν,ξ,ο,ρ,σ,τ,υ,reduceIte,reduceCtorEq,EA,auX,ZI]
 refine aQ fun p hp=>?_
 simp only[go_sem,γ,δ,ε,ζ,η,θ,ι,κ,μ,ν,ξ,ο,ρ,σ,τ,υ,reduceIte,reduceCtorEq,auY]
 refine aA (Lb.fmk n d h1 h2) rfl ?_
 unfold CN
 rw[if_neg hd]
 simp only[go_sem,γ,δ,ε,ζ,η,θ,ι,κ,μ,ν,ξ,ο,ρ,σ,τ,υ,reduceIte,reduceCtorEq]
 refine aQ fun q hq=>?_
 have n3:¬ q=p:=(cV.1 hq).1
 have n3':¬ p=q:=fun h=>n3 h.symm
 simp only[go_sem,γ,δ,ε,ζ,η,θ,ι,κ,μ,ν,ξ,ο,ρ,σ,τ,υ,reduceIte,reduceCtorEq,auZ,n3,n3']
 refine aM (vs:=[.agg (mkT n d).cells]) (.inr rfl) ?_ rfl
 simp only[go_sem,γ,δ,ε,ζ,η,θ,ι,κ,μ,ν,ξ,ο,ρ,σ,τ,υ,reduceIte,reduceCtorEq]
theorem bcY {C:Ctx} (c:UInt8) (n:Nat) (hn:n<100):ED.wp C (aU ZU.res (aE (.str (dK c n)))) (PF.args [.int .u8 c.toNat,.int .i64 n]) .nil:=by
 have e1:Int.tdiv ((n:Nat):Int) 26=((n/26:Nat):Int):=rfl
 have e2:Int.tmod ((n/26:Nat):Int) 26=((n/26%26:Nat):Int):=rfl
 have e3:Int.tmod ((n:Nat):Int) 26=((n%26:Nat):Int):=rfl
 have w1:IntKind.i64.wrap (97+((n/26%26:Nat):Int))=((97+n/26%26:Nat):Int):=by rw[wrap_i64 Om Om]; omega
 have w2:IntKind.i64.wrap (97+((n%26:Nat):Int))=((97+n%26:Nat):Int):=by rw[wrap_i64 Om Om]; omega
 have w3:IntKind.u8.wrap ((97+n/26%26:Nat):Int)=((97+n/26%26:Nat):Int):=wrap_u8 Om Om
 have w4:IntKind.u8.wrap ((97+n%26:Nat):Int)=((97+n%26:Nat):Int):=wrap_u8 Om Om
 have w0:IntKind.i64.wrap ((n/26:Nat):Int)=((n/26:Nat):Int):=xB Om
 have hbr:oV [[PV.int .u8 ((c.toNat:Nat):Int)],[PV.int .u8 ((97+n/26%26:Nat):Int)],[PV.int .u8 ((97+n%26:Nat):Int)]]=some (dK c n):=by
  show some [UInt8.ofNat c.toNat,_,_]=_
  rw[UInt8.ofNat_toNat]
  rfl
 have h13:(1:Nat)*3≤16777216:=by decide
 simp only[go_sem,γ,δ,ε,ζ,η,θ,ι,κ,μ,ν,ξ,ο,ρ,σ,τ,υ,reduceIte,reduceCtorEq,ED,avI,avJ,ZU,e1,w0,e2,e3,w1,w2,w3,w4,h13,hbr]
 refine aM (.inr rfl) rfl ?_
 rfl
structure oF (C:Ctx):Prop extends CV C where
 frac:∀ n d:Int,cU n→cU d→d≠0→aD C 241 [.int .i64 n,.int .i64 d] .nil (aE (.agg (mkT n d).cells))
 name:∀ (c:UInt8) (n:Nat),n<100→aD C 242 [.int .u8 c.toNat,.int .i64 n] .nil (aE (.str (dK c n)))
def mdS (l:List Int):Spec:=fun name vs=>match name,vs with
 | 242,[.int _ c,.int _ i]=>some ([],fun _=>aE (.str (dK (UInt8.ofNat c.toNat) i.toNat)))
 | 241,[.int _ n,.int _ d]=>some ([],fun _=>aE (.agg (mkT n d).cells))
 | 240,[.ptr o _ _ _,.int _ n]=>some ([o],fun H0 r H'=>∀ a,H0 o=some (bG l a)→XU l o n.toNat a r H')
 | _,_=>none
section
variable {C:Ctx} {F:PF} {H Hs:PH} {l:List Int} {o a:Nat}
theorem a3Q (Lb:CV C) (T:TpM l) {n:Nat} {st:Bool} {args:List aP} {d:Option Nat} {K:PF→PH→Prop} (hn:n≤1000000) (ha:a≤1000000) (bIB:aP.evs F args=some [.ptr o 2 0 0,.int .i64 n]) (ho:H o=some (bG l a))
  (hle:Hs.le (H.set o (bG l (a+1)))) (hk:K (F.put d (.int .i64 (nxM l n a:Nat))) (H.set o (bG l (a+1)))):dOp C Hs (mdS l) st (.call 240 args) d K F H:=by
 refine auU (x:=bG l a) (y:=bG l (a+1)) (r:=.int .i64 (nxM l n a:Nat)) (R:=fun H0 r H'=>∀ a,H0 o=some (bG l a)→XU l o n a r H') rfl ho (Lb.next l T o n a hn ha) ?_ ?_ bIB hle hk
 ·intro b hb
  rw[dM] at hb
  injection hb with hb
  injection hb with _ hb
  injection hb with hb _
  injection hb with _ hb
  injection hb with hb _
  injection hb with _ hb
  have:a=b:=by omega
  subst this
  exact⟨rfl,rfl⟩
 ·intro r' H' hr
  exact hr a (by rw[dM])
theorem JW (Lb:oF C) {c:UInt8} {n:Nat} {st:Bool} {args:List aP} {d:Option Nat} {K:PF→PH→Prop} (hn:n<100) (bIB:aP.evs F args=some [.int .u8 c.toNat,.int .i64 n]) (hle:Hs.le H) (hk:K (F.put d (.str (dK c n))) H):dOp C Hs (mdS l) st (.call 242 args) d K F H :=
 bK (v:=.str (dK c n)) (by show some _=_; rw[bLM,UInt8.ofNat_toNat]; rfl) (Lb.name c n hn) bIB hle hk
theorem akN (Lb:oF C) {n m:Int} {st:Bool} {args:List aP} {d:Option Nat} {K:PF→PH→Prop} (hn:cU n) (hm:cU m) (h0:m≠0) (bIB:aP.evs F args=some [.int .i64 n,.int .i64 m]) (hle:Hs.le H) (hk:K (F.put d (.agg (mkT n m).cells)) H):dOp C Hs (mdS l) st (.call 241 args) d K F H :=
 bK (v:=.agg (mkT n m).cells) rfl (Lb.frac n m hn hm h0) bIB hle hk
end
def bpM (o7:Nat) (ext w1 w2 w4 w5 w6:PV) (ds:List bR) (lev par up:Nat) (r:PV) (B':List BX) (L':List LI):Prop:=r=.int .i64 (ds.length:Nat)∧∃ w',B'=[(o7,flB ext w1 w2 w' w4 w5 w6)]∧L'=[(w',7,dJ (dH ds lev par up))]
theorem bkA {C:Ctx} (Lb:oF C) (o7:Nat) (ext w1 w2 wd w4 w5 w6:PV) (ds:List bR) (hds:ds.length≤90) (lev par up:Nat) (H0:PH) (hH:aS H0 [(o7,flB ext w1 w2 wd w4 w5 w6)] [(wd,7,dJ ds)]) :
  JX.wp C (aU auV.res (fun r H'=>∃ B' L',bpM o7 ext w1 w2 w4 w5 w6 ds lev par up r B' L'∧aS H' B' L')) (PF.args [.ptr o7 7 0 0,.int .i64 lev,.int .i64 par,.int .i64 up]) H0:=by
 have b:=hH.at 0 rfl
 have lw:=(hH.own 0 rfl).tJ
 rw[bIM] at lw
 simp only[go_sem,γ,δ,ε,ζ,η,θ,ι,κ,μ,ν,ξ,ο,ρ,σ,τ,υ,reduceIte,reduceCtorEq,JX,aLP,aLQ,auV,b,lw]
 refine bT (PH.nil.set o7 (flB ext w1 w2 wd w4 w5 w6)) (mdS []) (PH.aI PH.nil_le b) ?_
 simp only[go_sem,γ,δ,ε,ζ,η,θ,ι,κ,μ,ν,ξ,ο,ρ,σ,τ,υ,reduceIte,reduceCtorEq,aLR]
 refine JW Lb (c:=110) (n:=ds.length) Om rfl (PH.aI PH.nil_le b) ?_
 simp only[go_sem,γ,δ,ε,ζ,η,θ,ι,κ,μ,ν,ξ,ο,ρ,σ,τ,υ,reduceIte,reduceCtorEq]
 refine akN Lb (n:=0) (m:=1) (by unfold cU; omega) (by unfold cU; omega) (by decide) rfl (PH.aI PH.nil_le b) ?_
 have h17:(1:Nat)*7≤16777216:=by decide
 simp only[go_sem,γ,δ,ε,ζ,η,θ,ι,κ,μ,ν,ξ,ο,ρ,σ,τ,υ,reduceIte,reduceCtorEq,h17]
 refine hH.append 0 (src:=[(⟨dK 110 ds.length,(lev:Nat),(par:Nat),(up:Nat),nZ⟩:bR).cells]) rfl rfl (by unfold roomFor; rw[bIM]; simp only[bJC,maxLen]; omega) fun w' H2 h5 hw=>?_
 obtain⟨q,rfl⟩:=hw (by simp)
 have b2:=h5.at 0 rfl
 refine⟨PH.aI PH.nil_le b2,?_⟩
 refine bT .nil eG PH.nil_le ?_
 simp only[go_sem,γ,δ,ε,ζ,η,θ,ι,κ,μ,ν,ξ,ο,ρ,σ,τ,υ,reduceIte,reduceCtorEq,aLS,b2,bJA,bJR,or_false,forall_eq]
 have h6:=h5.set 0 rfl (flB ext w1 w2 (.osl q 7 0 (dJ ds++[(⟨dK 110 ds.length,(lev:Nat),(par:Nat),(up:Nat),nZ⟩:bR).cells]).length) w4 w5 w6)
 refine⟨PH.nil_le,?_⟩
 simp only[go_sem,γ,δ,ε,ζ,η,θ,ι,κ,μ,ν,ξ,ο,ρ,σ,τ,υ,reduceIte,reduceCtorEq,aLT]
 have e:dJ (dH ds lev par up)=dJ ds++[(⟨dK 110 ds.length,(lev:Nat),(par:Nat),(up:Nat),nZ⟩:bR).cells]:=by simp[dJ,dH]
 refine aW (vs:=[.int .i64 (ds.length:Nat)]) (.inr rfl) _ rfl PH.le_refl ⟨_,_,⟨rfl,.osl q 7 0 (dJ ds++[(⟨dK 110 ds.length,(lev:Nat),(par:Nat),(up:Nat),nZ⟩:bR).cells]).length,rfl,rfl⟩,?_⟩
 rw[e]
 exact h6
structure BG (C:Ctx):Prop extends oF C where
 dom:∀ (o7:Nat) (ext w1 w2 wd w4 w5 w6:PV) (ds:List bR),ds.length≤90→∀ (lev par up:Nat) (H0:PH),aS H0 [(o7,flB ext w1 w2 wd w4 w5 w6)] [(wd,7,dJ ds)] →
  aD C 243 [.ptr o7 7 0 0,.int .i64 lev,.int .i64 par,.int .i64 up] H0 (fun r H'=>∃ B' L',bpM o7 ext w1 w2 w4 w5 w6 ds lev par up r B' L'∧aS H' B' L')
theorem qX {C:Ctx} {F:PF} {H:PH} (Lb:BG C) {o7:Nat} {ext w1 w2 wd w4 w5 w6:PV} {ds:List bR} {B2:List BX} {L2:List LI} {lev par up:Nat} {args:List aP} {d:Option Nat} {K:PF→PH→Prop}
  (h:aS H ((o7,flB ext w1 w2 wd w4 w5 w6)::B2) ((wd,7,dJ ds)::L2)) (hds:ds.length≤90) (bIB:aP.evs F args=some [.ptr o7 7 0 0,.int .i64 lev,.int .i64 par,.int .i64 up])
  (hk:∀ wd' H',aS H' ((o7,flB ext w1 w2 wd' w4 w5 w6)::B2) ((wd',7,dJ (dH ds lev par up))::L2)→K (F.put d (.int .i64 (ds.length:Nat))) H'):fU C 243 args [] d K F H:=by
 refine TW (B1:=[(o7,flB ext w1 w2 wd w4 w5 w6)]) (L1:=[(wd,7,dJ ds)]) h (fun H0 hH0=>Lb.dom o7 ext w1 w2 wd w4 w5 w6 ds hds lev par up H0 hH0) bIB ?_
 rintro r B' L' H' ⟨rfl,wd',rfl,rfl⟩ h'
 exact hk wd' H' h'
structure ME where
 o:Nat
 o4:Nat
 o5:Nat
 vols:Nat
abbrev ME.boxes (E:ME) (l:List Int) (ext w1 w2 wd wr wp wv:PV) (a:Nat):List BX:=[(E.o5,flB ext w1 w2 wd wr wp wv),(E.o,bG l a),(E.o4,flZ)]
def tE (E:ME):PF:=((((PF.nil.set 0 (.ptr E.o 2 0 0)).set 1 (.int .i64 E.vols)).set 4 (.ptr E.o4 7 0 0)).set 5 (.ptr E.o5 7 0 0))
def eQ (E:ME) (n room rack i:Nat):PF:=((((((((PF.nil.set 0 (.ptr E.o 2 0 0)).set 1 (.int .i64 E.vols)).set 4 (.ptr E.o4 7 0 0)).set 5 (.ptr E.o5 7 0 0)).set 6 (.int .i64 n)).set 8 (.int .i64 room)).set 9 (.int .i64 rack)).set 10 (.int .i64 i))
def jJ (E:ME) (n room rack i m k:Nat):PF:=((((((((((PF.nil.set 0 (.ptr E.o 2 0 0)).set 1 (.int .i64 E.vols)).set 4 (.ptr E.o4 7 0 0)).set 5 (.ptr E.o5 7 0 0)).set 6 (.int .i64 n)).set 8 (.int .i64 room)).set 9 (.int .i64 rack)).set 10 (.int .i64 i)).set 11 (.int .i64 m)).set 12 (.int .i64 k))
theorem bkC {C:Ctx} (Lb:oF C) {l:List Int} (T:TpM l) (E:ME) (n room rack i m:Nat) (ext w1 w2 wd:PV) (ds:List bR) (k0:Nat) (s0:List cC × Nat) (wr0:PV) (h0:s0.1.length≤9) (ha:s0.2+k0≤100000) (K:cN) (F:PF) (H:PH)
  (hF:(jJ E n room rack i m k0).le F) (hH:aS H (E.boxes l ext w1 w2 wd wr0 .aB .aB s0.2) [(wd,7,dJ ds),(wr0,3,eA s0.1)])
  (hK:∀ wr F' H',(eQ E n room rack i).le F'→aS H' (E.boxes l ext w1 w2 wd wr .aB .aB (gZ l m k0 s0).2) [(wd,7,dJ ds),(wr,3,eA (gZ l m k0 s0).1)]→K (.exit 2) F' H') :
  aC.wp C (.loop qE) K F H:=by
 refine wp_loop (α:=Nat × (List cC × Nat) × PV × PH) (fun t=>jJ E n room rack i m t.1) (fun t=>t.2.2.2)
  (fun t=>gZ l m t.1 t.2.1=gZ l m k0 s0∧t.2.1.1.length≤9∧t.2.1.2+t.1≤100000∧aS t.2.2.2 (E.boxes l ext w1 w2 wd t.2.2.1 .aB .aB t.2.1.2) [(wd,7,dJ ds),(t.2.2.1,3,eA t.2.1.1)]) (fun t=>t.1) (k0,s0,wr0,H) ⟨rfl,h0,ha,hH⟩ hF PH.le_refl ?_
 rintro⟨k,s,wr,H0⟩ ⟨hE,hl,hb,hH⟩
 simp only at hE hl hb hH ⊢
 have b5:=hH.at 0 rfl
 have lw:=(hH.own 1 rfl).tJ
 rw[bIM] at lw
 simp only[go_sem,γ,δ,ε,ζ,η,θ,ι,κ,μ,ν,ξ,ο,ρ,σ,τ,υ,reduceIte,reduceCtorEq,qE,YP,jJ]
 have out:∀ F',(jJ E n room rack i m k).le F'→gZ l m k s=s→K (.exit 2) F' H0:=fun F' hF' e=>by
  refine hK wr F' H0 ?_ (by rw[← hE,e]; exact hH)
  have h1:(eQ E n room rack i).le (jJ E n room rack i m k):=by
   unfold eQ jJ
   exact Lq
  exact fun j u hj=>hF' j u (h1 j u hj)
 cases k with
 | zero =>
  have hc:¬ (((0:Nat):Int)>0):=by omega
  simp only[go_sem,γ,δ,ε,ζ,η,θ,ι,κ,μ,ν,ξ,ο,ρ,σ,τ,υ,reduceIte,reduceCtorEq,hc]
  refine out _ ?_ rfl
  unfold jJ
  exact Lq
 | succ k =>
  have hc:(((k+1:Nat):Int)>0):=by omega
  by_cases c:s.1.length<9
  ·have c':((s.1.length:Nat):Int)<9:=by omega
   have e1:IntKind.i64.wrap (((k+1:Nat):Int)-1)=((k:Nat):Int):=by rw[wrap_i64 Om Om]; omega
   simp only[go_sem,γ,δ,ε,ζ,η,θ,ι,κ,μ,ν,ξ,ο,ρ,σ,τ,υ,reduceIte,reduceCtorEq,hc,b5,lw,c',YQ,YR]
   refine cE Lb.toCV T (o:=E.o) (n:=4) (a:=s.2) (by decide) Om rfl (hH.at 1 rfl) ?_
   have h1:=hH.set 1 rfl (bG l (s.2+1))
   have b1:=h1.at 0 rfl
   have go:∀ (x:Nat) (F':PF),x=(if nxM l 4 s.2=0 then 1 else 0)→(jJ E n room rack i m (k+1)).le F'→F' 13=some (.int .i64 x) →
     aC.wp C (.seq (.seq (.draw DO) (.draw DP)) (.region DQ)) (eF (fun t:Nat × (List cC × Nat) × PV × PH=>jJ E n room rack i m t.1) (fun t=>t.2.2.2)
      (fun t=>gZ l m t.1 t.2.1=gZ l m k0 s0∧t.2.1.1.length≤9∧t.2.1.2+t.1≤100000∧aS t.2.2.2 (E.boxes l ext w1 w2 wd t.2.2.1 .aB .aB t.2.1.2) [(wd,7,dJ ds),(t.2.2.1,3,eA t.2.1.1)]) (fun t=>t.1) (k+1) K) F' (H0.set E.o (bG l (s.2+1))):=by
    intro x F' hx hF' f13
    have f0:F' 0=some (.ptr E.o 2 0 0):=hF' 0 _ (by unfold jJ; simp only[go_sem,γ,δ,ε,ζ,η,θ,ι,κ,μ,ν,ξ,ο,ρ,σ,τ,υ,reduceIte,reduceCtorEq])
    have f1:F' 1=some (.int .i64 E.vols):=hF' 1 _ (by unfold jJ; simp only[go_sem,γ,δ,ε,ζ,η,θ,ι,κ,μ,ν,ξ,ο,ρ,σ,τ,υ,reduceIte,reduceCtorEq])
    have f4:F' 4=some (.ptr E.o4 7 0 0):=hF' 4 _ (by unfold jJ; simp only[go_sem,γ,δ,ε,ζ,η,θ,ι,κ,μ,ν,ξ,ο,ρ,σ,τ,υ,reduceIte,reduceCtorEq])
    have f5:F' 5=some (.ptr E.o5 7 0 0):=hF' 5 _ (by unfold jJ; simp only[go_sem,γ,δ,ε,ζ,η,θ,ι,κ,μ,ν,ξ,ο,ρ,σ,τ,υ,reduceIte,reduceCtorEq])
    have f6:F' 6=some (.int .i64 n):=hF' 6 _ (by unfold jJ; simp only[go_sem,γ,δ,ε,ζ,η,θ,ι,κ,μ,ν,ξ,ο,ρ,σ,τ,υ,reduceIte,reduceCtorEq])
    have f8:F' 8=some (.int .i64 room):=hF' 8 _ (by unfold jJ; simp only[go_sem,γ,δ,ε,ζ,η,θ,ι,κ,μ,ν,ξ,ο,ρ,σ,τ,υ,reduceIte,reduceCtorEq])
    have f9:F' 9=some (.int .i64 rack):=hF' 9 _ (by unfold jJ; simp only[go_sem,γ,δ,ε,ζ,η,θ,ι,κ,μ,ν,ξ,ο,ρ,σ,τ,υ,reduceIte,reduceCtorEq])
    have f10:F' 10=some (.int .i64 i):=hF' 10 _ (by unfold jJ; simp only[go_sem,γ,δ,ε,ζ,η,θ,ι,κ,μ,ν,ξ,ο,ρ,σ,τ,υ,reduceIte,reduceCtorEq])
    have f11:F' 11=some (.int .i64 m):=hF' 11 _ (by unfold jJ; simp only[go_sem,γ,δ,ε,ζ,η,θ,ι,κ,μ,ν,ξ,ο,ρ,σ,τ,υ,reduceIte,reduceCtorEq])
    have f12:F' 12=some (.int .i64 (k+1:Nat)):=hF' 12 _ (by unfold jJ; simp only[go_sem,γ,δ,ε,ζ,η,θ,ι,κ,μ,ν,ξ,ο,ρ,σ,τ,υ,reduceIte,reduceCtorEq])
    simp only[go_sem,γ,δ,ε,ζ,η,θ,ι,κ,μ,ν,ξ,ο,ρ,σ,τ,υ,reduceIte,reduceCtorEq]
    refine bT (PH.nil.set E.o5 (flB ext w1 w2 wd wr .aB .aB)) (mdS l) (PH.aI PH.nil_le b1) ?_
    have h13:(1:Nat)*3≤16777216:=by decide
    simp only[go_sem,γ,δ,ε,ζ,η,θ,ι,κ,μ,ν,ξ,ο,ρ,σ,τ,υ,reduceIte,reduceCtorEq,DO,f5,b1,lw]
    refine JW Lb (c:=100) (n:=s.1.length) Om rfl (PH.aI PH.nil_le b1) ?_
    simp only[go_sem,γ,δ,ε,ζ,η,θ,ι,κ,μ,ν,ξ,ο,ρ,σ,τ,υ,reduceIte,reduceCtorEq,f13,f11,h13]
    refine h1.append 1 (src:=[(⟨dK 100 s.1.length,(x:Nat),(m:Nat)⟩:cC).cells]) rfl rfl (by unfold roomFor; rw[bIM]; simp only[bJC,maxLen]; omega) fun w' H2 h5 hw=>?_
    obtain⟨q,rfl⟩:=hw (by simp)
    have b2:=h5.at 0 rfl
    simp only[go_sem,γ,δ,ε,ζ,η,θ,ι,κ,μ,ν,ξ,ο,ρ,σ,τ,υ,reduceIte,reduceCtorEq,f5]
    refine⟨PH.aI PH.nil_le b2,?_⟩
    refine bT .nil eG PH.nil_le ?_
    simp only[go_sem,γ,δ,ε,ζ,η,θ,ι,κ,μ,ν,ξ,ο,ρ,σ,τ,υ,reduceIte,reduceCtorEq,DP,f5,b2,bJA,bJR,or_false,forall_eq]
    have h6:=h5.set 0 rfl (flB ext w1 w2 wd (.osl q 3 0 (eA s.1++[(⟨dK 100 s.1.length,(x:Nat),(m:Nat)⟩:cC).cells]).length) .aB .aB)
    refine⟨PH.nil_le,?_⟩
    simp only[go_sem,γ,δ,ε,ζ,η,θ,ι,κ,μ,ν,ξ,ο,ρ,σ,τ,υ,reduceIte,reduceCtorEq,DQ,f12,e1]
    refine aK (k,(s.1++[⟨dK 100 s.1.length,(x:Nat),(m:Nat)⟩],s.2+1),.osl q 3 0 (eA s.1++[(⟨dK 100 s.1.length,(x:Nat),(m:Nat)⟩:cC).cells]).length,_) ⟨?_,by simp only[bIU,bJC]; omega,by simp only; omega,?_⟩ (by simp only; omega) ?_ PH.le_refl
    ·simp only
     rw[← hE,gZ,if_pos c,hx]
    ·have e:eA (s.1++[⟨dK 100 s.1.length,(x:Nat),(m:Nat)⟩])=eA s.1++[(⟨dK 100 s.1.length,(x:Nat),(m:Nat)⟩:cC).cells]:=by simp[eA]
     simp only
     rw[e]
     exact h6
    ·unfold jJ
     exact Lq
   simp only[aC.wp,go_sem] at go
   by_cases d:nxM l 4 s.2=0
   ·simp only[go_sem,γ,δ,ε,ζ,η,θ,ι,κ,μ,ν,ξ,ο,ρ,σ,τ,υ,reduceIte,reduceCtorEq,bS (Om:((nxM l 4 s.2:Nat):Int)=0),YS]
    refine go 1 _ (by rw[if_pos d]) ?_ rfl
    unfold jJ
    exact Lq
   ·simp only[go_sem,γ,δ,ε,ζ,η,θ,ι,κ,μ,ν,ξ,ο,ρ,σ,τ,υ,reduceIte,reduceCtorEq,bF (Om:((nxM l 4 s.2:Nat):Int)≠0)]
    refine go 0 _ (by rw[if_neg d]) ?_ rfl
    unfold jJ
    exact Lq
  ·have c':¬ ((s.1.length:Nat):Int)<9:=by omega
   simp only[go_sem,γ,δ,ε,ζ,η,θ,ι,κ,μ,ν,ξ,ο,ρ,σ,τ,υ,reduceIte,reduceCtorEq,hc,b5,lw,c']
   refine out _ ?_ (by rw[gZ,if_neg c])
   unfold jJ
   exact Lq
theorem gE {a b:Nat} (h:a+b≤1000000):IntKind.i64.wrap ((a:Int)+(b:Int))=((a+b:Nat):Int):=xB Om
theorem aLU {C:Ctx} (Lb:BG C) {l:List Int} (T:TpM l) (E:ME) (n room rack i a:Nat) (ha:a≤100000) (ext w1 w2 wd wr:PV) (ds:List bR) (hds:ds.length≤60) (L2:List LI) (K:cN) (F:PF) (H:PH)
  (hF:(eQ E n room rack i).le F) (hH:aS H (E.boxes l ext w1 w2 wd wr .aB .aB a) ((wd,7,dJ ds)::L2))
  (hK:∀ wd' F' H',(eQ E n (dH ds 1 0 (16+nxM l 17 a)).length (dH (dH ds 1 0 (16+nxM l 17 a)) 2 ds.length (16+nxM l 17 (a+1))).length i).le F' →
   aS H' (E.boxes l ext w1 w2 wd' wr .aB .aB (a+3)) ((wd',7,dJ (dH (dH (dH ds 1 0 (16+nxM l 17 a)) 2 ds.length (16+nxM l 17 (a+1))) 3 (dH ds 1 0 (16+nxM l 17 a)).length (8+nxM l 9 (a+2))))::L2)→K .normal F' H') :
  aC.wp C (.seq (.region DL) (.seq (.region DM) (.region DN))) K F H:=by
 have f0:F 0=some (.ptr E.o 2 0 0):=hF 0 _ (by unfold eQ; simp only[go_sem,γ,δ,ε,ζ,η,θ,ι,κ,μ,ν,ξ,ο,ρ,σ,τ,υ,reduceIte,reduceCtorEq])
 have f1:F 1=some (.int .i64 E.vols):=hF 1 _ (by unfold eQ; simp only[go_sem,γ,δ,ε,ζ,η,θ,ι,κ,μ,ν,ξ,ο,ρ,σ,τ,υ,reduceIte,reduceCtorEq])
 have f4:F 4=some (.ptr E.o4 7 0 0):=hF 4 _ (by unfold eQ; simp only[go_sem,γ,δ,ε,ζ,η,θ,ι,κ,μ,ν,ξ,ο,ρ,σ,τ,υ,reduceIte,reduceCtorEq])
 have f5:F 5=some (.ptr E.o5 7 0 0):=hF 5 _ (by unfold eQ; simp only[go_sem,γ,δ,ε,ζ,η,θ,ι,κ,μ,ν,ξ,ο,ρ,σ,τ,υ,reduceIte,reduceCtorEq])
 have f6:F 6=some (.int .i64 n):=hF 6 _ (by unfold eQ; simp only[go_sem,γ,δ,ε,ζ,η,θ,ι,κ,μ,ν,ξ,ο,ρ,σ,τ,υ,reduceIte,reduceCtorEq])
 have f10:F 10=some (.int .i64 i):=hF 10 _ (by unfold eQ; simp only[go_sem,γ,δ,ε,ζ,η,θ,ι,κ,μ,ν,ξ,ο,ρ,σ,τ,υ,reduceIte,reduceCtorEq])
 have n1:=cK l (show 0<17 by decide) a
 have n2:=cK l (show 0<17 by decide) (a+1)
 have n3:=cK l (show 0<9 by decide) (a+2)
 have e1:IntKind.i64.wrap (16+((nxM l 17 a:Nat):Int))=((16+nxM l 17 a:Nat):Int):=gE (a:=16) Om
 have e2:IntKind.i64.wrap (16+((nxM l 17 (a+1):Nat):Int))=((16+nxM l 17 (a+1):Nat):Int):=gE (a:=16) Om
 have e3:IntKind.i64.wrap (8+((nxM l 9 (a+2):Nat):Int))=((8+nxM l 9 (a+2):Nat):Int):=gE (a:=8) Om
 have c1:=mS ds 1 0 (16+nxM l 17 a)
 have c2:=mS (dH ds 1 0 (16+nxM l 17 a)) 2 ds.length (16+nxM l 17 (a+1))
 simp only[go_sem,γ,δ,ε,ζ,η,θ,ι,κ,μ,ν,ξ,ο,ρ,σ,τ,υ,reduceIte,reduceCtorEq,DL,f0]
 refine cE Lb.toCV T (o:=E.o) (n:=17) (a:=a) (by decide) Om rfl (hH.at 1 rfl) ?_
 have h1:=hH.set 1 rfl (bG l (a+1))
 simp only[go_sem,γ,δ,ε,ζ,η,θ,ι,κ,μ,ν,ξ,ο,ρ,σ,τ,υ,reduceIte,reduceCtorEq,e1,f5]
 refine qX Lb (lev:=1) (par:=0) (up:=16+nxM l 17 a) h1 Om (by simp only[go_sem,γ,δ,ε,ζ,η,θ,ι,κ,μ,ν,ξ,ο,ρ,σ,τ,υ,reduceIte,reduceCtorEq,f5]; rfl) fun wd1 H1 h2=>?_
 simp only[go_sem,γ,δ,ε,ζ,η,θ,ι,κ,μ,ν,ξ,ο,ρ,σ,τ,υ,reduceIte,reduceCtorEq,DM,f0]
 refine cE Lb.toCV T (o:=E.o) (n:=17) (a:=a+1) (by decide) Om rfl (h2.at 1 rfl) ?_
 have h3:=h2.set 1 rfl (bG l (a+1+1))
 simp only[go_sem,γ,δ,ε,ζ,η,θ,ι,κ,μ,ν,ξ,ο,ρ,σ,τ,υ,reduceIte,reduceCtorEq,e2,f5]
 refine qX Lb (lev:=2) (par:=ds.length) (up:=16+nxM l 17 (a+1)) h3 Om (by simp only[go_sem,γ,δ,ε,ζ,η,θ,ι,κ,μ,ν,ξ,ο,ρ,σ,τ,υ,reduceIte,reduceCtorEq,f5]; rfl) fun wd2 H2 h4=>?_
 simp only[go_sem,γ,δ,ε,ζ,η,θ,ι,κ,μ,ν,ξ,ο,ρ,σ,τ,υ,reduceIte,reduceCtorEq,DN,f0]
 refine cE Lb.toCV T (o:=E.o) (n:=9) (a:=a+2) (by decide) Om rfl (h4.at 1 rfl) ?_
 have h5:=h4.set 1 rfl (bG l (a+2+1))
 simp only[go_sem,γ,δ,ε,ζ,η,θ,ι,κ,μ,ν,ξ,ο,ρ,σ,τ,υ,reduceIte,reduceCtorEq,e3,f5]
 refine qX Lb (lev:=3) (par:=(dH ds 1 0 (16+nxM l 17 a)).length) (up:=8+nxM l 9 (a+2)) h5 Om (by simp only[go_sem,γ,δ,ε,ζ,η,θ,ι,κ,μ,ν,ξ,ο,ρ,σ,τ,υ,reduceIte,reduceCtorEq,f5]; rfl) fun wd3 H3 h6=>?_
 simp only[go_sem,γ,δ,ε,ζ,η,θ,ι,κ,μ,ν,ξ,ο,ρ,σ,τ,υ,reduceIte,reduceCtorEq]
 refine hK wd3 _ _ ?_ h6
 unfold eQ
 exact Lq
theorem bcP {C:Ctx} (Lb:BG C) {l:List Int} (T:TpM l) (E:ME) (n i:Nat) (p:MS) (hp:p.a≤50000) (hl:p.bGT.length≤60) (hd:p.bHH.length≤9) (ext w1 w2 wd wr:PV) (K:cN) (F:PF) (H:PH)
  (hF:(eQ E n p.room p.rack i).le F) (hH:aS H (E.boxes l ext w1 w2 wd wr .aB .aB p.a) [(wd,7,dJ p.bGT),(wr,3,eA p.bHH)])
  (hK:∀ wd' wr' F' H',(eQ E n p.room p.rack i).le F'→aS H' (E.boxes l ext w1 w2 wd' wr' .aB .aB (gZ l p.bGT.length (1+nxM l 2 (p.a+1)) (p.bHH,p.a+2)).2) [(wd',7,dJ (dH p.bGT 4 p.rack (8+nxM l 9 p.a))),(wr',3,eA (gZ l p.bGT.length (1+nxM l 2 (p.a+1)) (p.bHH,p.a+2)).1)]→K .normal F' H') :
  aC.wp C (.seq (.region tR) (.seq (.region tT) (.block 2 (.loop qE)))) K F H:=by
 have f0:F 0=some (.ptr E.o 2 0 0):=hF 0 _ (by unfold eQ; simp only[go_sem,γ,δ,ε,ζ,η,θ,ι,κ,μ,ν,ξ,ο,ρ,σ,τ,υ,reduceIte,reduceCtorEq])
 have f1:F 1=some (.int .i64 E.vols):=hF 1 _ (by unfold eQ; simp only[go_sem,γ,δ,ε,ζ,η,θ,ι,κ,μ,ν,ξ,ο,ρ,σ,τ,υ,reduceIte,reduceCtorEq])
 have f4:F 4=some (.ptr E.o4 7 0 0):=hF 4 _ (by unfold eQ; simp only[go_sem,γ,δ,ε,ζ,η,θ,ι,κ,μ,ν,ξ,ο,ρ,σ,τ,υ,reduceIte,reduceCtorEq])
 have f5:F 5=some (.ptr E.o5 7 0 0):=hF 5 _ (by unfold eQ; simp only[go_sem,γ,δ,ε,ζ,η,θ,ι,κ,μ,ν,ξ,ο,ρ,σ,τ,υ,reduceIte,reduceCtorEq])
 have f6:F 6=some (.int .i64 n):=hF 6 _ (by unfold eQ; simp only[go_sem,γ,δ,ε,ζ,η,θ,ι,κ,μ,ν,ξ,ο,ρ,σ,τ,υ,reduceIte,reduceCtorEq])
 have f8:F 8=some (.int .i64 p.room):=hF 8 _ (by unfold eQ; simp only[go_sem,γ,δ,ε,ζ,η,θ,ι,κ,μ,ν,ξ,ο,ρ,σ,τ,υ,reduceIte,reduceCtorEq])
 have f9:F 9=some (.int .i64 p.rack):=hF 9 _ (by unfold eQ; simp only[go_sem,γ,δ,ε,ζ,η,θ,ι,κ,μ,ν,ξ,ο,ρ,σ,τ,υ,reduceIte,reduceCtorEq])
 have f10:F 10=some (.int .i64 i):=hF 10 _ (by unfold eQ; simp only[go_sem,γ,δ,ε,ζ,η,θ,ι,κ,μ,ν,ξ,ο,ρ,σ,τ,υ,reduceIte,reduceCtorEq])
 have n1:=cK l (show 0<9 by decide) p.a
 have n2:=cK l (show 0<2 by decide) (p.a+1)
 have e1:IntKind.i64.wrap (8+((nxM l 9 p.a:Nat):Int))=((8+nxM l 9 p.a:Nat):Int):=gE (a:=8) Om
 have e2:IntKind.i64.wrap (1+((nxM l 2 (p.a+1):Nat):Int))=((1+nxM l 2 (p.a+1):Nat):Int):=gE (a:=1) Om
 simp only[go_sem,γ,δ,ε,ζ,η,θ,ι,κ,μ,ν,ξ,ο,ρ,σ,τ,υ,reduceIte,reduceCtorEq,tR,f0,f9]
 refine cE Lb.toCV T (o:=E.o) (n:=9) (a:=p.a) (by decide) Om rfl (hH.at 1 rfl) ?_
 have h1:=hH.set 1 rfl (bG l (p.a+1))
 simp only[go_sem,γ,δ,ε,ζ,η,θ,ι,κ,μ,ν,ξ,ο,ρ,σ,τ,υ,reduceIte,reduceCtorEq,e1,f5,f9]
 refine qX Lb (lev:=4) (par:=p.rack) (up:=8+nxM l 9 p.a) h1 Om (by simp only[go_sem,γ,δ,ε,ζ,η,θ,ι,κ,μ,ν,ξ,ο,ρ,σ,τ,υ,reduceIte,reduceCtorEq,f5,f9]; rfl) fun wd1 H1 h2=>?_
 simp only[go_sem,γ,δ,ε,ζ,η,θ,ι,κ,μ,ν,ξ,ο,ρ,σ,τ,υ,reduceIte,reduceCtorEq,tT,f0]
 refine cE Lb.toCV T (o:=E.o) (n:=2) (a:=p.a+1) (by decide) Om rfl (h2.at 1 rfl) ?_
 have h3:=h2.set 1 rfl (bG l (p.a+1+1))
 simp only[go_sem,γ,δ,ε,ζ,η,θ,ι,κ,μ,ν,ξ,ο,ρ,σ,τ,υ,reduceIte,reduceCtorEq,e2]
 refine bkC Lb.tooF T E n p.room p.rack i p.bGT.length ext w1 w2 wd1 _ (1+nxM l 2 (p.a+1)) (p.bHH,p.a+2) wr hd (by simp only; omega) _ _ _ ?_ h3 ?_
 ·unfold jJ
  exact Lq
 ·intro wr' F' H' hF' h'
  exact hK wd1 wr' F' H' hF' h'
theorem a3S {C:Ctx} (Lb:BG C) {l:List Int} (T:TpM l) (E:ME) (n a0:Nat) (hn:n≤10) (ha:a0≤10000) (ext w1 w2 wd0:PV) (K:cN) (F:PF) (H:PH)
  (hF:(eQ E n 0 0 0).le F) (hH:aS H (E.boxes l ext w1 w2 wd0 .aB .aB .aB a0) [(wd0,7,dJ [iR]),(.aB,3,eA [])])
  (hK:∀ wd wr F' H',(tE E).le F'→aS H' (E.boxes l ext w1 w2 wd wr .aB .aB (eE l ⟨[iR],[],0,0,0,a0⟩ n).a) [(wd,7,dJ (eE l ⟨[iR],[],0,0,0,a0⟩ n).bGT),(wr,3,eA (eE l ⟨[iR],[],0,0,0,a0⟩ n).bHH)]→K (.exit 0) F' H') :
  aC.wp C (.loop DH) K F H:=by
 generalize hs0:(⟨[iR],[],0,0,0,a0⟩:MS)=s0 at *
 have hM0:MOk 0 a0 s0:=by rw[← hs0]; exact abO a0
 refine wp_loop (α:=Nat × PV × PV × PH) (fun t=>eQ E n (eE l s0 t.1).room (eE l s0 t.1).rack t.1) (fun t=>t.2.2.2)
  (fun t=>t.1≤n∧aS t.2.2.2 (E.boxes l ext w1 w2 t.2.1 t.2.2.1 .aB .aB (eE l s0 t.1).a) [(t.2.1,7,dJ (eE l s0 t.1).bGT),(t.2.2.1,3,eA (eE l s0 t.1).bHH)]) (fun t=>n-t.1) (0,wd0,.aB,H) ⟨bIX _,by rw[← hs0]; exact hH⟩ (by rw[← hs0]; exact hF) PH.le_refl ?_
 rintro⟨i,wd,wr,H0⟩ ⟨hi,hH⟩
 simp only at hi hH ⊢
 have hM:=oL l hM0 i Om
 have bGQ:eE l s0 (i+1)=xV l i (eE l s0 i):=rfl
 generalize hs:eE l s0 i=s at *
 obtain⟨m1,m2,m3,m4,m5,m6,m7,m8⟩:=hM
 simp only[go_sem,γ,δ,ε,ζ,η,θ,ι,κ,μ,ν,ξ,ο,ρ,σ,τ,υ,reduceIte,reduceCtorEq,DH,akW,eQ]
 by_cases hlt:i<n
 ·have bGP:(i:Int)<(n:Nat):=by omega
  have rest:∀ (p:MS) (wd':PV) (F':PF) (H':PH),eH l i s=p→(eQ E n p.room p.rack i).le F'→aS H' (E.boxes l ext w1 w2 wd' wr .aB .aB p.a) [(wd',7,dJ p.bGT),(wr,3,eA p.bHH)] →
    aC.wp C (.seq (.region tR) (.seq (.region tT) (.block 2 (.loop qE)))) (dX 1 (iH C (aC.wp C (.region DR)) (eF (fun t:Nat × PV × PV × PH=>eQ E n (eE l s0 t.1).room (eE l s0 t.1).rack t.1) (fun t=>t.2.2.2)
     (fun t=>t.1≤n∧aS t.2.2.2 (E.boxes l ext w1 w2 t.2.1 t.2.2.1 .aB .aB (eE l s0 t.1).a) [(t.2.1,7,dJ (eE l s0 t.1).bGT),(t.2.2.1,3,eA (eE l s0 t.1).bHH)]) (fun t=>n-t.1) (n-i) K))) F' H':=by
   intro p wd' F' H' hp hF' h'
   obtain⟨p1,p2,p3,p4,p5,p6,p7,p8⟩:=TB l i (k:=i) (a0:=a0) Om (⟨m1,m2,m3,m4,m5,m6,m7,m8⟩:MOk i a0 s)
   rw[hp] at p1 p3 p7 p8
   refine bcP Lb T E n i p Om Om p3 ext w1 w2 wd' wr _ _ _ hF' h' ?_
   intro wd2 wr2 F2 H2 hF2 h2
   have f0:F2 0=some (.ptr E.o 2 0 0):=hF2 0 _ (by unfold eQ; simp only[go_sem,γ,δ,ε,ζ,η,θ,ι,κ,μ,ν,ξ,ο,ρ,σ,τ,υ,reduceIte,reduceCtorEq])
   have f1:F2 1=some (.int .i64 E.vols):=hF2 1 _ (by unfold eQ; simp only[go_sem,γ,δ,ε,ζ,η,θ,ι,κ,μ,ν,ξ,ο,ρ,σ,τ,υ,reduceIte,reduceCtorEq])
   have f4:F2 4=some (.ptr E.o4 7 0 0):=hF2 4 _ (by unfold eQ; simp only[go_sem,γ,δ,ε,ζ,η,θ,ι,κ,μ,ν,ξ,ο,ρ,σ,τ,υ,reduceIte,reduceCtorEq])
   have f5:F2 5=some (.ptr E.o5 7 0 0):=hF2 5 _ (by unfold eQ; simp only[go_sem,γ,δ,ε,ζ,η,θ,ι,κ,μ,ν,ξ,ο,ρ,σ,τ,υ,reduceIte,reduceCtorEq])
   have f6:F2 6=some (.int .i64 n):=hF2 6 _ (by unfold eQ; simp only[go_sem,γ,δ,ε,ζ,η,θ,ι,κ,μ,ν,ξ,ο,ρ,σ,τ,υ,reduceIte,reduceCtorEq])
   have f8:F2 8=some (.int .i64 p.room):=hF2 8 _ (by unfold eQ; simp only[go_sem,γ,δ,ε,ζ,η,θ,ι,κ,μ,ν,ξ,ο,ρ,σ,τ,υ,reduceIte,reduceCtorEq])
   have f9:F2 9=some (.int .i64 p.rack):=hF2 9 _ (by unfold eQ; simp only[go_sem,γ,δ,ε,ζ,η,θ,ι,κ,μ,ν,ξ,ο,ρ,σ,τ,υ,reduceIte,reduceCtorEq])
   have f10:F2 10=some (.int .i64 i):=hF2 10 _ (by unfold eQ; simp only[go_sem,γ,δ,ε,ζ,η,θ,ι,κ,μ,ν,ξ,ο,ρ,σ,τ,υ,reduceIte,reduceCtorEq])
   have hnew:eE l s0 (i+1)={ p with bGT:=dH p.bGT 4 p.rack (8+nxM l 9 p.a),bHH:=(gZ l p.bGT.length (1+nxM l 2 (p.a+1)) (p.bHH,p.a+2)).1,a:=(gZ l p.bGT.length (1+nxM l 2 (p.a+1)) (p.bHH,p.a+2)).2 }:=by
    rw[bGQ]; unfold xV; rw[hp]
   simp only[go_sem,γ,δ,ε,ζ,η,θ,ι,κ,μ,ν,ξ,ο,ρ,σ,τ,υ,reduceIte,reduceCtorEq,DR,f10,wZz i]
   refine aK (i+1,wd2,wr2,H2) ⟨hlt,?_⟩ (by simp only; omega) ?_ PH.le_refl
   ·simp only
    rw[hnew]
    exact h2
   ·simp only
    rw[hnew]
    unfold eQ
    exact Lq
  have hp0:=fun p (h:eH l i s=p)=>h
  simp only[go_sem,γ,δ,ε,ζ,η,θ,ι,κ,μ,ν,ξ,ο,ρ,σ,τ,υ,reduceIte,reduceCtorEq,bGP,akX]
  by_cases c0:i=0
  ·simp only[go_sem,γ,δ,ε,ζ,η,θ,ι,κ,μ,ν,ξ,ο,ρ,σ,τ,υ,reduceIte,reduceCtorEq,bS (Om:((i:Nat):Int)=0)]
   refine aLU Lb T E n s.room s.rack i s.a Om ext w1 w2 wd wr s.bGT Om [(wr,3,eA s.bHH)] _ _ _ (by unfold eQ; exact Lq) hH ?_
   intro wd' F' H' hF' h'
   have hp:eH l i s=⟨dH (dH (dH s.bGT 1 0 (16+nxM l 17 s.a)) 2 s.bGT.length (16+nxM l 17 (s.a+1))) 3 (dH s.bGT 1 0 (16+nxM l 17 s.a)).length (8+nxM l 9 (s.a+2)),s.bHH,s.bGT.length,(dH s.bGT 1 0 (16+nxM l 17 s.a)).length,(dH (dH s.bGT 1 0 (16+nxM l 17 s.a)) 2 s.bGT.length (16+nxM l 17 (s.a+1))).length,s.a+3⟩:=by
    unfold eH
    simp only
    rw[if_pos c0]
   exact rest _ wd' F' H' hp hF' h'
  simp only[go_sem,γ,δ,ε,ζ,η,θ,ι,κ,μ,ν,ξ,ο,ρ,σ,τ,υ,reduceIte,reduceCtorEq,bF (Om:((i:Nat):Int)≠0)]
  refine cE Lb.toCV T (o:=E.o) (n:=4) (a:=s.a) (by decide) Om rfl (hH.at 1 rfl) ?_
  have h1:=hH.set 1 rfl (bG l (s.a+1))
  by_cases c1:nxM l 4 s.a=0
  ·simp only[go_sem,γ,δ,ε,ζ,η,θ,ι,κ,μ,ν,ξ,ο,ρ,σ,τ,υ,reduceIte,reduceCtorEq,bS (Om:((nxM l 4 s.a:Nat):Int)=0)]
   refine aLU Lb T E n s.room s.rack i (s.a+1) Om ext w1 w2 wd wr s.bGT Om [(wr,3,eA s.bHH)] _ _ _ (by unfold eQ; exact Lq) h1 ?_
   intro wd' F' H' hF' h'
   have hp:eH l i s=⟨dH (dH (dH s.bGT 1 0 (16+nxM l 17 (s.a+1))) 2 s.bGT.length (16+nxM l 17 (s.a+1+1))) 3 (dH s.bGT 1 0 (16+nxM l 17 (s.a+1))).length (8+nxM l 9 (s.a+1+2)),s.bHH,s.bGT.length,(dH s.bGT 1 0 (16+nxM l 17 (s.a+1))).length,(dH (dH s.bGT 1 0 (16+nxM l 17 (s.a+1))) 2 s.bGT.length (16+nxM l 17 (s.a+1+1))).length,s.a+1+3⟩:=by
    unfold eH
    simp only
    rw[if_neg c0,if_pos c1]
   exact rest _ wd' F' H' hp hF' h'
  simp only[go_sem,γ,δ,ε,ζ,η,θ,ι,κ,μ,ν,ξ,ο,ρ,σ,τ,υ,reduceIte,reduceCtorEq,bF (Om:((nxM l 4 s.a:Nat):Int)≠0),YN]
  refine cE Lb.toCV T (o:=E.o) (n:=2) (a:=s.a+1) (by decide) Om rfl (h1.at 1 rfl) ?_
  have h2:=h1.set 1 rfl (bG l (s.a+1+1))
  rw[PH.set_set] at h2
  by_cases c2:nxM l 2 (s.a+1)=0
  ·have n3:=cK l (show 0<9 by decide) (s.a+2)
   have e3:IntKind.i64.wrap (8+((nxM l 9 (s.a+2):Nat):Int))=((8+nxM l 9 (s.a+2):Nat):Int):=gE (a:=8) Om
   simp only[go_sem,γ,δ,ε,ζ,η,θ,ι,κ,μ,ν,ξ,ο,ρ,σ,τ,υ,reduceIte,reduceCtorEq,bS (show ((nxM l 2 (s.a+1):Nat):Int)=0 by omega),YO]
   refine cE Lb.toCV T (o:=E.o) (n:=9) (a:=s.a+2) (by decide) Om rfl (h2.at 1 rfl) ?_
   have h3:=h2.set 1 rfl (bG l (s.a+2+1))
   rw[PH.set_set] at h3
   simp only[go_sem,γ,δ,ε,ζ,η,θ,ι,κ,μ,ν,ξ,ο,ρ,σ,τ,υ,reduceIte,reduceCtorEq,e3]
   refine qX Lb (lev:=3) (par:=s.room) (up:=8+nxM l 9 (s.a+2)) h3 Om rfl fun wd3 H3 h4=>?_
   have hp:eH l i s=⟨dH s.bGT 3 s.room (8+nxM l 9 (s.a+2)),s.bHH,s.site,s.room,s.bGT.length,s.a+3⟩:=by
    unfold eH
    simp only
    rw[if_neg c0,if_neg c1,if_pos c2]
   simp only[go_sem,γ,δ,ε,ζ,η,θ,ι,κ,μ,ν,ξ,ο,ρ,σ,τ,υ,reduceIte,reduceCtorEq]
   exact rest _ wd3 _ _ hp (by unfold eQ; exact Lq) h4
  ·have hp:eH l i s={ s with a:=s.a+2 }:=by
    unfold eH
    simp only
    rw[if_neg c0,if_neg c1,if_neg c2]
   simp only[go_sem,γ,δ,ε,ζ,η,θ,ι,κ,μ,ν,ξ,ο,ρ,σ,τ,υ,reduceIte,reduceCtorEq,bF (show ((nxM l 2 (s.a+1):Nat):Int)≠0 by omega)]
   exact rest _ wd _ _ hp (by unfold eQ; exact Lq) h2
 ·have bGP:¬ (i:Int)<(n:Nat):=by omega
  have:i=n:=by omega
  subst this
  simp only[go_sem,γ,δ,ε,ζ,η,θ,ι,κ,μ,ν,ξ,ο,ρ,σ,τ,υ,reduceIte,reduceCtorEq,bGP]
  refine hK wd wr _ _ ?_ ?_
  ·unfold tE
   exact Lq
  ·rw[hs]; exact hH
abbrev lP (P:cY) (w:PV):List PV:=[.str P.name,.int .i64 P.k,.int .i64 P.m,.int .i64 P.bHM,.int .i64 P.s0,.int .i64 P.s1,.int .i64 P.s2,.int .i64 P.s3,.int .i64 P.s4,ints P.bGJ,w,
 .bool P.target.neg,aF P.target.num,aF P.target.den,.bool P.bGU.neg,aF P.bGU.num,aF P.bGU.den]
def tF (E:ME) (t m q j:Nat):PF:=((((((((PF.nil.set 0 (.ptr E.o 2 0 0)).set 1 (.int .i64 E.vols)).set 4 (.ptr E.o4 7 0 0)).set 5 (.ptr E.o5 7 0 0)).set 14 (.int .i64 t)).set 16 (.int .i64 m)).set 17 (.ptr q 17 0 0)).set 18 (.int .i64 j))
def yR (E:ME) (t m q:Nat):PF:=(((((((PF.nil.set 0 (.ptr E.o 2 0 0)).set 1 (.int .i64 E.vols)).set 4 (.ptr E.o4 7 0 0)).set 5 (.ptr E.o5 7 0 0)).set 14 (.int .i64 t)).set 16 (.int .i64 m)).set 17 (.ptr q 17 0 0))
abbrev sR (n:Nat):List (List PV):=QP (bIP n (mkT 1 2))
theorem aJV (n:Nat):sR n++[(mkT 1 2).cells]=sR (n+1):=by
 unfold sR
 rw[List.replicate_succ',aXA]
theorem bkE {C:Ctx} (Lb:oF C) (E:ME) (t m q:Nat) (P:cY) (B:List BX) (L:List LI) (hm:m≤100) (K:cN) (F:PF) (H:PH)
  (hF:(tF E t m q 0).le F) (hH:aS H ((q,.rows 17 [lP P .aB])::B) L)
  (hK:∀ w F' H',(tF E t m q (max m 1)).le F'→aS H' ((q,.rows 17 [lP P w])::B) (L++[(w,3,sR (max m 1))])→K (.exit 6) F' H') :
  aC.wp C (.loop DI) K F H:=by
 refine wp_loop (α:=Nat × PV × PH) (fun s=>tF E t m q s.1) (fun s=>s.2.2) (fun s=>s.1≤max m 1∧aS s.2.2 ((q,.rows 17 [lP P s.2.1])::B) (L++[(s.2.1,3,sR s.1)])) (fun s=>max m 1-s.1) (0,.aB,H) ⟨bIX _,hH.qN 3⟩ hF PH.le_refl ?_
 rintro⟨j,w,H0⟩ ⟨hj,hH⟩
 simp only at hj hH ⊢
 have emax:max ((m:Nat):Int) 1=((max m 1:Nat):Int):=by omega
 simp only[go_sem,γ,δ,ε,ζ,η,θ,ι,κ,μ,ν,ξ,ο,ρ,σ,τ,υ,reduceIte,reduceCtorEq,DI,YW,tF,max_eq,emax]
 by_cases hlt:j<max m 1
 ·have bGP:(j:Int)<((max m 1:Nat):Int):=by omega
  have b:=hH.at 0 rfl
  simp only[go_sem,γ,δ,ε,ζ,η,θ,ι,κ,μ,ν,ξ,ο,ρ,σ,τ,υ,reduceIte,reduceCtorEq,bGP]
  refine bT (PH.nil.set q (.rows 17 [lP P w])) (mdS []) (PH.aI PH.nil_le b) ?_
  simp only[go_sem,γ,δ,ε,ζ,η,θ,ι,κ,μ,ν,ξ,ο,ρ,σ,τ,υ,reduceIte,reduceCtorEq,YX,b]
  refine akN Lb (n:=1) (m:=2) (by unfold cU; omega) (by unfold cU; omega) (by decide) rfl (PH.aI PH.nil_le b) ?_
  have h13:(1:Nat)*3≤16777216:=by decide
  simp only[go_sem,γ,δ,ε,ζ,η,θ,ι,κ,μ,ν,ξ,ο,ρ,σ,τ,υ,reduceIte,reduceCtorEq,h13]
  refine hH.append (v:=w) (s:=3) (rows:=sR j) L.length (src:=[(mkT 1 2).cells]) (by simp) rfl (by unfold roomFor; rw[KR,bLX]; simp only[bJC,maxLen]; omega) fun w' H2 h5 hw=>?_
  obtain⟨z,rfl⟩:=hw (by simp)
  rw[bLY _ _ (bIO _),bLH] at h5
  have b2:=h5.at 0 rfl
  refine⟨PH.aI PH.nil_le b2,?_⟩
  refine bT .nil eG PH.nil_le ?_
  simp only[go_sem,γ,δ,ε,ζ,η,θ,ι,κ,μ,ν,ξ,ο,ρ,σ,τ,υ,reduceIte,reduceCtorEq,YY,b2,bJA,bJR,or_false,forall_eq]
  have h6:=h5.set 0 rfl (.rows 17 [lP P (.osl z 3 0 (sR j++[(mkT 1 2).cells]).length)])
  refine⟨PH.nil_le,?_⟩
  simp only[go_sem,γ,δ,ε,ζ,η,θ,ι,κ,μ,ν,ξ,ο,ρ,σ,τ,υ,reduceIte,reduceCtorEq,YZ,wZz j]
  refine aK (j+1,.osl z 3 0 (sR j++[(mkT 1 2).cells]).length,_) ⟨hlt,?_⟩ (by simp only; omega) ?_ PH.le_refl
  ·simp only
   rw[← aJV]
   exact h6
  ·exact Lq
 ·have bGP:¬ (j:Int)<((max m 1:Nat):Int):=by omega
  have:j=max m 1:=by omega
  subst this
  simp only[go_sem,γ,δ,ε,ζ,η,θ,ι,κ,μ,ν,ξ,ο,ρ,σ,τ,υ,reduceIte,reduceCtorEq,bGP]
  refine hK w _ _ ?_ hH
  unfold tF
  exact Lq
theorem bkD {C:Ctx} (Lb:oF C) {l:List Int} (T:TpM l) (E:ME) (t a:Nat) (ht:t<100) (ha:a≤50000) (ext w1 w2 wd wr wp:PV) (L:List LI) (X:aC) (K:cN) (F:PF) (H:PH)
  (f0:F 0=some (.ptr E.o 2 0 0)) (f1:F 1=some (.int .i64 E.vols)) (f4:F 4=some (.ptr E.o4 7 0 0)) (f5:F 5=some (.ptr E.o5 7 0 0)) (f14:F 14=some (.int .i64 t))
  (hH:aS H (E.boxes l ext w1 w2 wd wr wp .aB a) L)
  (hK:∀ q F' H',(yR E t (nxM l 3 (a+1)) q).le F'→aS H' ((q,.rows 17 [lP (oE l t a) .aB])::E.boxes l ext w1 w2 wd wr wp .aB (a+6)) L→aC.wp C X K F' H') :
  aC.wp C (.seq (.region DS) (.seq (.region DT) (.seq (.region DU) (.seq (.region DW) (.seq (.region DX) (.seq (.seq (.region DY) (.cond (.tmp 163) (.region DZ) .skip)) X)))))) K F H:=by
 have n1:=cK l (show 0<2 by decide) a
 have n2:=cK l (show 0<3 by decide) (a+1)
 have n3:=cK l (Om:0<nxM l 3 (a+1)+1) (a+2)
 have e1:IntKind.i64.wrap (1+((nxM l 2 a:Nat):Int))=((1+nxM l 2 a:Nat):Int):=gE (a:=1) Om
 have e2:IntKind.i64.wrap (((nxM l 3 (a+1):Nat):Int)+1)=((nxM l 3 (a+1)+1:Nat):Int):=dE Om
 have e3:IntKind.i64.wrap (((1+nxM l 2 a:Nat):Int)+((nxM l (nxM l 3 (a+1)+1) (a+2):Nat):Int))=((1+nxM l 2 a+nxM l (nxM l 3 (a+1)+1) (a+2):Nat):Int):=gE Om
 have h12:(2:Nat)*1≤16777216:=by decide
 have h35:(3:Int)<((5:Nat):Int):=by decide
 have h45:(4:Int)<((5:Nat):Int):=by decide
 have h11:(1:Nat)*1≤16777216:=by decide
 simp only[go_sem,γ,δ,ε,ζ,η,θ,ι,κ,μ,ν,ξ,ο,ρ,σ,τ,υ,reduceIte,reduceCtorEq,DS,f0]
 refine cE Lb.toCV T (o:=E.o) (n:=2) (a:=a) (by decide) Om rfl (hH.at 1 rfl) ?_
 have h1:=hH.set 1 rfl (bG l (a+1))
 simp only[go_sem,γ,δ,ε,ζ,η,θ,ι,κ,μ,ν,ξ,ο,ρ,σ,τ,υ,reduceIte,reduceCtorEq,e1,DT,f0]
 refine cE Lb.toCV T (o:=E.o) (n:=3) (a:=a+1) (by decide) Om rfl (h1.at 1 rfl) ?_
 have h2:=h1.set 1 rfl (bG l (a+2))
 rw[PH.set_set] at h2
 simp only[go_sem,γ,δ,ε,ζ,η,θ,ι,κ,μ,ν,ξ,ο,ρ,σ,τ,υ,reduceIte,reduceCtorEq,DU,f14]
 refine aA (Lb.name 112 t ht) rfl ?_
 simp only[go_sem,γ,δ,ε,ζ,η,θ,ι,κ,μ,ν,ξ,ο,ρ,σ,τ,υ,reduceIte,reduceCtorEq,f0,e2]
 refine cE Lb.toCV T (o:=E.o) (n:=nxM l 3 (a+1)+1) (a:=a+2) Om Om rfl (h2.at 1 rfl) ?_
 have h3:=h2.set 1 rfl (bG l (a+3))
 rw[PH.set_set] at h3
 simp only[go_sem,γ,δ,ε,ζ,η,θ,ι,κ,μ,ν,ξ,ο,ρ,σ,τ,υ,reduceIte,reduceCtorEq,e3,h12]
 refine aA (Lb.frac 1 1000 (by unfold cU; omega) (by unfold cU; omega) (by decide)) rfl ?_
 simp only[go_sem,γ,δ,ε,ζ,η,θ,ι,κ,μ,ν,ξ,ο,ρ,σ,τ,υ,reduceIte,reduceCtorEq]
 refine aA (Lb.frac 30 1 (by unfold cU; omega) (by unfold cU; omega) (by decide)) rfl ?_
 simp only[go_sem,γ,δ,ε,ζ,η,θ,ι,κ,μ,ν,ξ,ο,ρ,σ,τ,υ,reduceIte,reduceCtorEq,bJA,bJR,or_false,forall_eq,forall_eq_or_imp]
 refine aQ fun q hq=>?_
 have h4:=h3.new hq (.rows 17 [[.str (dK 112 t),.int .i64 (1+nxM l 2 a:Nat),.int .i64 (nxM l 3 (a+1):Nat),.int .i64 (1+nxM l 2 a+nxM l (nxM l 3 (a+1)+1) (a+2):Nat),.int .i64 0,.int .i64 0,.int .i64 0,.int .i64 0,.int .i64 0,ints [0,1],.aB,.bool (mkT 1 1000).neg,aF (mkT 1 1000).num,aF (mkT 1 1000).den,.bool (mkT 30 1).neg,aF (mkT 30 1).num,aF (mkT 30 1).den]])
 have nq:¬ E.o=q:=h4.ne 1 3 rfl rfl (by decide)
 have nq':¬ q=E.o:=fun h=>nq h.symm
 simp only[go_sem,γ,δ,ε,ζ,η,θ,ι,κ,μ,ν,ξ,ο,ρ,σ,τ,υ,reduceIte,reduceCtorEq,bJA,bJR,or_false,forall_eq,forall_eq_or_imp,DW,f0]
 refine cE Lb.toCV T (o:=E.o) (n:=4) (a:=a+3) (by decide) Om rfl (h4.at 1 rfl) ?_
 have h5:=h4.set 1 rfl (bG l (a+4))
 have h6:=h5.set 3 rfl (.rows 17 [[.str (dK 112 t),.int .i64 (1+nxM l 2 a:Nat),.int .i64 (nxM l 3 (a+1):Nat),.int .i64 (1+nxM l 2 a+nxM l (nxM l 3 (a+1)+1) (a+2):Nat),.int .i64 0,.int .i64 0,.int .i64 0,.int .i64 (nxM l 4 (a+3):Nat),.int .i64 0,ints [0,1],.aB,.bool (mkT 1 1000).neg,aF (mkT 1 1000).num,aF (mkT 1 1000).den,.bool (mkT 30 1).neg,aF (mkT 30 1).num,aF (mkT 30 1).den]])
 simp only[go_sem,γ,δ,ε,ζ,η,θ,ι,κ,μ,ν,ξ,ο,ρ,σ,τ,υ,reduceIte,reduceCtorEq,h35,nq,nq',bJA,bJR,or_false,forall_eq,DX,f0]
 refine cE Lb.toCV T (o:=E.o) (n:=3) (a:=a+4) (by decide) Om rfl (h6.at 1 rfl) ?_
 have h7:=h6.set 1 rfl (bG l (a+5))
 have h8:=h7.set 3 rfl (.rows 17 [[.str (dK 112 t),.int .i64 (1+nxM l 2 a:Nat),.int .i64 (nxM l 3 (a+1):Nat),.int .i64 (1+nxM l 2 a+nxM l (nxM l 3 (a+1)+1) (a+2):Nat),.int .i64 0,.int .i64 0,.int .i64 0,.int .i64 (nxM l 4 (a+3):Nat),.int .i64 (nxM l 3 (a+4):Nat),ints [0,1],.aB,.bool (mkT 1 1000).neg,aF (mkT 1 1000).num,aF (mkT 1 1000).den,.bool (mkT 30 1).neg,aF (mkT 30 1).num,aF (mkT 30 1).den]])
 simp only[go_sem,γ,δ,ε,ζ,η,θ,ι,κ,μ,ν,ξ,ο,ρ,σ,τ,υ,reduceIte,reduceCtorEq,h45,nq,nq',bJA,bJR,or_false,forall_eq,DY,f0]
 refine cE Lb.toCV T (o:=E.o) (n:=5) (a:=a+5) (by decide) Om rfl (h8.at 1 rfl) ?_
 have h9:=h8.set 1 rfl (bG l (a+6))
 by_cases c:nxM l 5 (a+5)=0
 ·have h10:=h9.set 3 rfl (.rows 17 [lP (oE l t a) .aB])
  have eP:lP (oE l t a) .aB=[.str (dK 112 t),.int .i64 (1+nxM l 2 a:Nat),.int .i64 (nxM l 3 (a+1):Nat),.int .i64 (1+nxM l 2 a+nxM l (nxM l 3 (a+1)+1) (a+2):Nat),.int .i64 0,.int .i64 0,.int .i64 0,.int .i64 (nxM l 4 (a+3):Nat),.int .i64 (nxM l 3 (a+4):Nat),ints [0],.aB,.bool (mkT 1 1000).neg,aF (mkT 1 1000).num,aF (mkT 1 1000).den,.bool (mkT 30 1).neg,aF (mkT 30 1).num,aF (mkT 30 1).den]:=by
   unfold oE lP
   simp only[if_pos c]
  have h11':=h10.perm (List.perm_append_comm (l₁:=E.boxes l ext w1 w2 wd wr wp .aB (a+6)) (l₂:=[(q,.rows 17 [lP (oE l t a) .aB])])) (List.Perm.refl _)
  simp only[go_sem,γ,δ,ε,ζ,η,θ,ι,κ,μ,ν,ξ,ο,ρ,σ,τ,υ,reduceIte,reduceCtorEq,bS (show ((nxM l 5 (a+5):Nat):Int)=0 by omega),DZ,h11,nq,nq',bJA,bJR,or_false,forall_eq]
  rw[eP] at h11'
  refine hK q _ _ ?_ (by rw[eP]; exact h11')
  unfold yR
  exact Lq
 ·have eP:lP (oE l t a) .aB=[.str (dK 112 t),.int .i64 (1+nxM l 2 a:Nat),.int .i64 (nxM l 3 (a+1):Nat),.int .i64 (1+nxM l 2 a+nxM l (nxM l 3 (a+1)+1) (a+2):Nat),.int .i64 0,.int .i64 0,.int .i64 0,.int .i64 (nxM l 4 (a+3):Nat),.int .i64 (nxM l 3 (a+4):Nat),ints [0,1],.aB,.bool (mkT 1 1000).neg,aF (mkT 1 1000).num,aF (mkT 1 1000).den,.bool (mkT 30 1).neg,aF (mkT 30 1).num,aF (mkT 30 1).den]:=by
   unfold oE lP
   simp only[if_neg c]
  simp only[go_sem,γ,δ,ε,ζ,η,θ,ι,κ,μ,ν,ξ,ο,ρ,σ,τ,υ,reduceIte,reduceCtorEq,bF (show ((nxM l 5 (a+5):Nat):Int)≠0 by omega)]
  refine hK q _ _ ?_ ?_
  ·unfold yR
   exact Lq
  ·rw[eP]
   exact h9.perm (List.perm_append_comm (l₁:=E.boxes l ext w1 w2 wd wr wp .aB (a+6)) (l₂:=[(q,.rows 17 [_])])) (List.Perm.refl _)
def aWI (E:ME) (t:Nat):PF:=(((((PF.nil.set 0 (.ptr E.o 2 0 0)).set 1 (.int .i64 E.vols)).set 4 (.ptr E.o4 7 0 0)).set 5 (.ptr E.o5 7 0 0)).set 14 (.int .i64 t))
theorem bcO {C:Ctx} (Lb:oF C) {l:List Int} (T:TpM l) (E:ME) (n a0:Nat) (hn:n≤10) (ha:a0≤10000) (x0:Int) (w1 w2 wd wr:PV) (o1:w1.oid=none) (o2:w2.oid=none) (dm:List bR) (dv:List cC) (K:cN) (F:PF) (H:PH)
  (hF:(aWI E n).le F) (hH:aS H (E.boxes l (.int .i64 x0) w1 w2 wd wr .aB .aB a0) [(wd,7,dJ dm),(wr,3,eA dv)])
  (hK:∀ wp F' H',(tE E).le F'→aS H' (E.boxes l (.int .i64 x0) w1 w2 wd wr wp .aB (a0+6*n)) [(wd,7,dJ dm),(wr,3,eA dv),(wp,17,kW (gU l n a0))]→K (.exit 4) F' H') :
  aC.wp C (.loop DJ) K F H:=by
 refine wp_loop (α:=Nat × List cY × PV × PH) (fun s=>aWI E s.1) (fun s=>s.2.2.2)
  (fun s=>s.1≤n∧s.2.1.length=n-s.1∧s.2.1++gU l s.1 (a0+6*(n-s.1))=gU l n a0∧aS s.2.2.2 (E.boxes l (.int .i64 x0) w1 w2 wd wr s.2.2.1 .aB (a0+6*(n-s.1))) [(wd,7,dJ dm),(wr,3,eA dv),(s.2.2.1,17,kW s.2.1)]) (fun s=>s.1) (n,[],.aB,H)
  ⟨bIO _,by simp,by simp,by simp only[bLH,Nat.mul_zero,bKD]; exact hH.qN 17⟩ hF PH.le_refl ?_
 rintro⟨t,done,wp,H0⟩ ⟨ht,hdl,hE,hH⟩
 simp only at ht hdl hE hH ⊢
 simp only[go_sem,γ,δ,ε,ζ,η,θ,ι,κ,μ,ν,ξ,ο,ρ,σ,τ,υ,reduceIte,reduceCtorEq,DJ,YU,aWI]
 cases t with
 | zero =>
  have hc:¬ (((0:Nat):Int)>0):=by omega
  have e:done=gU l n a0:=by rw[← hE,gU,bKM]
  rw[Nat.sub_zero,e] at hH
  simp only[go_sem,γ,δ,ε,ζ,η,θ,ι,κ,μ,ν,ξ,ο,ρ,σ,τ,υ,reduceIte,reduceCtorEq,hc]
  refine hK wp _ _ ?_ hH
  unfold tE
  exact Lq
 | succ t =>
  have hc:(((t+1:Nat):Int)>0):=by omega
  obtain⟨a,hae⟩:∃ a,a=a0+6*(n-(t+1)):=⟨_,rfl⟩
  have ha6:a0+6*(n-t)=a+6:=by omega
  rw[← hae] at hE hH
  simp only[go_sem,γ,δ,ε,ζ,η,θ,ι,κ,μ,ν,ξ,ο,ρ,σ,τ,υ,reduceIte,reduceCtorEq,hc]
  refine bkD Lb T E (t+1) a Om Om (.int .i64 x0) w1 w2 wd wr wp _ _ _ _ _ Ev Ev Ev Ev Ev hH ?_
  intro q F1 H1 hF1 h1
  have f0:F1 0=some (.ptr E.o 2 0 0):=hF1 0 _ (by unfold yR; simp only[go_sem,γ,δ,ε,ζ,η,θ,ι,κ,μ,ν,ξ,ο,ρ,σ,τ,υ,reduceIte,reduceCtorEq])
  have f1:F1 1=some (.int .i64 E.vols):=hF1 1 _ (by unfold yR; simp only[go_sem,γ,δ,ε,ζ,η,θ,ι,κ,μ,ν,ξ,ο,ρ,σ,τ,υ,reduceIte,reduceCtorEq])
  have f4:F1 4=some (.ptr E.o4 7 0 0):=hF1 4 _ (by unfold yR; simp only[go_sem,γ,δ,ε,ζ,η,θ,ι,κ,μ,ν,ξ,ο,ρ,σ,τ,υ,reduceIte,reduceCtorEq])
  have f5:F1 5=some (.ptr E.o5 7 0 0):=hF1 5 _ (by unfold yR; simp only[go_sem,γ,δ,ε,ζ,η,θ,ι,κ,μ,ν,ξ,ο,ρ,σ,τ,υ,reduceIte,reduceCtorEq])
  have f14:F1 14=some (.int .i64 (t+1:Nat)):=hF1 14 _ (by unfold yR; simp only[go_sem,γ,δ,ε,ζ,η,θ,ι,κ,μ,ν,ξ,ο,ρ,σ,τ,υ,reduceIte,reduceCtorEq])
  have f16:F1 16=some (.int .i64 (nxM l 3 (a+1):Nat)):=hF1 16 _ (by unfold yR; simp only[go_sem,γ,δ,ε,ζ,η,θ,ι,κ,μ,ν,ξ,ο,ρ,σ,τ,υ,reduceIte,reduceCtorEq])
  have f17:F1 17=some (.ptr q 17 0 0):=hF1 17 _ (by unfold yR; simp only[go_sem,γ,δ,ε,ζ,η,θ,ι,κ,μ,ν,ξ,ο,ρ,σ,τ,υ,reduceIte,reduceCtorEq])
  have n3:=cK l (show 0<3 by decide) (a+1)
  have hPr:(oE l (t+1) a).repair=bIP (max (nxM l 3 (a+1)) 1) (mkT 1 2):=rfl
  have hE2:(done++[oE l (t+1) a])++gU l t (a+6)=gU l n a0:=by rw[← hE,gU,bJM]; rfl
  generalize oE l (t+1) a=P at *
  simp only[go_sem,γ,δ,ε,ζ,η,θ,ι,κ,μ,ν,ξ,ο,ρ,σ,τ,υ,reduceIte,reduceCtorEq,YV]
  refine bkE Lb E (t+1) (nxM l 3 (a+1)) q P _ _ Om _ _ _ (by unfold tF; (repeat' (first|exact PF.nil_le|refine PF.aI ?_ ?_))<;>first|(simp only[go_sem,γ,δ,ε,ζ,η,θ,ι,κ,μ,ν,ξ,ο,ρ,σ,τ,υ,reduceIte,reduceCtorEq,f0,f1,f4,f5,f14,f16,f17]<;>rfl)|rfl) h1 ?_
  intro w F2 H2 hF2 h2
  have g0:F2 0=some (.ptr E.o 2 0 0):=hF2 0 _ (by unfold tF; simp only[go_sem,γ,δ,ε,ζ,η,θ,ι,κ,μ,ν,ξ,ο,ρ,σ,τ,υ,reduceIte,reduceCtorEq])
  have g1:F2 1=some (.int .i64 E.vols):=hF2 1 _ (by unfold tF; simp only[go_sem,γ,δ,ε,ζ,η,θ,ι,κ,μ,ν,ξ,ο,ρ,σ,τ,υ,reduceIte,reduceCtorEq])
  have g4:F2 4=some (.ptr E.o4 7 0 0):=hF2 4 _ (by unfold tF; simp only[go_sem,γ,δ,ε,ζ,η,θ,ι,κ,μ,ν,ξ,ο,ρ,σ,τ,υ,reduceIte,reduceCtorEq])
  have g5:F2 5=some (.ptr E.o5 7 0 0):=hF2 5 _ (by unfold tF; simp only[go_sem,γ,δ,ε,ζ,η,θ,ι,κ,μ,ν,ξ,ο,ρ,σ,τ,υ,reduceIte,reduceCtorEq])
  have g14:F2 14=some (.int .i64 (t+1:Nat)):=hF2 14 _ (by unfold tF; simp only[go_sem,γ,δ,ε,ζ,η,θ,ι,κ,μ,ν,ξ,ο,ρ,σ,τ,υ,reduceIte,reduceCtorEq])
  have g17:F2 17=some (.ptr q 17 0 0):=hF2 17 _ (by unfold tF; simp only[go_sem,γ,δ,ε,ζ,η,θ,ι,κ,μ,ν,ξ,ο,ρ,σ,τ,υ,reduceIte,reduceCtorEq])
  obtain⟨o,hw⟩:=(h2.own 3 rfl).one (by rw[KR,bLX]; omega)
  rw[KR,bLX] at hw
  subst hw
  have bq:=h2.at 0 rfl
  have b5:=h2.at 1 rfl
  have h17:(1:Nat)*17≤16777216:=by decide
  have e1:IntKind.i64.wrap (((t+1:Nat):Int)-1)=((t:Nat):Int):=by rw[wrap_i64 Om Om]; omega
  simp only[go_sem,γ,δ,ε,ζ,η,θ,ι,κ,μ,ν,ξ,ο,ρ,σ,τ,υ,reduceIte,reduceCtorEq,ZA,g5,g17,bq,b5,h17]
  refine h2.append (v:=wp) (s:=17) (rows:=kW done) 2 (src:=[lP P (.osl o 3 0 (max (nxM l 3 (a+1)) 1))]) rfl Sq (by unfold roomFor; rw[bIM,hdl]; simp only[bJC,maxLen]; omega) fun wp' H3 h3 hw=>?_
  obtain⟨z,rfl⟩:=hw (by simp)
  have b3:=h3.at 1 rfl
  simp only[go_sem,γ,δ,ε,ζ,η,θ,ι,κ,μ,ν,ξ,ο,ρ,σ,τ,υ,reduceIte,reduceCtorEq,g5,b3,bJA,bJR,or_false,forall_eq]
  have h4:=h3.set 1 rfl (flB (.int .i64 x0) w1 w2 wd wr (.osl z 17 0 (kW done++[lP P (.osl o 3 0 (max (nxM l 3 (a+1)) 1))]).length) .aB)
  simp only[go_sem,γ,δ,ε,ζ,η,θ,ι,κ,μ,ν,ξ,ο,ρ,σ,τ,υ,reduceIte,reduceCtorEq,ZB,g14,e1]
  generalize hwp:(PV.osl z 17 0 (kW done++[lP P (.osl o 3 0 (max (nxM l 3 (a+1)) 1))]).length)=wp' at *
  obtain⟨rs,z1,z2,z3,z4,z5⟩:=h4.frz 3 rfl
  have y1:=z4 0 _ (by decide) rfl
  have y2:=z4 1 _ (by decide) rfl
  have y3:=z4 2 _ (by decide) rfl
  simp only at y1 y2 y3
  have y4:=uA o1 o 3 rs
  have y5:=uA o2 o 3 rs
  refine amZ (t,done++[P],wp',(H3.set E.o5 (flB (.int .i64 x0) w1 w2 wd wr wp' .aB)).frz o 3 rs) z1 ⟨by omega,by simp only[bIU,bJC,hdl]; omega,by simp only; rw[ha6]; exact hE2,?_⟩ (by simp only; omega) ?_ PH.le_refl
  ·simp only
   rw[ha6]
   have eB:(E.boxes l (.int .i64 x0) w1 w2 wd wr wp' .aB (a+6)).map (fun b=>(b.1,b.2.frz o 3 rs))=E.boxes l (.int .i64 x0) w1 w2 wd wr wp' .aB (a+6):=by
    show [(E.o5,cP.rows 7 [[.int .i64 x0,PV.dB o 3 rs w1,PV.dB o 3 rs w2,PV.dB o 3 rs wd,PV.dB o 3 rs wr,PV.dB o 3 rs wp',.aB]]),(E.o,bG l (a+6)),(E.o4,flZ)]=_
    rw[y1,y2,y3,y4,y5]
   have e5:(kW done++[lP P (.osl o 3 0 (max (nxM l 3 (a+1)) 1))]).map (fun r=>r.map (PV.dB o 3 rs))=kW (done++[P]):=by
    rw[bKJ,aQM]
    have:([lP P (.osl o 3 0 (max (nxM l 3 (a+1)) 1))]:List (List PV)).map (fun r=>r.map (PV.dB o 3 rs))=[P.cells]:=by
     show [[PV.str P.name,.int .i64 P.k,.int .i64 P.m,.int .i64 P.bHM,.int .i64 P.s0,.int .i64 P.s1,.int .i64 P.s2,.int .i64 P.s3,.int .i64 P.s4,ints P.bGJ,PV.dB o 3 rs (.osl o 3 0 (max (nxM l 3 (a+1)) 1)),.bool P.target.neg,aF P.target.num,aF P.target.den,.bool P.bGU.neg,aF P.bGU.num,aF P.bGU.den]]=_
     rw[z2]
     unfold cY.cells
     rw[hPr]
    rw[this]
    simp[kW]
   have eL:([(wd,7,dJ dm),(wr,3,eA dv),(wp',17,kW done++[lP P (.osl o 3 0 (max (nxM l 3 (a+1)) 1))])]:List LI).map (fun x=>(x.1,x.2.1,x.2.2.map fun r=>r.map (PV.dB o 3 rs)))=[(wd,7,dJ dm),(wr,3,eA dv),(wp',17,kW (done++[P]))]:=by
    show [(wd,7,(dJ dm).map _),(wr,3,(eA dv).map _),(wp',17,(kW done++[lP P (.osl o 3 0 (max (nxM l 3 (a+1)) 1))]).map _)]=_
    rw[aLW,aLY,e5]
   rw[← eB,← eL]
   exact z5.sub (List.sublist_cons_self ..) (bKS.refl _)
  ·(repeat' (first|exact PF.nil_le|refine PF.aI ?_ ?_))<;>first|(simp only[go_sem,γ,δ,ε,ζ,η,θ,ι,κ,μ,ν,ξ,ο,ρ,σ,τ,υ,reduceIte,reduceCtorEq,g0,g1,g4,g5]<;>rfl)|rfl
def aWJ (E:ME) (t:Nat):PF:=((((PF.nil.set 0 (.ptr E.o 2 0 0)).set 4 (.ptr E.o4 7 0 0)).set 5 (.ptr E.o5 7 0 0)).set 19 (.int .i64 t))
def aWH (E:ME):PF:=(((PF.nil.set 0 (.ptr E.o 2 0 0)).set 4 (.ptr E.o4 7 0 0)).set 5 (.ptr E.o5 7 0 0))
theorem bcQ {C:Ctx} (Lb:oF C) {l:List Int} (T:TpM l) (E:ME) (n a0:Nat) (hn:n≤90) (ha:a0≤10000) (ext w1 w2 wd wr wp:PV) (ps:List cY) (hps:ps.length≤1000) (dm:List bR) (dv:List cC) (K:cN) (F:PF) (H:PH)
  (hF:(aWJ E n).le F) (hH:aS H (E.boxes l ext w1 w2 wd wr wp .aB a0) [(wd,7,dJ dm),(wr,3,eA dv),(wp,17,kW ps)])
  (hK:∀ wv F' H',(aWH E).le F'→aS H' (E.boxes l ext w1 w2 wd wr wp wv (a0+n)) [(wd,7,dJ dm),(wr,3,eA dv),(wp,17,kW ps),(wv,2,oM (kN l ps.length n a0))]→K (.exit 8) F' H') :
  aC.wp C (.loop DK) K F H:=by
 refine wp_loop (α:=Nat × List dZ × PV × PH) (fun s=>aWJ E s.1) (fun s=>s.2.2.2)
  (fun s=>s.1≤n∧s.2.1.length=n-s.1∧s.2.1++kN l ps.length s.1 (a0+(n-s.1))=kN l ps.length n a0∧aS s.2.2.2 (E.boxes l ext w1 w2 wd wr wp s.2.2.1 (a0+(n-s.1))) [(wd,7,dJ dm),(wr,3,eA dv),(wp,17,kW ps),(s.2.2.1,2,oM s.2.1)]) (fun s=>s.1) (n,[],.aB,H)
  ⟨bIO _,by simp,by simp,by simp only[bLH,bKD]; exact hH.qN 2⟩ hF PH.le_refl ?_
 rintro⟨t,done,wv,H0⟩ ⟨ht,hdl,hE,hH⟩
 simp only at ht hdl hE hH ⊢
 simp only[go_sem,γ,δ,ε,ζ,η,θ,ι,κ,μ,ν,ξ,ο,ρ,σ,τ,υ,reduceIte,reduceCtorEq,DK,ZD,aWJ]
 cases t with
 | zero =>
  have hc:¬ (((0:Nat):Int)>0):=by omega
  have e:done=kN l ps.length n a0:=by rw[← hE,kN,bKM]
  rw[Nat.sub_zero,e] at hH
  simp only[go_sem,γ,δ,ε,ζ,η,θ,ι,κ,μ,ν,ξ,ο,ρ,σ,τ,υ,reduceIte,reduceCtorEq,hc]
  refine hK wv _ _ ?_ hH
  unfold aWH
  exact Lq
 | succ t =>
  have hc:(((t+1:Nat):Int)>0):=by omega
  obtain⟨a,hae⟩:∃ a,a=a0+(n-(t+1)):=⟨_,rfl⟩
  have ha6:a0+(n-t)=a+1:=by omega
  rw[← hae] at hE hH
  have b5:=hH.at 0 rfl
  have lw:=(hH.own 2 rfl).tJ
  rw[bIM] at lw
  have h1:=hH.set 1 rfl (bG l (a+1))
  have b1:=h1.at 0 rfl
  have e1:IntKind.i64.wrap (((t+1:Nat):Int)-1)=((t:Nat):Int):=by rw[wrap_i64 Om Om]; omega
  have h12:(1:Nat)*2≤16777216:=by decide
  simp only[go_sem,γ,δ,ε,ζ,η,θ,ι,κ,μ,ν,ξ,ο,ρ,σ,τ,υ,reduceIte,reduceCtorEq,hc]
  refine bT (PH.nil.set E.o5 (flB ext w1 w2 wd wr wp wv)) (mdS l) (PH.aI PH.nil_le b5) ?_
  simp only[go_sem,γ,δ,ε,ζ,η,θ,ι,κ,μ,ν,ξ,ο,ρ,σ,τ,υ,reduceIte,reduceCtorEq,ZE,b5]
  refine JW Lb (c:=118) (n:=t+1) Om (by simp only[go_sem,γ,δ,ε,ζ,η,θ,ι,κ,μ,ν,ξ,ο,ρ,σ,τ,υ,reduceIte,reduceCtorEq]; rfl) (PH.aI PH.nil_le b5) ?_
  simp only[go_sem,γ,δ,ε,ζ,η,θ,ι,κ,μ,ν,ξ,ο,ρ,σ,τ,υ,reduceIte,reduceCtorEq,b5,lw]
  refine a3Q Lb.toCV T (o:=E.o) (n:=ps.length) (a:=a) Om Om Sq (hH.at 1 rfl) (PH.aI PH.nil_le b1) ?_
  simp only[go_sem,γ,δ,ε,ζ,η,θ,ι,κ,μ,ν,ξ,ο,ρ,σ,τ,υ,reduceIte,reduceCtorEq,h12]
  refine h1.append (v:=wv) (s:=2) (rows:=oM done) 3 (src:=[(⟨dK 118 (t+1),(nxM l ps.length a:Nat)⟩:dZ).cells]) rfl Sq (by unfold roomFor; rw[bIM,hdl]; simp only[bJC,maxLen]; omega) fun w' H2 h5 hw=>?_
  obtain⟨z,rfl⟩:=hw (by simp)
  have b2:=h5.at 0 rfl
  refine⟨PH.aI PH.nil_le b2,?_⟩
  refine bT .nil eG PH.nil_le ?_
  simp only[go_sem,γ,δ,ε,ζ,η,θ,ι,κ,μ,ν,ξ,ο,ρ,σ,τ,υ,reduceIte,reduceCtorEq,ZF,b2,bJA,bJR,or_false,forall_eq]
  have h6:=h5.set 0 rfl (flB ext w1 w2 wd wr wp (.osl z 2 0 (oM done++[(⟨dK 118 (t+1),(nxM l ps.length a:Nat)⟩:dZ).cells]).length))
  refine⟨PH.nil_le,?_⟩
  simp only[go_sem,γ,δ,ε,ζ,η,θ,ι,κ,μ,ν,ξ,ο,ρ,σ,τ,υ,reduceIte,reduceCtorEq,ZG,e1]
  refine aK (t,done++[⟨dK 118 (t+1),(nxM l ps.length a:Nat)⟩],.osl z 2 0 (oM done++[(⟨dK 118 (t+1),(nxM l ps.length a:Nat)⟩:dZ).cells]).length,_) ⟨by omega,by simp only[bIU,bJC,hdl]; omega,?_,?_⟩ (by simp only; omega) ?_ PH.le_refl
  ·simp only
   rw[ha6,← hE,kN,bJM]
   rfl
  ·simp only
   rw[ha6]
   have e:oM (done++[⟨dK 118 (t+1),(nxM l ps.length a:Nat)⟩])=oM done++[(⟨dK 118 (t+1),(nxM l ps.length a:Nat)⟩:dZ).cells]:=by simp[oM]
   rw[e]
   exact h6
  ·exact Lq
def aLH (l:List Int) (o vols a:Nat) (r:PV) (H:PH):Prop:=Co r (.agg (dC l vols a).1.cells)∧H=PH.nil.set o (bG l (dC l vols a).2)
theorem a3T {C:Ctx} (Lb:BG C) {l:List Int} (T:TpM l) (o vols a:Nat) (hv:vols≤50) (ha:a≤1000) :
  yS.wp C (aU JY.res (aLH l o vols a)) (PF.args [.ptr o 2 0 0,.int .i64 vols]) (PH.nil.set o (bG l a)):=by
 have hR:∀ r H,aLH l o vols a r H↔Co r (.agg (dC l vols a).1.cells)∧H=PH.nil.set o (bG l (dC l vols a).2):=fun _ _=>Iff.rfl
 have hT:dC l vols a=dC l vols a:=rfl
 conv at hT=>rhs; unfold dC
 dsimp only at hT
 have n1:=cK l (show 0<2 by decide) a
 have n2:=cK l (show 0<100 by decide) (a+1)
 have n3:=cK l (show 0<2 by decide) (a+2)
 have n4:=cK l (show 0<9 by decide) (a+3)
 have n5:=cK l (show 0<3 by decide) (a+4)
 have n6:=cK l (show 0<9 by decide) (a+5)
 have n7:=cK l (show 0<3 by decide) (a+6)
 have e1:IntKind.i64.wrap (1+((nxM l 2 a:Nat):Int))=((1+nxM l 2 a:Nat):Int):=gE (a:=1) Om
 have e2:IntKind.i64.wrap (100+((nxM l 100 (a+1):Nat):Int))=((100+nxM l 100 (a+1):Nat):Int):=gE (a:=100) Om
 have e3:IntKind.i64.wrap (3+((nxM l 2 (a+2):Nat):Int))=((3+nxM l 2 (a+2):Nat):Int):=gE (a:=3) Om
 have e4:IntKind.i64.wrap (8+((nxM l 9 (a+3):Nat):Int))=((8+nxM l 9 (a+3):Nat):Int):=gE (a:=8) Om
 have e5:IntKind.i64.wrap (1+((nxM l 3 (a+4):Nat):Int))=((1+nxM l 3 (a+4):Nat):Int):=gE (a:=1) Om
 have e6:IntKind.i64.wrap (4+((nxM l 9 (a+5):Nat):Int))=((4+nxM l 9 (a+5):Nat):Int):=gE (a:=4) Om
 have e7:IntKind.i64.wrap (3+((nxM l 3 (a+6):Nat):Int))=((3+nxM l 3 (a+6):Nat):Int):=gE (a:=3) Om
 have hM:=oL l (abO (a+7)) (3+nxM l 3 (a+6)) Om
 have h0:aS (PH.nil.set o (bG l a)) [(o,bG l a)] []:=aS.nil.new (H:=PH.nil) rfl (bG l a)
 have h13:(1:Nat)*3≤16777216:=by decide
 have h11:(1:Nat)*1≤16777216:=by decide
 have h14:(1:Nat)*4≤16777216:=by decide
 have h24:(2:Nat)*4≤16777216:=by decide
 have h17:(1:Nat)*7≤16777216:=by decide
 simp only[go_sem,γ,δ,ε,ζ,η,θ,ι,κ,μ,ν,ξ,ο,ρ,σ,τ,υ,reduceIte,reduceCtorEq,yS,akO,JY]
 refine aQ fun o4 ho4=>?_
 have h1:=h0.new ho4 flZ
 simp only[go_sem,γ,δ,ε,ζ,η,θ,ι,κ,μ,ν,ξ,ο,ρ,σ,τ,υ,reduceIte,reduceCtorEq,akP]
 refine cE Lb.toCV T (o:=o) (n:=2) (a:=a) (by decide) Om rfl (h1.at 0 rfl) ?_
 have h2:=h1.set 0 rfl (bG l (a+1))
 simp only[go_sem,γ,δ,ε,ζ,η,θ,ι,κ,μ,ν,ξ,ο,ρ,σ,τ,υ,reduceIte,reduceCtorEq,e1]
 refine aQ fun o5 ho5=>?_
 have h3:=h2.new ho5 (flB (.int .i64 (1+nxM l 2 a:Nat)) .aB .aB .aB .aB .aB .aB)
 have n05:¬ o=o5:=h3.ne 0 2 rfl rfl (by decide)
 have n50:¬ o5=o:=fun h=>n05 h.symm
 simp only[go_sem,γ,δ,ε,ζ,η,θ,ι,κ,μ,ν,ξ,ο,ρ,σ,τ,υ,reduceIte,reduceCtorEq,akQ,bJA,bJR,or_false,forall_eq,forall_eq_or_imp]
 refine aA (Lb.frac 1 1 (by unfold cU; omega) (by unfold cU; omega) (by decide)) rfl ?_
 simp only[go_sem,γ,δ,ε,ζ,η,θ,ι,κ,μ,ν,ξ,ο,ρ,σ,τ,υ,reduceIte,reduceCtorEq,h13]
 refine aA (Lb.frac 0 1 (by unfold cU; omega) (by unfold cU; omega) (by decide)) rfl ?_
 simp only[go_sem,γ,δ,ε,ζ,η,θ,ι,κ,μ,ν,ξ,ο,ρ,σ,τ,υ,reduceIte,reduceCtorEq,h13,h11]
 refine cE Lb.toCV T (o:=o) (n:=100) (a:=a+1) (by decide) Om rfl (h3.at 0 rfl) ?_
 have h4:=h3.set 0 rfl (bG l (a+2))
 simp only[go_sem,γ,δ,ε,ζ,η,θ,ι,κ,μ,ν,ξ,ο,ρ,σ,τ,υ,reduceIte,reduceCtorEq,e2]
 refine aA (Lb.frac 1 (100+nxM l 100 (a+1):Nat) (by unfold cU; omega) (by unfold cU; omega) Om) rfl ?_
 have h5:=h4.set 2 rfl (flB (.int .i64 (1+nxM l 2 a:Nat)) (.sl 4 (aAK [⟨[100,105,115,107],[mkT 1 1],[[mkT 0 1]],[mkT 1 ((100+nxM l 100 (a+1):Nat):Int)]⟩])) .aB .aB .aB .aB .aB)
 simp only[go_sem,γ,δ,ε,ζ,η,θ,ι,κ,μ,ν,ξ,ο,ρ,σ,τ,υ,reduceIte,reduceCtorEq,h13,h14,n05,n50,bJA,bJR,or_false,forall_eq,akR]
 refine cE Lb.toCV T (o:=o) (n:=2) (a:=a+2) (by decide) Om rfl (h5.at 0 rfl) ?_
 have h6:=h5.set 0 rfl (bG l (a+3))
 simp only[go_sem,γ,δ,ε,ζ,η,θ,ι,κ,μ,ν,ξ,ο,ρ,σ,τ,υ,reduceIte,reduceCtorEq,e3]
 refine cE Lb.toCV T (o:=o) (n:=9) (a:=a+3) (by decide) Om rfl (h6.at 0 rfl) ?_
 have h7:=h6.set 0 rfl (bG l (a+4))
 rw[PH.set_set] at h7
 simp only[go_sem,γ,δ,ε,ζ,η,θ,ι,κ,μ,ν,ξ,ο,ρ,σ,τ,υ,reduceIte,reduceCtorEq,e4]
 refine cE Lb.toCV T (o:=o) (n:=3) (a:=a+4) (by decide) Om rfl (h7.at 0 rfl) ?_
 have h8:=h7.set 0 rfl (bG l (a+5))
 rw[PH.set_set] at h8
 simp only[go_sem,γ,δ,ε,ζ,η,θ,ι,κ,μ,ν,ξ,ο,ρ,σ,τ,υ,reduceIte,reduceCtorEq,e5]
 refine cE Lb.toCV T (o:=o) (n:=9) (a:=a+5) (by decide) Om rfl (h8.at 0 rfl) ?_
 have h9:=h8.set 0 rfl (bG l (a+6))
 rw[PH.set_set] at h9
 obtain⟨w1,hw1⟩:∃ w1,w1=PV.sl 4 (aAK [⟨[100,105,115,107],[mkT 1 1],[[mkT 0 1]],[mkT 1 ((100+nxM l 100 (a+1):Nat):Int)]⟩]):=⟨_,rfl⟩
 obtain⟨w2,hw2⟩:∃ w2,w2=PV.sl 4 (a5M [⟨[98,105,103],(3+nxM l 2 (a+2):Nat),(8+nxM l 9 (a+3):Nat),0⟩,⟨[111,108,100],(1+nxM l 3 (a+4):Nat),(4+nxM l 9 (a+5):Nat),0⟩]):=⟨_,rfl⟩
 have h10:=h9.set 2 rfl (flB (.int .i64 (1+nxM l 2 a:Nat)) w1 w2 .aB .aB .aB .aB)
 rw[hw1,hw2] at h10
 simp only[go_sem,γ,δ,ε,ζ,η,θ,ι,κ,μ,ν,ξ,ο,ρ,σ,τ,υ,reduceIte,reduceCtorEq,e6,h24,n05,n50,bJA,bJR,or_false,forall_eq,akS]
 refine aA (Lb.frac 0 1 (by unfold cU; omega) (by unfold cU; omega) (by decide)) rfl ?_
 simp only[go_sem,γ,δ,ε,ζ,η,θ,ι,κ,μ,ν,ξ,ο,ρ,σ,τ,υ,reduceIte,reduceCtorEq,h17]
 refine aQ fun od hod=>?_
 have h11':=h10.aBV (s:=7) (rows:=dJ [iR]) hod
 have n5d:¬ o5=od:=h11'.neL 2 0 rfl rfl rfl
 have nd5:¬ od=o5:=fun h=>n5d h.symm
 have h12:=h11'.set 2 rfl (flB (.int .i64 (1+nxM l 2 a:Nat)) w1 w2 (.osl od 7 0 1) .aB .aB .aB)
 rw[hw1,hw2] at h12
 simp only[go_sem,γ,δ,ε,ζ,η,θ,ι,κ,μ,ν,ξ,ο,ρ,σ,τ,υ,reduceIte,reduceCtorEq,n5d,nd5,bJA,bJR,or_false,forall_eq,akT]
 refine cE Lb.toCV T (o:=o) (n:=3) (a:=a+6) (by decide) Om rfl (h12.at 0 rfl) ?_
 have h13':=h12.set 0 rfl (bG l (a+7))
 simp only[go_sem,γ,δ,ε,ζ,η,θ,ι,κ,μ,ν,ξ,ο,ρ,σ,τ,υ,reduceIte,reduceCtorEq,e7,akU,akV]
 obtain⟨E,hE⟩:∃ E:ME,E=⟨o,o4,o5,vols⟩:=⟨_,rfl⟩
 have h14':=(h13'.qN 3).perm (B':=E.boxes l (.int .i64 (1+nxM l 2 a:Nat)) w1 w2 (.osl od 7 0 1) .aB .aB .aB (a+7)) (L':=[(.osl od 7 0 1,7,dJ [iR]),(.aB,3,eA [])])
  (by rw[hE,hw1,hw2]; exact (List.Perm.cons _ (List.Perm.swap _ _ _)).trans (List.Perm.swap _ _ _)) (List.Perm.refl _)
 refine a3S Lb T E (3+nxM l 3 (a+6)) (a+7) Om Om (.int .i64 (1+nxM l 2 a:Nat)) w1 w2 (.osl od 7 0 1) _ _ _ ?_ h14' ?_
 ·rw[hE]
  unfold eQ
  exact Lq
 clear h14' h13' h12 h11' h10 h9 h8 h7 h6 h5 h4 h3 h2 h1 h0 ho4 ho5 hod
 intro wd wr F1 H1 hF1 h1
 have f0:F1 0=some (.ptr o 2 0 0):=hF1 0 _ (by rw[hE]; unfold tE; simp only[go_sem,γ,δ,ε,ζ,η,θ,ι,κ,μ,ν,ξ,ο,ρ,σ,τ,υ,reduceIte,reduceCtorEq])
 have f1:F1 1=some (.int .i64 vols):=hF1 1 _ (by rw[hE]; unfold tE; simp only[go_sem,γ,δ,ε,ζ,η,θ,ι,κ,μ,ν,ξ,ο,ρ,σ,τ,υ,reduceIte,reduceCtorEq])
 have f4:F1 4=some (.ptr o4 7 0 0):=hF1 4 _ (by rw[hE]; unfold tE; simp only[go_sem,γ,δ,ε,ζ,η,θ,ι,κ,μ,ν,ξ,ο,ρ,σ,τ,υ,reduceIte,reduceCtorEq])
 have f5:F1 5=some (.ptr o5 7 0 0):=hF1 5 _ (by rw[hE]; unfold tE; simp only[go_sem,γ,δ,ε,ζ,η,θ,ι,κ,μ,ν,ξ,ο,ρ,σ,τ,υ,reduceIte,reduceCtorEq])
 generalize eE l ⟨[iR],[],0,0,0,a+7⟩ (3+nxM l 3 (a+6))=s at *
 have sa:=hM.hi
 have n8:=cK l (show 0<2 by decide) s.a
 have e8:IntKind.i64.wrap (1+((nxM l 2 s.a:Nat):Int))=((1+nxM l 2 s.a:Nat):Int):=gE (a:=1) Om
 have q1:=h1.at 1 rfl
 rw[hE] at q1
 simp only[go_sem,γ,δ,ε,ζ,η,θ,ι,κ,μ,ν,ξ,ο,ρ,σ,τ,υ,reduceIte,reduceCtorEq,YT,f0]
 refine cE Lb.toCV T (o:=o) (n:=2) (a:=s.a) (by decide) Om rfl q1 ?_
 have h2:=h1.set 1 rfl (bG l (s.a+1))
 simp only[go_sem,γ,δ,ε,ζ,η,θ,ι,κ,μ,ν,ξ,ο,ρ,σ,τ,υ,reduceIte,reduceCtorEq,e8]
 refine bcO Lb.tooF T E (1+nxM l 2 s.a) (s.a+1) Om Om _ w1 w2 wd wr (by rw[hw1]; rfl) (by rw[hw2]; rfl) _ _ _ _ _ ?_ (by rw[hE] at h2 ⊢; exact h2) ?_
 ·rw[hE]
  unfold aWI
  exact Lq
 clear q1 h2 h1 f0 f1 f4 f5 hF1
 intro wp F2 H2 hF2 h1
 have f0:F2 0=some (.ptr o 2 0 0):=hF2 0 _ (by rw[hE]; unfold tE; simp only[go_sem,γ,δ,ε,ζ,η,θ,ι,κ,μ,ν,ξ,ο,ρ,σ,τ,υ,reduceIte,reduceCtorEq])
 have f1:F2 1=some (.int .i64 vols):=hF2 1 _ (by rw[hE]; unfold tE; simp only[go_sem,γ,δ,ε,ζ,η,θ,ι,κ,μ,ν,ξ,ο,ρ,σ,τ,υ,reduceIte,reduceCtorEq])
 have f4:F2 4=some (.ptr o4 7 0 0):=hF2 4 _ (by rw[hE]; unfold tE; simp only[go_sem,γ,δ,ε,ζ,η,θ,ι,κ,μ,ν,ξ,ο,ρ,σ,τ,υ,reduceIte,reduceCtorEq])
 have f5:F2 5=some (.ptr o5 7 0 0):=hF2 5 _ (by rw[hE]; unfold tE; simp only[go_sem,γ,δ,ε,ζ,η,θ,ι,κ,μ,ν,ξ,ο,ρ,σ,τ,υ,reduceIte,reduceCtorEq])
 obtain⟨b,hb⟩:∃ b,b=s.a+1+6*(1+nxM l 2 s.a):=⟨_,rfl⟩
 rw[← hb] at h1
 have n9:nxM l vols b≤vols:=by
  rcases bLK vols with e | e
  ·subst e; unfold nxM; simp
  ·exact Nat.le_of_lt (cK l e _)
 have e9:IntKind.i64.wrap (1+((nxM l vols b:Nat):Int))=((1+nxM l vols b:Nat):Int):=gE (a:=1) Om
 have q1:=h1.at 1 rfl
 rw[hE] at q1
 simp only[go_sem,γ,δ,ε,ζ,η,θ,ι,κ,μ,ν,ξ,ο,ρ,σ,τ,υ,reduceIte,reduceCtorEq,ZC,f0,f1]
 refine cE Lb.toCV T (o:=o) (n:=vols) (a:=b) Om Om rfl q1 ?_
 have h2:=h1.set 1 rfl (bG l (b+1))
 have hpl:=pL l (1+nxM l 2 s.a) (s.a+1)
 simp only[go_sem,γ,δ,ε,ζ,η,θ,ι,κ,μ,ν,ξ,ο,ρ,σ,τ,υ,reduceIte,reduceCtorEq,e9]
 refine bcQ Lb.tooF T E (1+nxM l vols b) (b+1) Om Om _ w1 w2 wd wr wp _ (by rw[hpl]; omega) _ _ _ _ _ ?_ (by rw[hE] at h2 ⊢; exact h2) ?_
 ·rw[hE]
  unfold aWJ
  exact Lq
 clear q1 h2 h1 f0 f1 f4 f5 hF2
 intro wv F3 H3 hF3 h1
 have f4:F3 4=some (.ptr o4 7 0 0):=hF3 4 _ (by rw[hE]; unfold aWH; simp only[go_sem,γ,δ,ε,ζ,η,θ,ι,κ,μ,ν,ξ,ο,ρ,σ,τ,υ,reduceIte,reduceCtorEq])
 have f5:F3 5=some (.ptr o5 7 0 0):=hF3 5 _ (by rw[hE]; unfold aWH; simp only[go_sem,γ,δ,ε,ζ,η,θ,ι,κ,μ,ν,ξ,ο,ρ,σ,τ,υ,reduceIte,reduceCtorEq])
 rw[hpl] at h1
 rw[hE] at h1
 have b5:=h1.at 0 rfl
 have b4:=h1.at 2 rfl
 have key:∀ {s:Nat} {v:PV} {rows:List (List PV)},bM H3 s v rows→PV.one v=true:=by
  rintro s v rows (⟨_,rfl⟩ | ⟨q,rs,rfl,_⟩)<;>rfl
 have k1:=key (h1.own 0 rfl)
 have k2:=key (h1.own 1 rfl)
 have k3:=key (h1.own 2 rfl)
 have k4:=key (h1.own 3 rfl)
 have k5:PV.one w1=true:=by rw[hw1]; rfl
 have k6:PV.one w2=true:=by rw[hw2]; rfl
 simp only[PV.one] at k1 k2 k3 k4 k5 k6
 simp only[go_sem,γ,δ,ε,ζ,η,θ,ι,κ,μ,ν,ξ,ο,ρ,σ,τ,υ,reduceIte,reduceCtorEq,ZH,f4,f5,b5,b4,bJA,bJR,or_false,forall_eq,forall_eq_or_imp,k1,k2,k3,k4,k5,k6]
 have h2:=h1.set 2 rfl (flB (.int .i64 (1+nxM l 2 a:Nat)) w1 w2 wd wr wp wv)
 have h3:=h2.sub (B':=[(o,bG l (b+1+(1+nxM l vols b)))]) (bKS.cons _ (bKS.cons_cons _ (List.nil_sublist _))) (bKS.refl _)
 obtain⟨φ,H6,z1,z2,z3,z4⟩:=aS.giveUp _ h3 (fun x hx=>by
  simp only[bJA,bJR,or_false] at hx
  rcases hx with rfl | rfl | rfl | rfl
  ·exact aLW _
  ·exact aLY _
  ·exact aQM _
  ·exact boT _) (fun b hb q s rs=>by
  simp only[bJA,bJR,or_false] at hb
  subst hb
  rfl)
 refine ajF (vs:=[.agg [.int .i64 (1+nxM l 2 a:Nat),w1,w2,wd,wr,wp,wv]]) (.inr rfl) (by simp only[go_sem,γ,δ,ε,ζ,η,θ,ι,κ,μ,ν,ξ,ο,ρ,σ,τ,υ,reduceIte,reduceCtorEq,f4]) (z4 _ _ (.done (H2:=PH.nil.set o (bG l (b+1+(1+nxM l vols b)))) ?_ (PH.aI PH.nil_le (z3.at 0 rfl))))
 have hb2:s.a+2+6*(1+nxM l 2 s.a)=b+1:=by omega
 rw[hb2,← hb] at hT
 rw[hR,hT]
 refine⟨CoL.agg ?_,rfl⟩
 have s1:=z1 (wd,7,dJ s.bGT) (by simp)
 have s2:=z1 (wr,3,eA s.bHH) (by simp)
 have s3:=z1 (wp,17,kW (gU l (1+nxM l 2 s.a) (s.a+1))) (by simp)
 have s4:=z1 (wv,2,oM (kN l (1+nxM l 2 s.a) (1+nxM l vols b) (b+1))) (by simp)
 have s0:φ (.int .i64 (1+nxM l 2 a:Nat))=.int .i64 (1+nxM l 2 a:Nat):=z2 _ rfl
 have s5:φ w1=w1:=z2 _ (by rw[hw1]; rfl)
 have s6:φ w2=w2:=z2 _ (by rw[hw2]; rfl)
 show CoL [φ (.int .i64 (1+nxM l 2 a:Nat)),φ w1,φ w2,φ wd,φ wr,φ wp,φ wv] _
 rw[s0,s5,s6,hw1,hw2]
 exact CoL.cons (.refl _) (CoL.cons (.refl _) (CoL.cons (.refl _) (CoL.cons s1.co (CoL.cons s2.co (CoL.cons s3.co (CoL.cons s4.co .nil))))))
structure bpO (x:RF):Prop where
 lim:cG x=true
 ok:x.Ok
theorem SmF.o {x:RF} {a b:Nat} (h:SmF x a b):bpO x:=⟨h.lim,h.ok⟩
theorem XF:SmF nZ 0 1:=SmF.mk' (a:=0) (b:=1) (by decide) (by decide) (by decide)
theorem aET {α:Type} {P:Nat→α→Prop} {xs:List α} {x:α} (h:∀ i (hi:i<xs.length),P i xs[i]) (hx:P xs.length x):∀ i (hi:i<(xs++[x]).length),P i (xs++[x])[i]:=by
 intro i hi
 by_cases hlt:i<xs.length
 ·rw[List.getElem_append_left hlt]; exact h i hlt
 ·rw[bIU,bJC] at hi
  have:i=xs.length:=by omega
  subst this
  rw[List.getElem_append_right Om]
  simpa using hx
theorem aLJ {α:Type} {p:α→Bool} {l:List α} (h:∀ i (hi:i<l.length),p l[i]=true):l.all p=true:=by
 rw[bJJ]
 intro x hx
 obtain⟨i,hi,rfl⟩:=bKQ hx
 exact h i hi
theorem eK {n lo hi:Int} (h1:lo≤n) (h2:n≤hi):within n lo hi=true:=within_iff.2 ⟨h1,h2⟩
abbrev lvs (ds:List bR):List Int:=ds.map bR.level
def bwP (ds:List bR) (i:Nat) (d:bR):Prop:=∃ lev p u:Nat,d.name=[aOP lev]++xS (i+1)∧d.level=lev∧1≤lev∧lev≤4∧d.parent=p∧p≤i∧(lvs ds)[p]?=some ((lev:Int)-1)∧d.bHI=u∧1≤u∧u≤16∧bpO d.bHA
def bwR (ds:List bR) (mc i:Nat) (d:cC):Prop:=∃ m c:Nat,d.name=[100]++xS i∧d.model=m∧m<mc∧d.machine=c∧(lvs ds)[c]?=some 4
structure GV (mc bGI:Nat) (s:GS):Prop where
 len:s.bGT.length≤35
 bHH:s.bHH.length≤bGI
 root:s.bGT[0]?=some iR
 dom:∀ i (hi:i+1<s.bGT.length),bwP s.bGT i s.bGT[i+1]
 drv:∀ i (hi:i<s.bHH.length),bwR s.bGT mc i s.bHH[i]
theorem GV.a {mc bGI:Nat} {s:GS} (h:GV mc bGI s) (x:Nat):GV mc bGI { s with a:=x }:=⟨h.len,h.bHH,h.root,h.dom,h.drv⟩
theorem aiI {ds:List bR} {p:Nat} {x:Int} {t:List bR} (h:(lvs ds)[p]?=some x):(lvs (ds++t))[p]?=some x:=by
 unfold lvs at *
 rw[bKJ,bLC]
 ·exact h
 ·exact (bJX.1 h).1

def unM:List UInt8→Nat
 | [_,a,b]=>(a.toNat-97)*26+(b.toNat-97)
 | _=>0
theorem bjN:∀ k:Fin 100,fB (UInt8.ofNat (97+k.val/26%26)).toNat=true∧fB (UInt8.ofNat (97+k.val%26)).toNat=true∧unM (dK 0 k.val)=k.val:=by decide +kernel
theorem WZ (c:UInt8) {k:Nat} (hk:k<100):unM (dK c k)=k:=(bjN ⟨k,hk⟩).2.2
theorem WB {c:UInt8} (hc:eR c.toNat=true) {k:Nat} (hk:k<100):isName (dK c k)=true:=by
 obtain⟨h1,h2,-⟩:=bjN ⟨k,hk⟩
 simp only at h1 h2
 have hi:fB c.toNat=true:=by unfold fB; rw[hc]; rfl
 unfold dK isName
 simp only[bKH,bKY,List.all_cons,List.all_nil,hc,hi,h1,h2]
 rfl
def bwQ (ds:List bR) (i:Nat) (d:bR):Prop:=∃ lev p u:Nat,d.name=dK 110 (i+1)∧d.level=lev∧1≤lev∧lev≤4∧d.parent=p∧p≤i∧(lvs ds)[p]?=some ((lev:Int)-1)∧d.bHI=u∧1≤u∧u≤64∧d.bHA=nZ
def UH (ds:List bR) (i:Nat) (d:cC):Prop:=∃ m c:Nat,d.name=dK 100 i∧d.model=m∧m<2∧d.machine=c∧(lvs ds)[c]?=some 4
structure DV (ds:List bR):Prop where
 root:ds[0]?=some iR
 dom:∀ i (hi:i+1<ds.length),bwQ ds i ds[i+1]
theorem DV.new {ds:List bR} (h:DV ds) {level parent up:Nat} (h1:1≤level) (h4:level≤4) (hp:(lvs ds)[parent]?=some ((level:Int)-1)) (u1:1≤up) (u2:up≤64) :
  DV (dH ds level parent up)∧(lvs (dH ds level parent up))[ds.length]?=some (level:Int):=by
 have hpl:parent<ds.length:=by
  have:=(bJX.1 hp).1
  rwa [bIM] at this
 unfold dH
 refine⟨⟨by rw[bLC Om]; exact h.root,fun i hi=>?_⟩,?_⟩
 ·simp only[bIU,bJC] at hi
  by_cases hlt:i+1<ds.length
  ·rw[List.getElem_append_left hlt]
   obtain⟨lev,p,v,g1,g2,g3,g4,g5,g6,g7,g8⟩:=h.dom i hlt
   exact⟨lev,p,v,g1,g2,g3,g4,g5,g6,aiI g7,g8⟩
  ·have:i+1=ds.length:=by omega
   rw[List.getElem_append_right Om]
   simp only[List.getElem_singleton]
   exact⟨level,parent,up,by rw[this],rfl,h1,h4,rfl,by omega,aiI hp,rfl,u1,u2,rfl⟩
 ·unfold lvs
  rw[bKJ,bKT (by rw[bIM]; exact bIO _),bIM,bLH]
  rfl
theorem lK {ds:List bR} {a b c p:Nat} {x:Int} (h:(lvs ds)[p]?=some x):(lvs (dH ds a b c))[p]?=some x:=aiI h
structure MV (k:Nat) (s:MS):Prop where
 dv:DV s.bGT
 drv:∀ i (hi:i<s.bHH.length),UH s.bGT i s.bHH[i]
 at_:0<k→(lvs s.bGT)[s.room]?=some 2∧(lvs s.bGT)[s.rack]?=some 3
theorem ahQ {ds ds':List bR} {rs:List cC} (h:∀ i (hi:i<rs.length),UH ds i rs[i]) (hk:∀ (p:Nat) (x:Int),(lvs ds)[p]?=some x→(lvs ds')[p]?=some x):∀ i (hi:i<rs.length),UH ds' i rs[i]:=fun i hi=>by
 obtain⟨m,c,h1,h2,h3,h4,h5⟩:=h i hi
 exact⟨m,c,h1,h2,h3,h4,hk _ _ h5⟩
theorem bfM (l:List Int) (i:Nat) {s:MS} (h:MV i s):MV 1 (eH l i s):=by
 obtain⟨h1,h2,h3⟩:=h
 have key:∀ a,MV 1 ⟨dH (dH (dH s.bGT 1 0 (16+nxM l 17 a)) 2 s.bGT.length (16+nxM l 17 (a+1))) 3 (dH s.bGT 1 0 (16+nxM l 17 a)).length (8+nxM l 9 (a+2)),s.bHH,s.bGT.length,(dH s.bGT 1 0 (16+nxM l 17 a)).length,(dH (dH s.bGT 1 0 (16+nxM l 17 a)) 2 s.bGT.length (16+nxM l 17 (a+1))).length,a+3⟩:=fun a=>by
  have n1:=cK l (show 0<17 by decide) a
  have n2:=cK l (show 0<17 by decide) (a+1)
  have n3:=cK l (show 0<9 by decide) (a+2)
  have r0:(lvs s.bGT)[0]?=some (((1:Nat):Int)-1):=by
   unfold lvs
   rw[bJQ,h1.root]; rfl
  obtain⟨d1,e1⟩:=h1.new (level:=1) (parent:=0) (up:=16+nxM l 17 a) (by decide) (by decide) r0 Om Om
  obtain⟨d2,e2⟩:=d1.new (level:=2) (parent:=s.bGT.length) (up:=16+nxM l 17 (a+1)) (by decide) (by decide) e1 Om Om
  obtain⟨d3,e3⟩:=d2.new (level:=3) (parent:=(dH s.bGT 1 0 (16+nxM l 17 a)).length) (up:=8+nxM l 9 (a+2)) (by decide) (by decide) e2 Om Om
  exact⟨d3,ahQ h2 fun p x hx=>lK (lK (lK hx)),fun _=>⟨lK e2,e3⟩⟩
 unfold eH
 simp only
 split
 ·exact key _
 ·rename_i hi
  obtain⟨g1,g2⟩:=h3 Om
  split
  ·exact key _
  ·split
   ·have n3:=cK l (show 0<9 by decide) (s.a+2)
    obtain⟨d3,e3⟩:=h1.new (level:=3) (parent:=s.room) (up:=8+nxM l 9 (s.a+2)) (by decide) (by decide) g1 Om Om
    exact⟨d3,ahQ h2 fun p x hx=>lK hx,fun _=>⟨lK g1,e3⟩⟩
   ·exact⟨h1,h2,fun _=>⟨g1,g2⟩⟩
theorem a4A (l:List Int) {ds:List bR} {m:Nat} (hm:(lvs ds)[m]?=some 4):∀ (k:Nat) (s:List cC × Nat),(∀ i (hi:i<s.1.length),UH ds i s.1[i])→∀ i (hi:i<(gZ l m k s).1.length),UH ds i (gZ l m k s).1[i]
 | 0,s,h=>h
 | k+1,s,h=>by
  rw[gZ]
  split
  ·refine a4A l hm k _ (aET (P:=fun i (x:cC)=>UH ds i x) h ⟨_,m,rfl,rfl,?_,rfl,hm⟩)
   split<;>decide
  ·exact h
theorem bmG (l:List Int) (i:Nat) {s:MS} (h:MV i s):MV (i+1) (xV l i s):=by
 obtain⟨h1,h2,h3⟩:=bfM l i h
 obtain⟨g1,g2⟩:=h3 (by decide)
 have n3:=cK l (show 0<9 by decide) (eH l i s).a
 obtain⟨d3,e3⟩:=h1.new (level:=4) (parent:=(eH l i s).rack) (up:=8+nxM l 9 (eH l i s).a) (by decide) (by decide) g2 Om Om
 unfold xV
 simp only
 exact⟨d3,a4A l e3 _ _ (ahQ h2 fun p x hx=>lK hx),fun _=>⟨lK g1,lK g2⟩⟩
theorem aAM (l:List Int) (a:Nat):∀ k,MV k (eE l ⟨[iR],[],0,0,0,a⟩ k)
 | 0=>⟨⟨rfl,fun i hi=>absurd hi (by simp[eE])⟩,fun i hi=>absurd hi (by simp[eE]),fun h=>absurd h Om⟩
 | k+1=>bmG l k (aAM l a k)
theorem bkI {ds:List bR} (h:DV ds) (hl:ds.length≤100) (f:aL) (hf:f.bGL=ds):mJ f=true:=by
 have hr:=h.root
 have hdom:=h.dom
 unfold mJ
 rw[hf]
 cases hdm:ds with
 | nil=>rw[hdm] at hr; cases hr
 | cons r t =>
  rw[hdm] at hr
  have:r=iR:=by simpa using hr
  subst this
  show xG f iR t=true
  unfold xG
  simp only[bJI]
  refine⟨⟨⟨⟨⟨⟨rfl,rfl⟩,rfl⟩,rfl⟩,XF.lim⟩,by rw[show iR.bHA=nZ from rfl,XF.zero]; rfl⟩,?_⟩
  rw[bJJ]
  intro i hi
  rw[bKB] at hi
  rw[bIW hi]
  obtain⟨lev,p,u,h1,h2,h3,h4,h5,h6,h7,h8,h9,h10,h11⟩:=hdom i (by rw[hdm]; simp; omega)
  have e:ds[i+1]'(by rw[hdm]; simp; omega)=t[i]:=by simp[hdm]
  rw[e] at h1 h2 h5 h8 h11
  show EG f i t[i]=true
  unfold EG
  simp only[bJI]
  refine⟨⟨⟨⟨?_,?_⟩,?_⟩,?_⟩,by rw[h11]; exact XF.lim⟩
  ·rw[h5]; exact eK Om Om
  ·rw[h5,h2,hf,bLM,bJG,h7,afO Om Om]
   exact decide_eq_true rfl
  ·rw[h2]; exact eK Om Om
  ·rw[h8]; exact eK Om Om
theorem bdE {ds:List bR} {rs:List cC} (h:DV ds) (hr:∀ i (hi:i<rs.length),UH ds i rs[i]) (l1:ds.length≤90) (l2:rs.length≤90):distinct ((ds.drop 1).map bR.name++rs.map cC.name)=true:=by
 have hA:∀ i (hi:i<((ds.drop 1).map bR.name).length),((ds.drop 1).map bR.name)[i]=dK 110 (i+1):=by
  intro i hi
  rw[bIM,bKN] at hi
  obtain⟨lev,p,u,h1,-⟩:=h.dom i Om
  rw[bKU,List.getElem_drop]
  simp only[Nat.add_comm 1 i]
  exact h1
 have hB:∀ i (hi:i<(rs.map cC.name).length),(rs.map cC.name)[i]=dK 100 i:=by
  intro i hi
  rw[bIM] at hi
  obtain⟨m,c,h1,-⟩:=hr i hi
  rw[bKU]; exact h1
 have lA:((ds.drop 1).map bR.name).length≤90:=by rw[bIM,bKN]; omega
 have lB:(rs.map cC.name).length≤90:=by rw[bIM]; omega
 generalize (ds.drop 1).map bR.name=A at *
 generalize rs.map cC.name=B at *
 refine RN ?_ ?_
 ·intro x hx
  rcases bJY.1 hx with hx | hx
  ·obtain⟨i,hi,rfl⟩:=bKQ hx
   rw[hA i hi]
   exact WB (by decide) Om
  ·obtain⟨i,hi,rfl⟩:=bKQ hx
   rw[hB i hi]
   exact WB (by decide) Om
 ·rw[bKW]
  refine⟨MH (g:=fun s=>unM s-1) fun i hi=>?_,MH (g:=unM) fun i hi=>?_,fun x hx y hy e=>?_⟩
  ·rw[hA i hi,WZ _ Om]; omega
  ·rw[hB i hi]; exact WZ _ Om
  ·obtain⟨i,hi,rfl⟩:=bKQ hx
   obtain⟨j,hj,rfl⟩:=bKQ hy
   rw[hA i hi,hB j hj] at e
   exact absurd (List.cons.inj e).1 (by decide)
theorem azI:cG (mkT 1 2)=true∧cA (mkT 1 2)=true:=by decide +kernel
theorem VC:cG (mkT 1 1000)=true∧rN (mkT 1 1000)=true∧cG (mkT 30 1)=true:=by decide +kernel
theorem bqZ (l:List Int) (n a:Nat):iD 2 (oE l n a)=true:=by
 have n1:=cK l (show 0<2 by decide) a
 have n2:=cK l (show 0<3 by decide) (a+1)
 have n3:=cK l (Om:0<nxM l 3 (a+1)+1) (a+2)
 have n4:=cK l (show 0<4 by decide) (a+3)
 have n5:=cK l (show 0<3 by decide) (a+4)
 unfold oE iD GF xZ
 simp only[bJI,List.all_cons,List.all_nil,bKL]
 refine⟨⟨⟨⟨⟨⟨⟨⟨eK Om Om,eK Om Om⟩,decide_eq_true Om⟩,eK Om Om⟩,rfl⟩,eK Om Om,eK Om Om,eK Om Om,eK Om Om,eK Om Om⟩,?_⟩,⟨⟨⟨decide_eq_true (by rw[bLX]; omega),?_⟩,VC.1⟩,VC.2.1⟩,VC.2.2⟩,?_⟩
 ·split<;>rfl
 ·rw[bJJ]
  intro x hx
  rw[List.eq_of_mem_replicate hx,azI.1,azI.2]
  rfl
 ·split<;>decide
theorem WR (l:List Int):∀ n a i (hi:i<(gU l n a).length),(gU l n a)[i].name=dK 112 (n-i)∧iD 2 (gU l n a)[i]=true
 | 0,_,i,hi=>by cases hi
 | n+1,a,0,_=>⟨rfl,bqZ l _ _⟩
 | n+1,a,i+1,hi=>by
  have:=WR l n (a+6) i (by simpa [gU] using hi)
  simp only[gU,List.getElem_cons_succ]
  rw[show n+1-(i+1)=n-i by omega]
  exact this
theorem aHY (l:List Int) (p:Nat):∀ n a i (hi:i<(kN l p n a).length),(kN l p n a)[i].name=dK 118 (n-i)
 | 0,_,i,hi=>by cases hi
 | n+1,a,0,_=>rfl
 | n+1,a,i+1,hi=>by
  have:=aHY l p n (a+1) i (by simpa [kN] using hi)
  simp only[kN,List.getElem_cons_succ]
  rw[show n+1-(i+1)=n-i by omega]
  exact this
theorem JF {l:List (List UInt8)} {c:UInt8} (hc:eR c.toNat=true) (hn:l.length≤90) (h:∀ i (hi:i<l.length),l[i]=dK c (l.length-i)):distinct l=true:=by
 refine RN (fun x hx=>?_) (MH (g:=fun s=>l.length-unM s) fun i hi=>?_)
 ·obtain⟨i,hi,rfl⟩:=bKQ hx
  rw[h i hi]; exact WB hc Om
 ·rw[h i hi,WZ _ Om]; omega
theorem bqB:∀ x:Fin 100,jX ⟨[100,105,115,107],[mkT 1 1],[[mkT 0 1]],[mkT 1 ((100+x.val:Nat):Int)]⟩=true:=by decide +kernel
theorem vS (l:List Int) {bGK:Nat} (hv:bGK≤11) (a:Nat):dS (dC l bGK a).1=true:=by
 obtain⟨F,hvl,-,-⟩:=xL l (bGK:=bGK) Om a
 have n3:=cK l (show 0<3 by decide) (a+6)
 have hM:=oL l (abO (a+7)) (3+nxM l 3 (a+6)) Om
 have hV:=aAM l (a+7) (3+nxM l 3 (a+6))
 have hd:=F.bGI
 have hvo:=F.vols
 have hp:=F.pols
 unfold dC at hd hvl hvo hp ⊢
 simp only at hd hvl hvo hp ⊢
 generalize eE l ⟨[iR],[],0,0,0,a+7⟩ (3+nxM l 3 (a+6))=s at *
 have e1:=cK l (show 0<2 by decide) a
 have e2:=cK l (show 0<2 by decide) (a+2)
 have e3:=cK l (show 0<9 by decide) (a+3)
 have e4:=cK l (show 0<3 by decide) (a+4)
 have e5:=cK l (show 0<9 by decide) (a+5)
 have e6:=cK l (show 0<100 by decide) (a+1)
 have hlen:=hM.len
 have e7:=cK l (show 0<2 by decide) s.a
 have hdv:=hM.dlen
 unfold dS
 rw[bkI hV.dv Om _ rfl]
 simp only[bJI,bKL]
 refine⟨⟨?_,⟨⟨⟨⟨?_,?_⟩,?_⟩,?_⟩,?_⟩⟩,⟨⟨⟨(show distinct [[100,105,115,107]]=true by decide +kernel),(show distinct [[98,105,103],[111,108,100]]=true by decide +kernel)⟩,bdE hV.dv hV.drv Om Om⟩,?_⟩,?_⟩
 ·unfold lF
  simp only[bJI]
  exact⟨⟨⟨⟨⟨⟨eK Om Om,rfl⟩,rfl⟩,decide_eq_true Om⟩,decide_eq_true Om⟩,decide_eq_true Om⟩,decide_eq_true Om⟩
 ·simp only[List.all_cons,List.all_nil,bKL]
  exact bqB ⟨_,e6⟩
 ·simp only[List.all_cons,List.all_nil,bKL,bJI,iW]
  exact⟨⟨⟨eK Om Om,eK Om Om⟩,rfl⟩,⟨eK Om Om,eK Om Om⟩,rfl⟩
 ·refine aLJ fun i hi=>?_
  obtain⟨m,c,-,h2,h3,h4,h5⟩:=hV.drv i hi
  have hc:=(bJX.1 h5).1
  rw[bIM] at hc
  unfold gD
  simp only[bJI]
  rw[h2,h4,bLM,bJG,h5]
  exact⟨⟨eK Om (by simp only[bKH,bKY]; omega),eK Om Om⟩,rfl⟩
 ·exact aLJ fun i hi=>(WR l _ _ i hi).2
 ·rw[bJJ]
  intro x hx
  have:=hvo x hx
  exact eK this.1 (show x.bGW≤((gU l (1+nxM l 2 s.a) (s.a+1)).length:Int)-1 by omega)
 ·refine JF (c:=112) (by decide) (by rw[bIM]; omega) fun i hi=>?_
  have h1:=(WR l _ _ i (by simpa using hi)).1
  rw[bKU,h1,bIM,pL]
 ·refine JF (c:=118) (by decide) (by rw[bIM]; omega) fun i hi=>?_
  have h1:=aHY l _ _ _ i (by simpa using hi)
  rw[bKU,h1,bIM,yL]


theorem CoL.bAT:CoL [] []:=⟨rfl,fun j p q h=>by simp at h⟩
theorem CoL.biZ {p q:PV} {ps qs:List PV} (h:Co p q) (hs:CoL ps qs):CoL (p::ps) (q::qs):=by
 refine⟨by simp[hs.len],fun j x y a b=>?_⟩
 cases j with
 | zero =>
  simp only[List.getElem?_cons_zero,bLB.injEq] at a b
  subst a; subst b; exact h
 | succ j=>exact hs.at_ j x y (by simpa using a) (by simpa using b)
theorem aD.aZK {C:Ctx} {name:Nat} {R:PV→PH→Prop} {x:PV} {s:Nat} (h:aD C name [x,.sl s []] .nil R):aD C name [x,.aB] .nil R :=
 h.args (.biZ (.refl _) (.biZ (.nil s) .bAT))
theorem aD.seen {C:Ctx} {name:Nat} {args:List PV} {H:PH} {v:PV} (h:aD C name args H (bZ v)):aD C name args H (aE v) :=
 h.post fun r H' hr=>⟨v,hr.1,rfl,hr.2⟩
theorem bgS {C:Ctx} (f:aL) (hv:VF f) (v:Nat) (h:v<f.bGK.length) :
  GU.wp C (aU acV.res (bZ (.int .i64 (fA f v)))) (PF.args [.agg f.cells,.int .i64 v]) .nil:=by
 obtain⟨hp,he⟩:=GO hv h
 have hpol:=hv.bGW _ (bIR hp)
 rw[he] at hpol
 have hw:IntKind.i64.wrap ((gT f v).k+(gT f v).m)=(gT f v).k+(gT f v).m:=wrap_i64 Om Om
 simp only[go_sem,γ,δ,ε,ζ,η,θ,ι,κ,μ,ν,ξ,ο,ρ,σ,τ,υ,reduceIte,reduceCtorEq,GU,aEN,acV]
 refine bT .nil eG PH.nil_le ?_
 simp only[go_sem,γ,δ,ε,ζ,η,θ,ι,κ,μ,ν,ξ,ο,ρ,σ,τ,υ,reduceIte,reduceCtorEq,aEO,IA h,hv.aDP h,sC hp,he]
 refine aQ fun o ho=>?_
 simp only[go_sem,γ,δ,ε,ζ,η,θ,ι,κ,μ,ν,ξ,ο,ρ,σ,τ,υ,reduceIte,reduceCtorEq,aEP,hw]
 refine⟨PH.nil_le,?_⟩
 exact kT (n:=(gT f v).k+(gT f v).m) Ev rfl
abbrev iiv (l:List Int):List (List PV):=l.map fun x=>[PV.int .i64 x]
abbrev oK (l:List (List Int)):List (List PV):=l.map fun r=>[ints r]
theorem bmF (l:List (List Int)):Flat (oK l):=qR fun r hr c hc=>by
 obtain⟨x,_,rfl⟩:=bJT.1 hr
 rw[bJU] at hc
 subst hc
 rfl
theorem exactly {C:Ctx} {name:Nat} {args:List PV} {H H2:PH} {v:PV} (h:aD C name args H (fun r H'=>Co r v∧H'=H2)):aD C name args H (fun r H'=>r=v∧H'=H2) :=
 h.post fun r H' hr=>⟨_,hr.1,rfl,hr.2⟩
structure tD (f:aL) (L:List (List Int)):Prop where
 len:L.length=f.bGK.length
 row:∀ v (h:v<L.length),((L[v].length:Nat):Int)=fA f v
 home:∀ r∈L,∀ x∈r,-1≤x∧x<f.bGI.length
theorem tD.buB {f:aL} {L:List (List Int)} (h:tD f L) (hV:VF f):∀ k,k≤L.length→(L.take k).flatten.length≤k*8:=by
 have hl:=h.len
 intro k
 induction k with
 | zero=>intro _; simp
 | succ k ih =>
  intro hk
  rw[KO L hk,bIU]
  have h1:=ih Om
  have h2:=h.row k hk
  obtain⟨hp,he⟩:=GO hV (Om:k<f.bGK.length)
  have hpol:=hV.bGW _ (bIR hp)
  rw[he] at hpol
  unfold fA at h2
  omega
theorem tD.ok {f:aL} (hV:VF f) {L:List (List Int)} (h:tD f L):jH L:=by
 have hv:=hV.small.bGK
 have hl:=h.len
 have:=h.buB hV L.length (bIO _)
 rw[bJN] at this
 exact⟨by omega,by omega⟩

section
variable {H:PH} {B:List BX} {L:List LI}
end
theorem RY {p:Int→Bool}:∀ {l:List Int} {i:Nat},(∀ x∈l,p x=false)→fO p l i=none
 | [],_,_=>rfl
 | y::t,i,h=>by
  rw[fO,h y (by simp),if_neg (by decide)]
  exact RY fun x hx=>h x (by simp[hx])
theorem tD.shape {f:aL} {L:List (List Int)} (h:tD f L) {v:Nat} (hv:v<L.length):lZ f L v=none:=by
 have e:L.getD v []=L[v]:=by simp[bJG,hv]
 unfold lZ
 rw[e,if_pos (h.row v hv),RY]
 ·rfl
 ·intro x hx
  have:=h.home _ (bIR hv) x hx
  simp[jQ]
  omega
theorem alH (l:List Int) (m:Nat):∀ (k:Nat) (s:List cC × Nat),s.1.length≤(gZ l m k s).1.length
 | 0,s=>bIO _
 | k+1,s=>by
  rw[gZ]
  split
  ·have:=alH l m k (s.1++[⟨dK 100 s.1.length,((if nxM l 4 s.2=0 then 1 else 0:Nat):Int),(m:Nat)⟩],s.2+1)
   simp only[bIU,bJC] at this
   omega
  ·exact bIO _
theorem bdD (l:List Int) (m k:Nat) (s:List cC × Nat):1≤(gZ l m (k+1) s).1.length:=by
 rw[gZ]
 split
 ·have:=alH l m k (s.1++[⟨dK 100 s.1.length,((if nxM l 4 s.2=0 then 1 else 0:Nat):Int),(m:Nat)⟩],s.2+1)
  simp only[bIU,bJC] at this
  omega
 ·omega
theorem aXX (l:List Int) (s:MS) (k:Nat):1≤(eE l s (k+1)).bHH.length:=by
 rw[eE]
 unfold xV
 simp only
 rw[show 1+nxM l 2 ((eH l k (eE l s k)).a+1)=nxM l 2 ((eH l k (eE l s k)).a+1)+1 by omega]
 exact bdD l _ _ _
theorem EN (l:List Int) (bGK a:Nat):1≤(dC l bGK a).1.bGI.length:=by
 unfold dC
 simp only
 rw[show 3+nxM l 3 (a+6)=(2+nxM l 3 (a+6))+1 by omega]
 exact aXX l _ _
theorem awG (row:List Int) {n:Nat} (hn:0<n):∀ k d,d<n→oQ row n k d<n
 | 0,d,h=>h
 | k+1,d,h=>by
  rw[oQ]
  split
  ·exact awG row hn k _ (bKA _ hn)
  ·exact h
theorem beC (l:List Int) (row:List Int) {n:Nat} (hn:0<n) (a:Nat):-1≤(uB l row n a).1∧(uB l row n a).1<n:=by
 have:=awG row hn n (nxM l n a) (cK l hn a)
 unfold uB
 simp only
 split
 ·simp only; omega
 ·split<;>simp only<;>omega
theorem aRB (l:List Int) {n:Nat} (hn:0<n) (a:Nat):∀ k,∀ x∈(jM l n a k).1,-1≤x∧x<n
 | 0,x,h=>by cases h
 | k+1,x,h=>by
  rw[jM] at h
  simp only[bJY,bJU] at h
  rcases h with h | rfl
  ·exact aRB l hn a k x h
  ·exact beC l _ hn _
theorem amH (l:List Int) {f:aL} (hf:FM f) (h0:1≤f.bGI.length) (a:Nat):∀ k,k≤f.bGK.length →
  (∀ v (h:v<(cX l f a k).1.length),(((cX l f a k).1[v].length:Nat):Int)=fA f v)∧∀ r∈(cX l f a k).1,∀ x∈r,-1≤x∧x<f.bGI.length
 | 0,_=>⟨fun v h=>absurd h (by simp[cX]),fun r h=>by cases h⟩
 | k+1,hk=>by
  obtain⟨h1,h2⟩:=amH l hf h0 a k Om
  obtain⟨k1,-,-,-⟩:=qI l hf a k Om
  have hfr:=hf.UU (v:=k) Om
  obtain⟨r1,-,-⟩:=CE l f.bGI.length (cX l f a k).2 (fA f k).toNat
  rw[cX]
  simp only
  refine⟨aET (P:=fun v (r:List Int)=>((r.length:Nat):Int)=fA f v) h1 ?_,fun r hr=>?_⟩
  ·rw[k1,r1]; omega
  ·rw[bJY,bJU] at hr
   rcases hr with hr | rfl
   ·exact h2 r hr
   ·exact aRB l Om _ _
theorem a4Z (l:List Int) (bGK a b:Nat) (hv:bGK≤1000):tD (dC l bGK a).1 (cX l (dC l bGK a).1 b (dC l bGK a).1.bGK.length).1:=by
 have hF:=(xL l hv a).1
 obtain⟨h1,h2⟩:=amH l hF (EN l bGK a) b _ (bIO _)
 obtain⟨k1,-,-,-⟩:=qI l hF b _ (bIO _)
 exact⟨k1,h1,h2⟩
structure BH (C:Ctx):Prop extends CV C where
 size:∀ (f:aL) (v:Nat),VF f→v<f.bGK.length→aD C 245 [.agg f.cells,.int .i64 v] .nil (aE (.int .i64 (fA f v)))
 has:∀ (l:List Int) (x:Int),l.length≤1000000000000000→aD C 247 [ints l,.int .i64 x] .nil (aE (.bool (l.contains x)))
theorem TV {C:Ctx} {F:PF} {H:PH} (Lb:BH C) {row:List Int} (bGV:row.length≤1000) {q n:Nat} (hn:n=row.length) {x:Int} {args:List aP} {d:Option Nat} {K:PF→PH→Prop} (hO:bM H 1 (.osl q 1 0 n) (iiv row)) (ha:aP.evs F args=some [.osl q 1 0 n,.int .i64 x])
  (hk:K (F.put d (.bool (row.contains x))) H):fU C 247 args [] d K F H:=by
 obtain⟨rs,h1,h2,h3,h4⟩:=hO.id rfl
 subst hn
 rw[bIM] at h3 h4
 refine TX (.bool _) ?_ h1 ha hk
 rw[bKV,pH h3,h4]
 exact Lb.has row x Om
def bcU (f:aL) (o:Nat) (w:PV) (v:Nat):PF:=((((PF.nil.set 0 (.ptr o 2 0 0)).set 3 (.bJ f.cells)).set 5 (w)).set 6 (.int .i64 v))
def fS (f:aL) (o:Nat) (w:PV) (v q i:Nat):PF:=((((((PF.nil.set 0 (.ptr o 2 0 0)).set 3 (.bJ f.cells)).set 5 (w)).set 6 (.int .i64 v)).set 7 (.osl q 1 0 i)).set 8 (.int .i64 i))
def aWM (f:aL) (o:Nat) (w:PV) (v q i d j:Nat):PF:=((((((((PF.nil.set 0 (.ptr o 2 0 0)).set 3 (.bJ f.cells)).set 5 (w)).set 6 (.int .i64 v)).set 7 (.osl q 1 0 i)).set 8 (.int .i64 i)).set 9 (.int .i64 d)).set 10 (.int .i64 j))
theorem bcV {C:Ctx} (Lb:BH C) (f:aL) (hd0:1≤f.bGI.length) (hd:f.bGI.length≤1000) (o:Nat) (w:PV) (v q i d0:Nat) (row:List Int) (hi:i=row.length) (bGV:row.length≤1000) (hdl:d0<f.bGI.length) (K:cN) (F:PF) (H:PH)
  (hF:(aWM f o w v q i d0 0).le F) (hO:bM H 1 (.osl q 1 0 i) (iiv row))
  (hK:∀ F',(fS f o w v q i).le F'→F' 9=some (.int .i64 (oQ row f.bGI.length f.bGI.length d0:Nat))→K (.exit 4) F' H) :
  aC.wp C (.loop yT) K F H:=by
 refine wp_loop (α:=Nat × Nat) (fun s=>aWM f o w v q i s.2 s.1) (fun _=>H) (fun s=>s.1≤f.bGI.length∧s.2<f.bGI.length∧oQ row f.bGI.length (f.bGI.length-s.1) s.2=oQ row f.bGI.length f.bGI.length d0) (fun s=>f.bGI.length-s.1) (0,d0) ⟨bIX _,hdl,rfl⟩ hF PH.le_refl ?_
 rintro⟨j,d⟩ ⟨hj,hdd,hE⟩
 simp only at hj hdd hE ⊢
 simp only[go_sem,γ,δ,ε,ζ,η,θ,ι,κ,μ,ν,ξ,ο,ρ,σ,τ,υ,reduceIte,reduceCtorEq,yT,ZS,aWM,bIM]
 by_cases hlt:j<f.bGI.length
 ·have bGP:(j:Int)<(f.bGI.length:Nat):=by omega
  simp only[go_sem,γ,δ,ε,ζ,η,θ,ι,κ,μ,ν,ξ,ο,ρ,σ,τ,υ,reduceIte,reduceCtorEq,bGP]
  refine TV Lb (x:=(d:Nat)) bGV hi hO rfl ?_
  obtain⟨k,hk⟩:∃ k,f.bGI.length-j=k+1:=⟨f.bGI.length-j-1,by omega⟩
  rw[hk,oQ] at hE
  cases hc:row.contains ((d:Nat):Int) with
  | true =>
   rw[hc,if_pos rfl] at hE
   have hz:¬ ((f.bGI.length:Nat):Int)=0:=by omega
   have em:Int.tmod ((d+1:Nat):Int) (f.bGI.length:Nat)=(((d+1)%f.bGI.length:Nat):Int):=Int.ofNat_tmod _ _
   simp only[go_sem,γ,δ,ε,ζ,η,θ,ι,κ,μ,ν,ξ,ο,ρ,σ,τ,υ,reduceIte,reduceCtorEq,RQ,bIM,wZz d,hz,em,RR,wZz j]
   refine aK (j+1,(d+1)%f.bGI.length) ⟨hlt,bKA _ Om,?_⟩ (by simp only; omega) Lq PH.le_refl
   simp only
   rw[show f.bGI.length-(j+1)=k by omega]
   exact hE
  | false =>
   rw[hc,if_neg (by simp)] at hE
   simp only[go_sem,γ,δ,ε,ζ,η,θ,ι,κ,μ,ν,ξ,ο,ρ,σ,τ,υ,reduceIte,reduceCtorEq]
   refine hK _ ?_ ?_
   ·unfold fS
    exact Lq
   ·rw[← hE]; simp only[go_sem,γ,δ,ε,ζ,η,θ,ι,κ,μ,ν,ξ,ο,ρ,σ,τ,υ,reduceIte,reduceCtorEq]
 ·have bGP:¬ (j:Int)<(f.bGI.length:Nat):=by omega
  have hz:f.bGI.length-j=0:=by omega
  rw[hz,oQ] at hE
  simp only[go_sem,γ,δ,ε,ζ,η,θ,ι,κ,μ,ν,ξ,ο,ρ,σ,τ,υ,reduceIte,reduceCtorEq,bGP]
  refine hK _ ?_ ?_
  ·unfold fS
   exact Lq
  ·rw[← hE]; simp only[go_sem,γ,δ,ε,ζ,η,θ,ι,κ,μ,ν,ξ,ο,ρ,σ,τ,υ,reduceIte,reduceCtorEq]
theorem bkG {C:Ctx} (Lb:BH C) {l:List Int} (T:TpM l) (o:Nat) (f:aL) (hV:VF f) (hd0:1≤f.bGI.length) (v:Nat) (hvl:v<f.bGK.length) (n:Nat) (hn:fA f v=n) (hn8:n≤8) (w:PV) (R:List (List PV)) (q0 a:Nat) (ha:a≤50000) (K:cN) (F:PF) (H:PH)
  (hF:(fS f o w v q0 0).le F) (hH:aS H [(o,bG l a)] [(w,1,R),(.osl q0 1 0 0,1,iiv [])])
  (hK:∀ q F' H',(fS f o w v q n).le F'→aS H' [(o,bG l (jM l f.bGI.length a n).2)] [(w,1,R),(.osl q 1 0 n,1,iiv (jM l f.bGI.length a n).1)]→K (.exit 2) F' H') :
  aC.wp C (.loop yU) K F H:=by
 have hd24:=hV.small.bGI
 refine wp_loop (α:=Nat × Nat × PH) (fun s=>fS f o w v s.2.1 s.1) (fun s=>s.2.2) (fun s=>s.1≤n∧aS s.2.2 [(o,bG l (jM l f.bGI.length a s.1).2)] [(w,1,R),(.osl s.2.1 1 0 s.1,1,iiv (jM l f.bGI.length a s.1).1)]) (fun s=>n-s.1) (0,q0,H) ⟨bIX _,hH⟩ hF PH.le_refl ?_
 rintro⟨i,q,H0⟩ ⟨hi,hH⟩
 simp only at hi hH ⊢
 obtain⟨k1,k2,k3⟩:=CE l f.bGI.length a i
 have bGQ:jM l f.bGI.length a (i+1)=((jM l f.bGI.length a i).1++[(uB l (jM l f.bGI.length a i).1 f.bGI.length (jM l f.bGI.length a i).2).1],(uB l (jM l f.bGI.length a i).1 f.bGI.length (jM l f.bGI.length a i).2).2):=rfl
 generalize hs:jM l f.bGI.length a i=s at *
 have hsz:=Lb.size f v hV hvl
 rw[hn] at hsz
 simp only[go_sem,γ,δ,ε,ζ,η,θ,ι,κ,μ,ν,ξ,ο,ρ,σ,τ,υ,reduceIte,reduceCtorEq,yU,ZP,fS]
 refine aA hsz rfl ?_
 by_cases hlt:i<n
 ·have bGP:(i:Int)<(n:Nat):=by omega
  have nd:=cK l (Om:0<f.bGI.length) s.2
  have h11:(1:Nat)*1≤16777216:=by decide
  simp only[go_sem,γ,δ,ε,ζ,η,θ,ι,κ,μ,ν,ξ,ο,ρ,σ,τ,υ,reduceIte,reduceCtorEq,bGP,ZQ,bIM]
  refine cE Lb.toCV T (o:=o) (n:=f.bGI.length) (a:=s.2) Om Om rfl (hH.at 0 rfl) ?_
  have h1:=hH.set 0 rfl (bG l (s.2+1))
  simp only[go_sem,γ,δ,ε,ζ,η,θ,ι,κ,μ,ν,ξ,ο,ρ,σ,τ,υ,reduceIte,reduceCtorEq,ZR]
  refine bcV Lb f hd0 Om o w v q i (nxM l f.bGI.length s.2) s.1 k1.symm Om nd _ _ _ (by unfold aWM; exact Lq) (h1.own 1 rfl) ?_
  intro F1 hF1 f9
  have f0:F1 0=some (.ptr o 2 0 0):=hF1 0 _ (by unfold fS; simp only[go_sem,γ,δ,ε,ζ,η,θ,ι,κ,μ,ν,ξ,ο,ρ,σ,τ,υ,reduceIte,reduceCtorEq])
  have f3:F1 3=some (.bJ f.cells):=hF1 3 _ (by unfold fS; simp only[go_sem,γ,δ,ε,ζ,η,θ,ι,κ,μ,ν,ξ,ο,ρ,σ,τ,υ,reduceIte,reduceCtorEq])
  have f5:F1 5=some w:=hF1 5 _ (by unfold fS; simp only[go_sem,γ,δ,ε,ζ,η,θ,ι,κ,μ,ν,ξ,ο,ρ,σ,τ,υ,reduceIte,reduceCtorEq])
  have f6:F1 6=some (.int .i64 v):=hF1 6 _ (by unfold fS; simp only[go_sem,γ,δ,ε,ζ,η,θ,ι,κ,μ,ν,ξ,ο,ρ,σ,τ,υ,reduceIte,reduceCtorEq])
  have f7:F1 7=some (.osl q 1 0 i):=hF1 7 _ (by unfold fS; simp only[go_sem,γ,δ,ε,ζ,η,θ,ι,κ,μ,ν,ξ,ο,ρ,σ,τ,υ,reduceIte,reduceCtorEq])
  have f8:F1 8=some (.int .i64 i):=hF1 8 _ (by unfold fS; simp only[go_sem,γ,δ,ε,ζ,η,θ,ι,κ,μ,ν,ξ,ο,ρ,σ,τ,υ,reduceIte,reduceCtorEq])
  have hhome:uB l s.1 f.bGI.length s.2=if s.1.contains ((oQ s.1 f.bGI.length f.bGI.length (nxM l f.bGI.length s.2):Nat):Int) then (-1,s.2+1) else if nxM l 12 (s.2+1)=0 then (-1,s.2+2) else (((oQ s.1 f.bGI.length f.bGI.length (nxM l f.bGI.length s.2):Nat):Int),s.2+2):=rfl
  generalize oQ s.1 f.bGI.length f.bGI.length (nxM l f.bGI.length s.2)=d at *
  have fin:∀ (x:Int) (b:Nat) (F':PF) (H':PH),uB l s.1 f.bGI.length s.2=(x,b)→(fS f o w v q i).le F'→F' 9=some (.int .i64 x)→aS H' [(o,bG l b)] [(w,1,R),(.osl q 1 0 i,1,iiv s.1)] →
    aC.wp C (.region yW) (dX 3 (iH C (aC.wp C (.region yX)) (eF (fun s:Nat × Nat × PH=>fS f o w v s.2.1 s.1) (fun s=>s.2.2) (fun s=>s.1≤n∧aS s.2.2 [(o,bG l (jM l f.bGI.length a s.1).2)] [(w,1,R),(.osl s.2.1 1 0 s.1,1,iiv (jM l f.bGI.length a s.1).1)]) (fun s=>n-s.1) (n-i) K))) F' H':=by
   intro x b F' H' hx hF' g9 hH'
   have g0:F' 0=some (.ptr o 2 0 0):=hF' 0 _ (by unfold fS; simp only[go_sem,γ,δ,ε,ζ,η,θ,ι,κ,μ,ν,ξ,ο,ρ,σ,τ,υ,reduceIte,reduceCtorEq])
   have g3:F' 3=some (.bJ f.cells):=hF' 3 _ (by unfold fS; simp only[go_sem,γ,δ,ε,ζ,η,θ,ι,κ,μ,ν,ξ,ο,ρ,σ,τ,υ,reduceIte,reduceCtorEq])
   have g5:F' 5=some w:=hF' 5 _ (by unfold fS; simp only[go_sem,γ,δ,ε,ζ,η,θ,ι,κ,μ,ν,ξ,ο,ρ,σ,τ,υ,reduceIte,reduceCtorEq])
   have g6:F' 6=some (.int .i64 v):=hF' 6 _ (by unfold fS; simp only[go_sem,γ,δ,ε,ζ,η,θ,ι,κ,μ,ν,ξ,ο,ρ,σ,τ,υ,reduceIte,reduceCtorEq])
   have g7:F' 7=some (.osl q 1 0 i):=hF' 7 _ (by unfold fS; simp only[go_sem,γ,δ,ε,ζ,η,θ,ι,κ,μ,ν,ξ,ο,ρ,σ,τ,υ,reduceIte,reduceCtorEq])
   have g8:F' 8=some (.int .i64 i):=hF' 8 _ (by unfold fS; simp only[go_sem,γ,δ,ε,ζ,η,θ,ι,κ,μ,ν,ξ,ο,ρ,σ,τ,υ,reduceIte,reduceCtorEq])
   simp only[go_sem,γ,δ,ε,ζ,η,θ,ι,κ,μ,ν,ξ,ο,ρ,σ,τ,υ,reduceIte,reduceCtorEq,yW,g7,g9,h11]
   refine hH'.append 1 (src:=[[.int .i64 x]]) rfl rfl (by unfold roomFor; rw[bIM,k1]; simp only[bJC,maxLen]; omega) fun w' H2 h5 hw=>?_
   obtain⟨z,rfl⟩:=hw (by simp)
   have e:iiv s.1++[[PV.int .i64 x]]=iiv (s.1++[x]):=by simp[iiv]
   have el:(iiv s.1++[[PV.int .i64 x]]).length=i+1:=by simp[k1]
   rw[el] at h5
   rw[el]
   simp only[go_sem,γ,δ,ε,ζ,η,θ,ι,κ,μ,ν,ξ,ο,ρ,σ,τ,υ,reduceIte,reduceCtorEq,yX,g8,wZz i]
   refine aK (i+1,z,H2) ⟨hlt,?_⟩ (by simp only; omega) ?_ PH.le_refl
   ·simp only
    rw[bGQ,hx,← e]
    exact h5
   ·unfold fS
    exact Lq
  simp only[aC.wp,go_sem] at fin
  simp only[go_sem,γ,δ,ε,ζ,η,θ,ι,κ,μ,ν,ξ,ο,ρ,σ,τ,υ,reduceIte,reduceCtorEq,RS,f7,f9]
  refine TV Lb (x:=(d:Nat)) Om k1.symm (h1.own 1 rfl) rfl ?_
  cases hc:s.1.contains ((d:Nat):Int) with
  | true =>
   rw[hc,if_pos rfl] at hhome
   simp only[go_sem,γ,δ,ε,ζ,η,θ,ι,κ,μ,ν,ξ,ο,ρ,σ,τ,υ,reduceIte,reduceCtorEq,yV]
   refine fin (-1) (s.2+1) _ _ hhome ?_ rfl h1
   unfold fS
   exact Lq
  | false =>
   rw[hc,if_neg (by simp)] at hhome
   simp only[go_sem,γ,δ,ε,ζ,η,θ,ι,κ,μ,ν,ξ,ο,ρ,σ,τ,υ,reduceIte,reduceCtorEq,f0]
   refine cE Lb.toCV T (o:=o) (n:=12) (a:=s.2+1) (by decide) Om rfl (h1.at 0 rfl) ?_
   have h2:=h1.set 0 rfl (bG l (s.2+2))
   by_cases c:nxM l 12 (s.2+1)=0
   ·rw[if_pos c] at hhome
    simp only[go_sem,γ,δ,ε,ζ,η,θ,ι,κ,μ,ν,ξ,ο,ρ,σ,τ,υ,reduceIte,reduceCtorEq,bS (show ((nxM l 12 (s.2+1):Nat):Int)=0 by omega),yV]
    refine fin (-1) (s.2+2) _ _ hhome ?_ rfl (by rw[PH.set_set] at h2; exact h2)
    unfold fS
    exact Lq
   ·rw[if_neg c] at hhome
    simp only[go_sem,γ,δ,ε,ζ,η,θ,ι,κ,μ,ν,ξ,ο,ρ,σ,τ,υ,reduceIte,reduceCtorEq,bF (show ((nxM l 12 (s.2+1):Nat):Int)≠0 by omega)]
    refine fin d (s.2+2) _ _ hhome ?_ (by simp only[go_sem,γ,δ,ε,ζ,η,θ,ι,κ,μ,ν,ξ,ο,ρ,σ,τ,υ,reduceIte,reduceCtorEq,f9]) (by rw[PH.set_set] at h2; exact h2)
    unfold fS
    exact Lq
 ·have bGP:¬ (i:Int)<(n:Nat):=by omega
  have:i=n:=by omega
  subst this
  simp only[go_sem,γ,δ,ε,ζ,η,θ,ι,κ,μ,ν,ξ,ο,ρ,σ,τ,υ,reduceIte,reduceCtorEq,bGP]
  refine hK q _ _ ?_ (by rw[hs]; exact hH)
  unfold fS
  exact Lq

def biW (l:List Int) (o a:Nat) (f:aL) (r:PV) (H:PH):Prop:=Co r (lay (cX l f a f.bGK.length).1)∧H=PH.nil.set o (bG l (cX l f a f.bGK.length).2)
theorem aWK {C:Ctx} (Lb:BH C) {l:List Int} (T:TpM l) (o a:Nat) (ha:a≤10000) (f:aL) (hF:FM f) (hV:VF f) (hd0:1≤f.bGI.length) :
  vP.wp C (aU BN.res (biW l o a f)) (PF.args [.ptr o 2 0 0,.agg f.cells]) (PH.nil.set o (bG l a)):=by
 have hvl:=hV.small.bGK
 have h0:aS (PH.nil.set o (bG l a)) [(o,bG l a)] [(.aB,1,oK [])]:=(aS.nil.new (H:=PH.nil) rfl (bG l a)).qN 1
 have hR:∀ r H,biW l o a f r H↔Co r (lay (cX l f a f.bGK.length).1)∧H=PH.nil.set o (bG l (cX l f a f.bGK.length).2):=fun _ _=>Iff.rfl
 simp only[go_sem,γ,δ,ε,ζ,η,θ,ι,κ,μ,ν,ξ,ο,ρ,σ,τ,υ,reduceIte,reduceCtorEq,vP,ZJ,BN,ZK,ZL]
 refine wp_loop (α:=Nat × PV × PH) (fun s=>bcU f o s.2.1 s.1) (fun s=>s.2.2) (fun s=>s.1≤f.bGK.length∧aS s.2.2 [(o,bG l (cX l f a s.1).2)] [(s.2.1,1,oK (cX l f a s.1).1)]) (fun s=>f.bGK.length-s.1) (0,.aB,_) ⟨bIX _,h0⟩ ?_ PH.le_refl ?_
 ·unfold bcU
  exact Lq
 rintro⟨i,w,H0⟩ ⟨hi,hH⟩
 simp only at hi hH ⊢
 obtain⟨k1,-,k3,k4⟩:=qI l hF a i hi
 simp only[go_sem,γ,δ,ε,ζ,η,θ,ι,κ,μ,ν,ξ,ο,ρ,σ,τ,υ,reduceIte,reduceCtorEq,RP,ZM,bcU,bIM]
 by_cases hlt:i<f.bGK.length
 ·have bGP:(i:Int)<(f.bGK.length:Nat):=by omega
  have hfr:=hF.UU hlt
  obtain⟨n,hn⟩:∃ n:Nat,fA f i=n:=⟨(fA f i).toNat,by omega⟩
  have bGQ:cX l f a (i+1)=((cX l f a i).1++[(jM l f.bGI.length (cX l f a i).2 (fA f i).toNat).1],(jM l f.bGI.length (cX l f a i).2 (fA f i).toNat).2):=rfl
  rw[hn,bLM] at bGQ
  generalize hs:cX l f a i=s at *
  have h11:(1:Nat)*1≤16777216:=by decide
  have h01:(0:Nat)*1≤16777216:=by decide
  simp only[go_sem,γ,δ,ε,ζ,η,θ,ι,κ,μ,ν,ξ,ο,ρ,σ,τ,υ,reduceIte,reduceCtorEq,bGP,ZN,h01]
  refine aQ fun q0 hq0=>?_
  have h1:=hH.aBV (s:=1) (rows:=iiv []) hq0
  obtain⟨r1,-,-⟩:=CE l f.bGI.length s.2 n
  simp only[go_sem,γ,δ,ε,ζ,η,θ,ι,κ,μ,ν,ξ,ο,ρ,σ,τ,υ,reduceIte,reduceCtorEq,ZO]
  refine bkG Lb T o f hV hd0 i hlt n hn Om w (oK s.1) q0 s.2 Om _ _ _ (by unfold fS; exact Lq) h1 ?_
  intro q F1 H1 hF1 h2
  generalize bGV:jM l f.bGI.length s.2 n=row at *
  have f0:F1 0=some (.ptr o 2 0 0):=hF1 0 _ (by unfold fS; simp only[go_sem,γ,δ,ε,ζ,η,θ,ι,κ,μ,ν,ξ,ο,ρ,σ,τ,υ,reduceIte,reduceCtorEq])
  have f3:F1 3=some (.bJ f.cells):=hF1 3 _ (by unfold fS; simp only[go_sem,γ,δ,ε,ζ,η,θ,ι,κ,μ,ν,ξ,ο,ρ,σ,τ,υ,reduceIte,reduceCtorEq])
  have f5:F1 5=some w:=hF1 5 _ (by unfold fS; simp only[go_sem,γ,δ,ε,ζ,η,θ,ι,κ,μ,ν,ξ,ο,ρ,σ,τ,υ,reduceIte,reduceCtorEq])
  have f6:F1 6=some (.int .i64 i):=hF1 6 _ (by unfold fS; simp only[go_sem,γ,δ,ε,ζ,η,θ,ι,κ,μ,ν,ξ,ο,ρ,σ,τ,υ,reduceIte,reduceCtorEq])
  have f7:F1 7=some (.osl q 1 0 n):=hF1 7 _ (by unfold fS; simp only[go_sem,γ,δ,ε,ζ,η,θ,ι,κ,μ,ν,ξ,ο,ρ,σ,τ,υ,reduceIte,reduceCtorEq])
  simp only[go_sem,γ,δ,ε,ζ,η,θ,ι,κ,μ,ν,ξ,ο,ρ,σ,τ,υ,reduceIte,reduceCtorEq,RT,f5,f7,h11]
  refine h2.append 0 (src:=[[.osl q 1 0 n]]) rfl Sq (by unfold roomFor; rw[bIM,k1]; simp only[bJC,maxLen]; omega) fun w' H' h3 hw=>?_
  obtain⟨q',rfl⟩:=hw (by simp)
  generalize hw':(PV.osl q' 1 0 (oK s.1++[[PV.osl q 1 0 n]]).length)=w' at *
  obtain⟨rs,z1,z2,z3,z4,z5⟩:=h3.frz 1 rfl
  have y1:=z4 0 _ (by decide) rfl
  simp only at y1
  have yf:PV.frz q 1 rs w'=w':=by rw[← hw'] at y1 ⊢; exact y1
  simp only[go_sem,γ,δ,ε,ζ,η,θ,ι,κ,μ,ν,ξ,ο,ρ,σ,τ,υ,reduceIte,reduceCtorEq,RU,f6,wZz i]
  refine amZ (i+1,w',H'.frz q 1 rs) z1 ⟨hlt,?_⟩ (by simp only; omega) ?_ PH.le_refl
  ·simp only
   rw[bGQ]
   have eB:([(o,bG l row.2)]:List BX).map (fun b=>(b.1,b.2.frz q 1 rs))=[(o,bG l row.2)]:=rfl
   have e5:(oK s.1++[[PV.osl q 1 0 n]]).map (fun r=>r.map (PV.dB q 1 rs))=oK (s.1++[row.1]):=by
    rw[bKJ,bmF]
    show oK s.1++[[PV.dB q 1 rs (.osl q 1 0 n)]]=_
    rw[z2]
    simp[oK]
   rw[← eB,← e5]
   exact z5
  ·(repeat' (first|exact PF.nil_le|refine PF.aI ?_ ?_))<;>first|(simp only[go_sem,γ,δ,ε,ζ,η,θ,ι,κ,μ,ν,ξ,ο,ρ,σ,τ,υ,reduceIte,reduceCtorEq,f0,f3,yf]<;>rfl)|rfl
 ·have bGP:¬ (i:Int)<(f.bGK.length:Nat):=by omega
  have:i=f.bGK.length:=by omega
  subst this
  simp only[go_sem,γ,δ,ε,ζ,η,θ,ι,κ,μ,ν,ξ,ο,ρ,σ,τ,υ,reduceIte,reduceCtorEq,bGP,RV]
  rcases hH.own 0 rfl with ⟨h1',rfl⟩ | ⟨q,rs,rfl,_⟩
  ·refine aW (vs:=[.aB]) (.inr rfl) (PH.nil.set o (bG l (cX l f a f.bGK.length).2)) Sq (PH.aI PH.nil_le (hH.at 0 rfl)) ?_
   rw[aX,hR]
   refine⟨?_,rfl⟩
   unfold lay
   rw[show (cX l f a f.bGK.length).1.map (fun r=>[ints r])=[] from h1']
   exact .nil 1
  ·obtain⟨rs,g1,g2,g3,-,g4⟩:=hH.frz 0 rfl
   refine ajF (vs:=[.osl q 1 0 (oK (cX l f a f.bGK.length).1).length]) (.inr rfl) Sq (.step g1 (.done (H2:=PH.nil.set o (bG l (cX l f a f.bGK.length).2)) ?_ (PH.aI PH.nil_le ?_)))
   ·rw[aX,g3,hR]
    exact⟨.refl _,rfl⟩
   ·have:=g4.at 0 rfl
    rw[this]
    rfl
section
variable {H:PH} {B:List BX} {L:List LI} {s:Nat} {rows:List (List PV)}
theorem aS.buH (h:aS H B L) {r:PV} {H':PH} (m:kI s rows r H') (ha:kG H .nil H'):aS (H.eN .nil H') B (L++[(r,s,rows)]):=by
 obtain⟨hO,hk⟩:=m.eN ha
 have h1:=h.qN s
 have e:(L++[(PV.aB,s,([]:List (List PV)))]).set L.length (r,s,rows)=L++[(r,s,rows)]:=by
  rw[bLY _ _ (bIO _),bLH]; rfl
 rw[← e]
 refine h1.yF L.length (v:=.aB) (s:=s) (rows:=[]) (by simp) hO (fun q hq=>.inr ?_) fun q hq _=>?_
 ·rcases m with ⟨-,rfl,-⟩ | ⟨p,rs,rfl,rfl,-⟩
  ·cases hq
  ·cases hq
   exact ha q (.rows s rs) (by rw[dM]) rfl
 ·obtain⟨x,hx⟩:=h1.CH hq
  rw[hx]; exact hk q x hx
theorem kI.some (s:Nat) (rows:List (List PV)) (G:PH):∃ r H',kI s rows r H'∧kG G .nil H':=by
 obtain⟨o,ho⟩:=G.fresh
 refine⟨.osl o s 0 rows.length,PH.nil.set o (.rows s rows),.inr ⟨o,rows,rfl,rfl,bIO _,bJN⟩,fun q x hx _=>?_⟩
 rw[bH] at hx
 split at hx
 ·rename_i e; rw[e]; exact ho
 ·cases hx
end

section
variable {C:Ctx} {F:PF} {H Hs:PH} {tn a a2:Nat} {raw:List Int} {R:Nat→PV→PH→Prop} {st:Bool} {args:List aP} {d:Option Nat} {K:PF→PH→Prop}
end
section
variable {C:Ctx} {F:PF} {H:PH} {B:List BX} {L:List LI} {args:List aP} {d:Option Nat} {K:PF→PH→Prop}
end
theorem a7K {f:aL} (hV:VF f) (room:List Int) {d:Nat} (hd:d<f.bGI.length):0≤qT f room d∧qT f room d≤ext f d∧1≤ext f d∧ext f d≤16:=by
 obtain⟨hm,he⟩:=hV.a4E hd
 have:=hV.model _ (bIR hm)
 rw[he] at this
 unfold qT
 split
 ·omega
 ·omega
theorem YM (l:List Int) (x:Int):∀ (xs:List Int) (a:Nat),eW l (xs++[x]) a=((eW l xs a).1++[(vO l x (eW l xs a).2).1],(vO l x (eW l xs a).2).2)
 | [],a=>rfl
 | y::ys,a=>by
  rw[List.cons_append,eW,YM l x ys]
  rfl
theorem auT (l:List Int):∀ (xs:List Int) (a:Nat),(eW l xs a).1.length=xs.length∧a≤(eW l xs a).2∧(eW l xs a).2≤a+2*xs.length
 | [],a=>⟨rfl,bIO _,bIO _⟩
 | x::xs,a=>by
  obtain⟨h1,h2,h3⟩:=auT l xs (vO l x a).2
  have h4:a≤(vO l x a).2∧(vO l x a).2≤a+2:=by
   unfold vO
   split
   ·simp
   ·split<;>simp
  rw[eW]
  simp only[bKH,h1,true_and]
  omega
theorem aS.store {H:PH} {B:List BX} {L:List LI} (h:aS H B L) (i:Nat) {q s n:Nat} {rows:List (List PV)} (hi:L[i]?=some (.osl q s 0 n,s,rows)) (k:Nat) (c:List PV) :
  ∃ rs,H q=some (.rows s rs)∧n≤rs.length∧rs.take n=rows∧aS (H.set q (.rows s (rs.set k c))) B (L.set i (.osl q s 0 n,s,rows.set k c)):=by
 obtain⟨rs,h1,h2,h3,h4⟩:=(h.own i hi).id rfl
 injection h2 with _ _ _ hn
 subst hn
 refine⟨rs,h1,h3,h4,h.yF i hi (.inr ⟨q,rs.set k c,by rw[bKI],by rw[dM],by rw[bKI,bKI]; exact h3,by rw[bKI,List.take_set,h4]⟩) (fun p hp=>.inl hp) fun p _ hp=>?_⟩
 have:p≠q:=hp q rfl
 rw[bH,if_neg this]
def atU (l:List Int) (o a:Nat) (f:aL) (r:PV) (H:PH):Prop:=Co r (ints (eW l (fF f []) a).1)∧H=PH.nil.set o (bG l (eW l (fF f []) a).2)
def tG (o:Nat) (q n i:Nat):PF:=(((PF.nil.set 0 (.ptr o 2 0 0)).set 5 (.osl q 1 0 n)).set 6 (.int .i64 i))
theorem a3X {C:Ctx} (Lb:BH C) {l:List Int} (T:TpM l) (o a:Nat) (ha:a≤10000) (f:aL) (hv:dS f=true) (hd0:1≤f.bGI.length)
  (hr:aD C 85 [.agg f.cells,ints []] .nil (kI 1 (bE (acS f [])))) :
  yY.wp C (aU KC.res (atU l o a f)) (PF.args [.ptr o 2 0 0,.agg f.cells]) (PH.nil.set o (bG l a)):=by
 have hV:=VF.of hv
 have hd24:=hV.small.bGI
 have hX:acS f []=fF f []:=by unfold acS; rw[hv]; rfl
 rw[hX] at hr
 have hXl:=NR f []
 have hXi:∀ i (h:i<(fF f []).length),0≤(fF f [])[i]∧(fF f [])[i]≤16:=fun i h=>by
  rw[aED]
  have:=a7K hV [] (Om:i<f.bGI.length)
  omega
 have hR:∀ r H,atU l o a f r H↔Co r (ints (eW l (fF f []) a).1)∧H=PH.nil.set o (bG l (eW l (fF f []) a).2):=fun _ _=>Iff.rfl
 generalize fF f []=X at *
 have h0:aS (PH.nil.set o (bG l a)) [(o,bG l a)] []:=aS.nil.new (H:=PH.nil) rfl (bG l a)
 simp only[go_sem,γ,δ,ε,ζ,η,θ,ι,κ,μ,ν,ξ,ο,ρ,σ,τ,υ,reduceIte,reduceCtorEq,yY,akZ,KC,alA]
 refine fD hr.aZK rfl PH.nil_le ?_
 intro r H' hm hap
 have h1:=h0.buH hm hap
 obtain⟨q,rfl⟩:=(h1.own 0 rfl).one (by rw[cZ]; omega)
 rw[cZ,hXl] at h1
 simp only[go_sem,γ,δ,ε,ζ,η,θ,ι,κ,μ,ν,ξ,ο,ρ,σ,τ,υ,reduceIte,reduceCtorEq,cZ,hXl,alB]
 generalize hn:f.bGI.length=n at *
 refine wp_loop (α:=Nat × PH) (fun s=>tG o q n s.1) (fun s=>s.2) (fun s=>s.1≤n∧aS s.2 [(o,bG l (eW l (X.take s.1) a).2)] [(.osl q 1 0 n,1,bE ((eW l (X.take s.1) a).1++X.drop s.1))]) (fun s=>n-s.1) (0,_) ⟨bIX _,h1⟩ ?_ PH.le_refl ?_
 ·unfold tG
  exact Lq
 rintro⟨i,H0⟩ ⟨hi,hH⟩
 simp only at hi hH ⊢
 obtain⟨k1,k2,k3⟩:=auT l (X.take i) a
 rw[bJF,bKO Om] at k1 k3
 simp only[go_sem,γ,δ,ε,ζ,η,θ,ι,κ,μ,ν,ξ,ο,ρ,σ,τ,υ,reduceIte,reduceCtorEq,ZV,alC,tG]
 by_cases hlt:i<n
 ·have bGP:(i:Int)<(n:Nat):=by omega
  have hiX:i<X.length:=by omega
  have hx:=hXi i hiX
  have bGQ:eW l (X.take (i+1)) a=((eW l (X.take i) a).1++[(vO l X[i] (eW l (X.take i) a).2).1],(vO l X[i] (eW l (X.take i) a).2).2):=by
   rw[bKK hiX,YM]
  have hdrop:X.drop i=X[i]::X.drop (i+1):=bKG hiX
  generalize eW l (X.take i) a=s at *
  have hcut:vO l X[i] s.2=if nxM l 9 s.2=0 then (0,s.2+1) else if nxM l 9 s.2=1 then (((nxM l (X[i]+1).toNat (s.2+1):Nat):Int),s.2+2) else (X[i],s.2+1):=rfl
  generalize X[i]=x at *
  simp only[go_sem,γ,δ,ε,ζ,η,θ,ι,κ,μ,ν,ξ,ο,ρ,σ,τ,υ,reduceIte,reduceCtorEq,bGP,alD]
  refine cE Lb.toCV T (o:=o) (n:=9) (a:=s.2) (by decide) Om rfl (hH.at 0 rfl) ?_
  have h2:=hH.set 0 rfl (bG l (s.2+1))
  have hY:∀ v:Int,(bE (s.1++X.drop i)).set i [.int .i64 v]=bE ((s.1++[v])++X.drop (i+1)):=fun v=>by
   rw[a4X,hdrop,bLY _ _ Om,k1,bLH,List.set_cons_zero,bJM]
   rfl
  have fin:∀ (y:Int) (b:Nat) (F':PF) (H':PH),vO l x s.2=(y,b)→(tG o q n i).le F'→aS H' [(o,bG l b)] [(.osl q 1 0 n,1,bE ((s.1++[y])++X.drop (i+1)))] →
    aC.wp C (.region KE) (eF (fun s:Nat × PH=>tG o q n s.1) (fun s=>s.2) (fun s=>s.1≤n∧aS s.2 [(o,bG l (eW l (X.take s.1) a).2)] [(.osl q 1 0 n,1,bE ((eW l (X.take s.1) a).1++X.drop s.1))]) (fun s=>n-s.1) (n-i) (dX 0 (iH C (aC.wp C ((aC.region EH).seq aC.ret)) (aU [dU.tmp 4] (atU l o a f))))) F' H':=by
   intro y b F' H' hy hF' hH'
   have g0:F' 0=some (.ptr o 2 0 0):=hF' 0 _ (by unfold tG; simp only[go_sem,γ,δ,ε,ζ,η,θ,ι,κ,μ,ν,ξ,ο,ρ,σ,τ,υ,reduceIte,reduceCtorEq])
   have g5:F' 5=some (.osl q 1 0 n):=hF' 5 _ (by unfold tG; simp only[go_sem,γ,δ,ε,ζ,η,θ,ι,κ,μ,ν,ξ,ο,ρ,σ,τ,υ,reduceIte,reduceCtorEq])
   have g6:F' 6=some (.int .i64 i):=hF' 6 _ (by unfold tG; simp only[go_sem,γ,δ,ε,ζ,η,θ,ι,κ,μ,ν,ξ,ο,ρ,σ,τ,υ,reduceIte,reduceCtorEq])
   simp only[go_sem,γ,δ,ε,ζ,η,θ,ι,κ,μ,ν,ξ,ο,ρ,σ,τ,υ,reduceIte,reduceCtorEq,KE,g6,wZz i]
   refine aK (i+1,H') ⟨hlt,?_⟩ (by simp only; omega) ?_ PH.le_refl
   ·simp only
    rw[bGQ,hy]
    exact hH'
   ·unfold tG
    exact Lq
  simp only[aC.wp,go_sem] at fin
  simp only[go_sem,γ,δ,ε,ζ,η,θ,ι,κ,μ,ν,ξ,ο,ρ,σ,τ,υ,reduceIte,reduceCtorEq]
  by_cases c0:nxM l 9 s.2=0
  ·rw[if_pos c0] at hcut
   obtain⟨rs,b1,b2,b3,h3⟩:=h2.store 0 rfl i [.int .i64 0]
   rw[hY] at h3
   have hil:i<rs.length:=by omega
   have hir:rs[i]?=some [.int .i64 x]:=by
    have:(rs.take n)[i]?=some [.int .i64 x]:=by
     rw[b3]
     unfold bE
     rw[bJQ,hdrop,bKT Om,k1,bLH]
     rfl
    rwa [bMA hlt] at this
   simp only[go_sem,γ,δ,ε,ζ,η,θ,ι,κ,μ,ν,ξ,ο,ρ,σ,τ,υ,reduceIte,reduceCtorEq,bS (Om:((nxM l 9 s.2:Nat):Int)=0),xI,alE,bGP,b1,hir,bJL]
   refine fin 0 (s.2+1) _ _ hcut ?_ h3
   unfold tG
   exact Lq
  by_cases c1:nxM l 9 s.2=1
  ·rw[if_neg c0,if_pos c1] at hcut
   obtain⟨xn,hxn⟩:∃ xn:Nat,x=xn:=⟨x.toNat,by omega⟩
   subst hxn
   rw[show ((xn:Int)+1).toNat=xn+1 by omega] at hcut
   obtain⟨rs,b1,b2,b3,-⟩:=h2.store 0 rfl i [.int .i64 0]
   have hir:rs[i]?=some [.int .i64 xn]:=by
    have:(rs.take n)[i]?=some [.int .i64 xn]:=by
     rw[b3]
     unfold bE
     rw[bJQ,hdrop,bKT Om,k1,bLH]
     rfl
    rwa [bMA hlt] at this
   have e1:IntKind.i64.wrap ((xn:Int)+1)=((xn+1:Nat):Int):=dE Om
   have h4:=h2.set 0 rfl (bG l (s.2+2))
   rw[PH.set_set] at h4
   obtain⟨rs2,d1,d2,d3,h5⟩:=h4.store 0 rfl i [.int .i64 (nxM l (xn+1) (s.2+1):Nat)]
   rw[hY] at h5
   have hir2:rs2[i]?=some [.int .i64 xn]:=by
    have:(rs2.take n)[i]?=some [.int .i64 xn]:=by
     rw[d3]
     unfold bE
     rw[bJQ,hdrop,bKT Om,k1,bLH]
     rfl
    rwa [bMA hlt] at this
   simp only[go_sem,γ,δ,ε,ζ,η,θ,ι,κ,μ,ν,ξ,ο,ρ,σ,τ,υ,reduceIte,reduceCtorEq,bF (Om:((nxM l 9 s.2:Nat):Int)≠0),bS (Om:((nxM l 9 s.2:Nat):Int)=1),xI,KD,alF,bGP,b1,hir,e1]
   refine cE Lb.toCV T (o:=o) (n:=xn+1) (a:=s.2+1) Om Om rfl (h2.at 0 rfl) ?_
   simp only[go_sem,γ,δ,ε,ζ,η,θ,ι,κ,μ,ν,ξ,ο,ρ,σ,τ,υ,reduceIte,reduceCtorEq,bGP,d1,hir2,bJL]
   refine fin _ (s.2+2) _ _ hcut ?_ h5
   unfold tG
   exact Lq
  ·rw[if_neg c0,if_neg c1] at hcut
   simp only[go_sem,γ,δ,ε,ζ,η,θ,ι,κ,μ,ν,ξ,ο,ρ,σ,τ,υ,reduceIte,reduceCtorEq,bF (Om:((nxM l 9 s.2:Nat):Int)≠0),bF (Om:((nxM l 9 s.2:Nat):Int)≠1),xI,KD]
   refine fin x (s.2+1) _ _ hcut ?_ ?_
   ·unfold tG
    exact Lq
   ·rw[bJM,List.singleton_append,← hdrop]
    exact h2
 ·have bGP:¬ (i:Int)<(n:Nat):=by omega
  have:i=n:=by omega
  subst this
  have et:X.take i=X:=bJD Om
  have ed:X.drop i=[]:=List.drop_eq_nil_of_le Om
  rw[et,ed,bKM] at hH
  simp only[go_sem,γ,δ,ε,ζ,η,θ,ι,κ,μ,ν,ξ,ο,ρ,σ,τ,υ,reduceIte,reduceCtorEq,bGP,EH]
  obtain⟨rs,g1,g2,g3,-,g4⟩:=hH.frz 0 rfl
  refine ajF (vs:=[.osl q 1 0 i]) (.inr rfl) rfl (.step g1 (.done (H2:=PH.nil.set o (bG l (eW l X a).2)) ?_ (PH.aI PH.nil_le ?_)))
  ·rw[aX,g3,hR]
   exact⟨.refl _,rfl⟩
  ·have:=g4.at 0 rfl
   rw[this]
   rfl
def abH:Rg:=[iI 4 0]
def abI:Rg:=[iM 6 1,iC 7 .lss 6 1]
def abJ:Rg:=[iI 4 0]
def abK:Rg:=[iM 8 0,iM 9 1,iB 10 .rem 8 9,iM 5 10]
def abL:Rg:=[iM 11 5,iC 12 .lss 11 0]
def abM:Rg:=[iM 13 5,iM 14 1,iB 15 .add 13 14,iM 4 15]
def abN:Rg:=[iM 16 5,iM 4 16]
def wE:aC:=(sq abH (.seq (sq abI (.cond (Tm 7) (sq abJ .ret) .skip)) (sq abK (.seq (sq abL (.cond (Tm 12) (sq abM .ret) .skip)) (sq abN .ret)))))
def aXV:List Nat:=[]
def BV:aV:=⟨2,17,wE,[.tmp 4]⟩
def aRS:Rg:=[iA 4 (.box false (Tm 1)),iA 6 (.alloc [(.int .i64 0),(.int .i64 0)]),iI 7 0]
def aRT:Rg:=[iF 10 1 4,iL 11 10,iC 12 .lss 11 0,iM 13 12,gF 14 1 4 13 false,gL 15 14 13 false,gM 16 0 13 false,gB 17 .geq 15 16 13 false,iQ 18 13 17]
def ajM:Rg:=[iA 19 (.build [(.int .i64 0),(.int .i64 0)] []),iS 2 6 19,iI 7 110]
def aRU:Rd:=[(iA 21 (.bIE (true,[.int .i64,.int .i64])),true),(iA 22 (.build [(.int .i64 0),(.int .i64 0)] [(0,1,(Ci 1)),(1,1,(Ci 1))]),true),(⟨none,.insert (true,[.int .i64,.int .i64]) (Tm 21) (Tm 22) (Ci 2),none⟩,true),(iA 23 (.build [(.int .i64 0),(.int .i64 0)] [(0,1,(Ci 2)),(1,1,(Ci 2))]),true),(⟨none,.insert (true,[.int .i64,.int .i64]) (Tm 21) (Tm 23) (Ci 3),none⟩,true),(iA 24 (.build [(.int .i64 0),(.int .i64 0)] [(0,1,(Ci 3)),(1,1,(Ci 3))]),true),(⟨none,.insert (true,[.int .i64,.int .i64]) (Tm 21) (Tm 24) (Ci 1),none⟩,true),(iA 25 (.build [(.int .i64 0),(.int .i64 0)] [(0,1,(Ci 3)),(1,1,(Ci 4))]),true),(⟨none,.insert (true,[.int .i64,.int .i64]) (Tm 21) (Tm 25) (Ci 5),none⟩,true),(iM 26 21,false),(iF 27 0 4,true),(iL 28 27,true),(iM 29 2,true),(iA 30 (.build [(.int .i64 0),(.int .i64 0)] [(0,1,(Tm 28)),(1,1,(Tm 29))]),true),(iA 31 (.lookup (true,[.int .i64,.int .i64]) (.int .i64 0) (Tm 26) (Tm 30) true),false),(iM 20 31,false),(iE 32 20 0,false),(iE 33 20 1,false),(iM 8 32,false),(iM 9 33,false)]
def pQ:Rg:=[iM 40 9,iA 41 (.un .not (Tm 40)),iM 39 41]
def pR:Rg:=[iA 42 (.build [(.int .i64 0),(.int .i64 0)] []),iS 2 6 42,iI 7 110]
def pS:Rg:=[iM 44 2,iC 45 .neq 44 3,iM 43 45]
def pT:Rg:=[iM 46 8,iF 47 0 4,iS 1 47 46]
def aRV:Rg:=[iF 49 1 4,iL 50 49,iM 51 0,iC 52 .sub 51 1,iB 53 .eql 50 52,iM 48 53]
def aRW:Rg:=[iF 54 0 4,⟨none,.store 1 (Tm 54) (Ci 4),none⟩]
def aFD:Rg:=[iM 34 8,iF 35 1 4,iL 36 35,iC 37 .add 36 1,iA 38 (.build [(.int .i64 0),(.int .i64 0)] [(0,1,(Tm 34)),(1,1,(Tm 37))]),iS 2 4 38]
def mZ:Rg:=[iO 55 2 4,iS 2 6 55,iI 7 0]
def OD:aC:=(sq aRS (.seq (sq aRT (.cond (Tm 18) (sq ajM .ret) .skip)) (dq aRU (.seq (.block 0 (sq pQ (.cond (Tm 39) (sq pR .ret) (sq pS (.cond (Tm 43) (.region pT) (sq aRV (.cond (Tm 48) (.region aRW) (.region aFD)))))))) (sq mZ .ret)))))
def bnX:List Nat:=[]
def step:aV:=⟨3,56,OD,[.cell 6 (some 2),.tmp 7]⟩
def aRD:Rg:=[iT 4 false]
def aRE:Rg:=[iM 6 0,iN 7 6,iM 8 1,iN 9 8,iB 10 .neq 7 9]
def aRF:Rg:=[iT 4 false]
def aRG:Rg:=[iI 5 0]
def aRH:Rg:=[iM 11 5,iM 12 0,iN 13 12,iB 14 .lss 11 13]
def aRI:Rd:=[(iM 17 0,false),(iM 18 5,false),(iX 19 1 17 18,false),(iL 20 19,false),(iM 21 1,false),(iM 22 5,false),(iX 23 1 21 22,false),(iL 24 23,false),(iB 25 .neq 20 24,false)]
def aRJ:Rg:=[iT 4 false]
def aRK:Rg:=[iM 15 5,iC 16 .add 15 1,iM 5 16]
def aRC:aC:=(.seq (sq aRH (.cond (Tm 14) .skip (.exit 0))) (.seq (.block 1 (dq aRI (.cond (Tm 25) (sq aRJ .ret) .skip))) (.region aRK)))
def aRL:Rg:=[iT 4 true]
def NU:aC:=(sq aRD (.seq (sq aRE (.cond (Tm 10) (sq aRF .ret) .skip)) (.seq (sq aRG (.block 0 (.loop aRC))) (sq aRL .ret))))
def bnN:List Nat:=[]
def same:aV:=⟨2,26,NU,[.tmp 4]⟩
def aTJ:Rg:=[iA 3 (.box true (Tm 1)),iZ 4]
def aTK:Rg:=[iF 7 0 3,iL 8 7,iC 9 .lss 8 1,iM 10 9,gF 11 0 3 10 false,gL 12 11 10 false,gC 13 .gtr 12 5 10 false,iQ 14 10 13,iM 15 14,gF 16 1 3 15 false,gL 17 16 15 false,gC 18 .lss 17 0 15 false,iQ 19 15 18]
def RB:Rg:=[iZ 4]
def RC:Rg:=[iF 20 1 3,iL 21 20,iM 22 0,iN 23 22,iA 24 (.bHJ false (Tm 21) (Tm 23)),iM 5 24]
def RD:Rg:=[iM 25 5,iM 26 0,iN 27 26,iB 28 .lss 25 27,iM 29 28,gF 30 0 3 29 true,gL 31 30 29 true,gC 32 .eql 31 3 29 true,gM 33 32 29 true,gF 34 0 3 33 false,gL 35 34 33 false,gC 36 .eql 35 4 33 false,iG 37 (.pick (Tm 33) (.const (.bool true)) (Tm 36)) 29 true,iP 38 29 37]
def ajR:Rg:=[iM 39 5,iC 40 .add 39 1,iM 5 40]
def ajS:Rg:=[iM 41 0,iM 42 5,iA 43 (.slice 1 (Tm 41) none (some (Tm 42)) none),iK 44 178 43,iM 6 44]
def RE:Rg:=[iM 45 6,iK 46 180 45]
def RG:Rg:=[iM 47 6,iK 48 177 47,iM 4 48]
def OS:aC:=(sq aTJ (.seq (sq aTK (.cond (Tm 19) (sq RB .ret) .skip)) (sq RC (.seq (sq RD (.cond (Tm 38) (.region ajR) .skip)) (sq ajS (sq RE (sq RG .ret)))))))
def boL:List Nat:=[3]
def aGV:aV:=⟨2,49,OS,[.tmp 4]⟩
def auL:Rg:=[iA 2 (.alloc [(.int .i64 0),(.int .i64 0)])]
def auM:Rg:=[iM 3 0,iC 4 .lss 3 1]
def auN:Rg:=[iA 5 (.build [(.int .i64 0),(.int .i64 0)] [(0,1,(Ci 4))]),iS 2 2 5]
def auO:Rg:=[iA 6 (.build [(.int .i64 0),(.int .i64 0)] [(0,1,(Ci 1))]),iS 2 2 6]
def CZ:aC:=(sq auL (.seq (sq auM (.cond (Tm 4) (sq auN .ret) .skip)) (sq auO .ret)))
def bcG:List Nat:=[]
def begin:aV:=⟨1,7,CZ,[.cell 2 (some 2)]⟩
def akF:Rg:=[iZ 2]
def akG:Rg:=[iI 3 0]
def akH:Rg:=[iM 9 0,iN 10 9,iI 11 0]
def akI:Rg:=[iB 12 .lss 11 10]
def akJ:Rg:=[iX 13 1 9 11,iL 14 13,iM 5 14]
def akK:Rg:=[iM 15 3,iM 16 5,iN 17 16,iB 18 .add 15 17,iM 3 18]
def akL:Rg:=[iM 19 3,iC 20 .lss 19 0]
def a3O:Rg:=[iA 21 .stuck,⟨none,.stuck,none⟩]
def akM:Rg:=[iC 22 .add 11 1,iM 11 22]
def akE:aC:=(sq akI (.seq (.cond (Tm 12) .skip (.exit 0)) (.seq (.block 1 (sq akJ (sq akK (sq akL (.cond (Tm 20) (.region a3O) .skip))))) (.region akM))))
def YK:Rg:=[iM 23 3,iA 24 (.call 179 [(.const .aB),(Tm 23)]),iM 6 24]
def DD:Rg:=[iM 25 0,iN 26 25,iI 27 0]
def DE:Rg:=[iB 28 .lss 27 26]
def DF:Rg:=[iX 29 1 25 27,iL 30 29,iM 8 30]
def DG:Rg:=[iM 31 6,iM 32 8,iA 33 (.append 1 8 (Tm 31) (Tm 32)),iM 6 33]
def tP:Rg:=[iC 34 .add 27 1,iM 27 34]
def DC:aC:=(sq DE (.seq (.cond (Tm 28) .skip (.exit 2)) (.seq (.block 3 (sq DF (.region DG))) (.region tP))))
def tQ:Rg:=[iM 35 6,iM 2 35]
def yQ:aC:=(sq akF (sq akG (.seq (sq akH (.block 0 (.loop akE))) (sq YK (.seq (sq DD (.block 2 (.loop DC))) (sq tQ .ret))))))
def a3P:List Nat:=[]
def concat:aV:=⟨1,36,yQ,[.tmp 2]⟩
def auE:Rg:=[iT 0 false]
def auF:Rg:=[iA 10 (.call 144 [(Ci 1)]),iA 1 (.alloc [(.int .i64 0),(.int .i64 0)]),iS 2 1 10]
def auG:Rg:=[iO 12 2 1,iA 13 (.call 145 [(Ci 1),(Tm 12),(Ci 1)]),iM 11 13,iE 14 11 0,iE 15 11 1,iA 2 (.alloc [(.int .i64 0),(.int .i64 0)]),iS 2 2 14,iM 3 15]
def auH:Rg:=[iO 17 2 2,iA 18 (.call 145 [(Ci 1),(Tm 17),(Ci 2)]),iM 16 18,iE 19 16 0,iE 20 16 1,iA 4 (.alloc [(.int .i64 0),(.int .i64 0)]),iS 2 4 19,iM 5 20]
def auI:Rg:=[iO 22 2 4,iA 23 (.call 145 [(Ci 1),(Tm 22),(Ci 3)]),iM 21 23,iE 24 21 0,iE 25 21 1,iA 6 (.alloc [(.int .i64 0),(.int .i64 0)]),iS 2 6 24,iM 7 25]
def auJ:Rg:=[iO 27 2 6,iA 28 (.call 145 [(Ci 1),(Tm 27),(Ci 1)]),iM 26 28,iE 29 26 0,iE 30 26 1,iA 8 (.alloc [(.int .i64 0),(.int .i64 0)]),iS 2 8 29,iM 9 30]
def auK:Rg:=[iO 31 2 1,iA 32 (.build [(.int .i64 0),(.int .i64 0)] [(0,1,(Ci 1))]),iA 33 (.eqs false [.int,.int] (Tm 31) (Tm 32)),iM 34 33,gM 35 3 34 true,gC 36 .eql 35 0 34 true,iP 37 34 36,iM 38 37,gM 39 5 38 true,gC 40 .eql 39 0 38 true,iP 41 38 40,iM 42 41,gM 43 7 42 true,gC 44 .eql 43 0 42 true,iP 45 42 44,iM 46 45,gM 47 9 46 true,gC 48 .eql 47 110 46 true,iP 49 46 48,iM 50 49,gO 51 2 6 50 true,iG 52 (.build [(.int .i64 0),(.int .i64 0)] [(0,1,(Ci 4))]) 50 true,iG 53 (.eqs false [.int,.int] (Tm 51) (Tm 52)) 50 true,iP 54 50 53,iM 55 54,iG 56 (.bGO true 1 2 [(.int .i64 0)] [(0,(Ci 2)),(1,(Ci 1))]) 55 true,iG 57 (.bGO true 1 1 [.aB] [(0,(Tm 56))]) 55 true,gO 58 2 6 55 true,gK2 59 146 57 58 55 true,iG 60 (.bGO true 1 2 [(.int .i64 0)] [(0,(Ci 1)),(1,(Ci 2))]) 55 true,gK2 61 91 59 60 55 true,iP 62 55 61,iM 63 62,iG 64 (.call 144 [(Ci 0)]) 63 true,iG 65 (.build [(.int .i64 0),(.int .i64 0)] [(0,1,(Ci 4))]) 63 true,iG 66 (.eqs false [.int,.int] (Tm 64) (Tm 65)) 63 true,iP 67 63 66,iM 0 67]
def CX:aC:=(sq auE (sq auF (sq auG (sq auH (sq auI (sq auJ (sq auK .ret)))))))
def bcE:List Nat:=[56,57,60]
def YB:aV:=⟨0,68,CX,[.tmp 0]⟩
def bqE:Rg:=[iA 5 (.box true (Tm 1)),iT 8 false]
def bqF:Rg:=[iM 20 3,iN 21 20,iC 22 .gtr 21 20]
def bqG:Rg:=[iA 23 (.call 26 []),iM 8 23]
def bqH:Rg:=[iI 9 0]
def bqI:Rg:=[iM 24 9,iM 25 3,iN 26 25,iB 27 .lss 24 26]
def bqJ:Rg:=[iM 30 3,iM 31 9,iX 32 1 30 31,iL 33 32,iN 34 33,iC 35 .gtr 34 20]
def bqK:Rg:=[iA 36 (.call 26 []),iM 8 36]
def bqL:Rg:=[iM 28 9,iC 29 .add 28 1,iM 9 29]
def bqD:aC:=(.seq (sq bqI (.cond (Tm 27) .skip (.exit 0))) (.seq (.block 1 (sq bqJ (.cond (Tm 35) (sq bqK .ret) .skip))) (.region bqL)))
def bqM:Rg:=[iM 37 0,iA 38 (.call 24 [(Tm 37),(Ci 5)]),iM 10 38]
def blX:Rd:=[(iF 39 0 5,false),(iL 40 39,false),(iA 41 (.call 24 [(Tm 40),(Ci 5)]),true),(iA 42 (.bin .add (Ci 1) (Tm 41)),true),(iF 43 1 5,true),(iL 44 43,true),(iA 45 (.call 24 [(Tm 44),(Ci 5)]),true),(iA 46 (.build [(.int .i64 0),(.int .i64 0)] [(0,1,(Tm 42)),(1,1,(Tm 45))]),false),(iA 11 (.alloc [(.int .i64 0),(.int .i64 0)]),true),(iS 2 11 46,true)]
def blY:Rg:=[iM 48 0,iO 49 2 5,iM 50 2,iA 51 (.call 145 [(Tm 48),(Tm 49),(Tm 50)]),iM 47 51,iE 52 47 0,iE 53 47 1,iA 12 (.alloc [(.int .i64 0),(.int .i64 0)]),iS 2 12 52,iM 13 53]
def blZ:Rg:=[iM 55 0,iO 56 2 5,iM 57 2,iA 58 (.call 92 [(Tm 55),(Tm 56),(Tm 57)]),iM 54 58,iE 59 54 0,iE 60 54 1,iA 14 (.alloc [(.int .i64 0),(.int .i64 0)]),iS 2 14 59,iM 15 60]
def bmA:Rd:=[(iM 62 10,true),(iO 63 2 11,true),(iM 64 2,false),(iA 65 (.call 24 [(Tm 64),(Ci 4)]),true),(iA 66 (.bin .add (Ci 1) (Tm 65)),false),(iA 67 (.call 145 [(Tm 62),(Tm 63),(Tm 66)]),true),(iM 61 67,false),(iE 68 61 0,false),(iE 69 61 1,true),(iA 16 (.alloc [(.int .i64 0),(.int .i64 0)]),true),(iS 2 16 68,true),(iM 17 69,false)]
def bmB:Rd:=[(iM 71 10,true),(iO 72 2 11,true),(iM 73 2,false),(iA 74 (.call 24 [(Tm 73),(Ci 4)]),true),(iA 75 (.bin .add (Ci 1) (Tm 74)),false),(iA 76 (.call 92 [(Tm 71),(Tm 72),(Tm 75)]),true),(iM 70 76,false),(iE 77 70 0,false),(iE 78 70 1,true),(iA 18 (.alloc [(.int .i64 0),(.int .i64 0)]),true),(iS 2 18 77,true),(iM 19 78,false)]
def bmC:Rd:=[(iA 79 (.call 26 []),true),(iM 80 79,false),(gO 81 2 12 80 true,false),(gO 82 2 14 80 true,false),(iG 83 (.eqs false [.int,.int] (Tm 81) (Tm 82)) 80 true,false),(iP 84 80 83,false),(iM 85 84,false),(gM 86 13 85 true,false),(gM 87 15 85 true,false),(gB 88 .eql 86 87 85 true,false),(iP 89 85 88,false),(iM 90 89,false),(gO 91 2 16 90 true,false),(gO 92 2 18 90 true,false),(iG 93 (.eqs false [.int,.int] (Tm 91) (Tm 92)) 90 true,false),(iP 94 90 93,false),(iM 95 94,false),(gM 96 17 95 true,false),(gM 97 19 95 true,false),(gB 98 .eql 96 97 95 true,false),(iP 99 95 98,false),(iM 100 99,false),(gM 101 3 100 true,false),(gO 102 2 5 100 true,false),(gK2 103 146 101 102 100 true,true),(gM 104 3 100 true,true),(gO 105 2 5 100 true,true),(gK2 106 93 104 105 100 true,true),(gK2 107 91 103 106 100 true,true),(iP 108 100 107,false),(iM 109 108,false),(gM 110 3 109 true,false),(gO 111 2 11 109 true,false),(gK2 112 146 110 111 109 true,true),(gM 113 3 109 true,true),(gO 114 2 11 109 true,true),(gK2 115 93 113 114 109 true,true),(gK2 116 91 112 115 109 true,true),(iP 117 109 116,false),(iM 8 117,false)]
def beJ:aC:=(sq bqE (.seq (sq bqF (.cond (Tm 22) (sq bqG .ret) .skip)) (.seq (sq bqH (.block 0 (.loop bqD))) (sq bqM (dq blX (sq blY (sq blZ (dq bmA (dq bmB (dq bmC .ret))))))))))
def law:aV:=⟨4,118,beJ,[.tmp 8]⟩
open Go Go.RowKit Go.Sort Go.Shelf Go.Proofs
section
variable {E:Env} {H:PH} {w:World}
theorem bN.YC (hW:bN E H w) {w':World} (hs:w.heap.size≤w'.heap.size) (hb:∀ b,b<w.heap.size→w'.heap[b]?=w.heap[b]?):bN E H w':=by
 refine⟨fun b cs h=>?_,fun o x h=>?_,fun o n h=>?_⟩
 ·obtain⟨h1,ty,fr,h2⟩:=hW.g b cs h
  exact⟨h1,ty,fr,(hb b (bLT.1 h2).1).trans h2⟩
 ·obtain⟨h1,h2⟩:=hW.h o x h
  exact⟨Nat.lt_of_lt_of_le h1 hs,h2.mono (.refl E) (hb o h1)⟩
 ·obtain⟨cur,ty,fr,h1,h2⟩:=hW.s o n h
  exact⟨cur,ty,fr,(hb o (bLT.1 h1).1).trans h1,h2⟩
theorem Ext.YC {E':Env} {H':PH} {w1 w2:World} (h:Ext E H w E' H' w1) (ho:w2.os=w1.os) (ht:w2.tape=w1.tape) (hp:w2.output=w1.output) (hs:w1.heap.size≤w2.heap.size)
  (hb:∀ b,b<w1.heap.size→w2.heap[b]?=w1.heap[b]?):Ext E H w E' H' w2 :=
 ⟨h.env,ho.trans h.os,ht.trans h.tape,hp.trans h.output,Nat.le_trans h.size hs,fun b hlt hn=>(hb b (Nat.lt_of_lt_of_le hlt h.size)).trans (h.block b hlt hn),h.new,h.newG⟩
theorem aaZ (hW:bN E H w) {o off:Nat} {rs:List (List PV)} {xs:List Int} (ho:H o=some (.rows 1 rs)) (hx:(rs.drop off).take xs.length=bE xs):Holds (Value.int .i64) w o off xs.toArray:=by
 obtain⟨-,cur,ty,h1,h2,h3,h4,h5⟩:=hW.h o _ ho
 intro j hj
 have hj':j<xs.length:=by simpa using hj
 have hat:at2 rs (off+j) 0=some (.int .i64 xs[j]):=by
  have e:((rs.drop off).take xs.length)[j]?=(bE xs)[j]?:=by rw[hx]
  rw[bMA hj',bLW] at e
  unfold at2
  rw[e]
  simp[bE,hj']
 obtain⟨u,e1,e2,e3⟩:=h5 _ 0 _ hat
 cases e3
 have e4:xs.toArray[j]! = xs[j]:=by simp[hj']
 refine⟨?_,?_⟩
 ·simp only[World.cell?,h1,Option.isSome_none,bLL,if_false]
  rw[e4]
  simpa using e1
 ·simp[World.frozen?,h1]
theorem aQN (hW:bN E H w) {o:Nat} {xs ys:List Int} (ho:H o=some (.rows 1 (bE xs))) (hl:ys.length=xs.length) (n:Nat) (os:Array Obj) :
  bN E (H.set o (.rows 1 (bE ys))) (grow (putRow (Value.int .i64) (Sort.ahead w n) o 0 ys.toArray) os)∧Ext E H w E (H.set o (.rows 1 (bE ys))) (grow (putRow (Value.int .i64) (Sort.ahead w n) o 0 ys.toArray) os):=by
 obtain⟨-,cur,ty,h1,h2,h3,h4,h5⟩:=hW.h o _ ho
 have hlen:xs.length≤cur.size:=by simpa [bE] using h4
 have hR:iU E 1 (bE ys) (putCells (Value.int .i64) 0 ys.toArray cur):=by
  refine⟨fun r hr=>?_,?_,fun i j pv hp=>?_⟩
  ·unfold bE at hr
   rw[bJT] at hr
   obtain⟨n,-,rfl⟩:=hr
   rfl
  ·simp[bE,putCells]; omega
  ·unfold at2 bE at hp
   rw[bJQ,bLN] at hp
   obtain⟨r,hr,hp⟩:=hp
   rw[bIT] at hr
   obtain⟨m,hm,rfl⟩:=hr
   have hi:=(bJX.1 hm).1
   cases j with
   | succ j=>simp at hp
   | zero =>
    simp at hp
    subst hp
    refine⟨.int .i64 m,?_,rfl,.int _ _⟩
    have hc:i<cur.size:=by omega
    simp only[Nat.mul_one,bKD,putCells,Array.getElem?_mapIdx,bLO hc,bJW,bIX,true_and,bJL,Nat.sub_zero,List.size_toArray]
    rw[if_pos hi]
    have:ys.toArray[i]! = m:=by
     obtain⟨h,e⟩:=bJX.1 hm
     simp[h,e]
    rw[this]
 obtain⟨k1,k2⟩:=hW.ajK ho h1 (by simp[putCells]) hR
 have hheap:∀ b,b<(w.setRow o (putCells (Value.int .i64) 0 ys.toArray cur)).heap.size→(grow (putRow (Value.int .i64) (Sort.ahead w n) o 0 ys.toArray) os).heap[b]?=(w.setRow o (putCells (Value.int .i64) 0 ys.toArray cur)).heap[b]?:=by
  intro b hb
  have hb':b<w.heap.size:=by simpa [World.setRow] using hb
  have e1:(grow (putRow (Value.int .i64) (Sort.ahead w n) o 0 ys.toArray) os).heap[b]?=(putRow (Value.int .i64) (Sort.ahead w n) o 0 ys.toArray).heap[b]?:=by
   unfold grow
   exact Array.getElem?_append_left (by simpa using hb')
  rw[e1]
  simp only[putRow,mapBlock,World.setRow,Array.getElem?_modify,heap_ahead]
  by_cases e:o=b
  ·subst e
   simp[h1,onCells]
  ·simp[e]
 have hsize:(w.setRow o (putCells (Value.int .i64) 0 ys.toArray cur)).heap.size≤(grow (putRow (Value.int .i64) (Sort.ahead w n) o 0 ys.toArray) os).heap.size:=by
  simp[World.setRow]
 exact⟨k1.YC hsize hheap,k2.YC rfl rfl rfl hsize hheap⟩
end
section
variable {C:Ctx} {ρ:Ren} {name:Nat}
def sorted (xs:List Int):List Int:=xs.mergeSort fun x y=>decide (x≤y)
theorem aZO (L:Lays.n189 C.P ρ) (hn:C.num name=ρ.f 189) (hf:∃ fn,C.P.funcs[C.num name]?=some fn∧fn.body.isSome=true∧(fn.name=="runtime.NumGoroutine")=false) (o:Nat) (xs:List Int) (hx:xs≠[]) (hl:xs.length<4611686018427387904) :
  aD C name [.osl o 1 0 xs.length] (PH.nil.set o (.rows 1 (bE xs))) (fun r H'=>r=.tup []∧H'=PH.nil.set o (.rows 1 (bE (sorted xs)))):=by
 refine⟨hf,fun E w vs hN hW hvs=>?_⟩
 have ho:(PH.nil.set o (.rows 1 (bE xs))) o=some (.rows 1 (bE xs)):=by simp[bW]
 obtain⟨vl⟩:=vs
 cases hvs with
 | cons h1 h2 =>
 cases h2
 cases h1 with
 | @osl _ _ _ _ cap n a hb hsp bII hlen bID hs bHO =>
 have hcap:cap≠0:=by
  intro e; subst e
  exact hx (bLZ Om)
 have ha:a=⟨o,0,none⟩:=by
  obtain⟨b,off,sp⟩:=a
  simp only at hb hsp bII
  subst hb; subst hsp
  rcases bII with h | h
  ·exact (hcap h).elim
  ·simp at h; subst h; rfl
 subst ha
 rw[hn]
 have hH:=aaZ hW (off:=0) (xs:=xs) ho (by rw[bJO]; exact bJD (by simp[bE]))
 refine (Any.slices_Sort_int L o 0 cap xs w hH (hW.h o _ ho).1 hl).mono fun e w' he=>?_
 obtain⟨rfl,n,os,rfl⟩:=he
 obtain⟨k1,k2⟩:=aQN hW ho (ys:=sorted xs) (by simp[sorted]) n os
 rw[show (PH.nil.set o (.rows 1 (bE xs))).set o (.rows 1 (bE (sorted xs)))=PH.nil.set o (.rows 1 (bE (sorted xs))) from PH.ext fun q=>by simp only[bW]; split<;>rfl] at k1 k2
 exact⟨_,.tup [],E,_,rfl,k1,.tup #[] rfl (by simp),k2,rfl,rfl⟩
theorem aKS (L:Lays.n189 C.P ρ) (hn:C.num name=ρ.f 189) (hf:∃ fn,C.P.funcs[C.num name]?=some fn∧fn.body.isSome=true∧(fn.name=="runtime.NumGoroutine")=false) (v:PV) (H:PH)
  (hv:v=.aB∨∃ o off,v=.osl o 1 off 0):aD C name [v] H (fun r H'=>r=.tup []∧H'=H):=by
 refine⟨hf,fun E w vs hN hW hvs=>?_⟩
 obtain⟨vl⟩:=vs
 cases hvs with
 | cons h1 h2 =>
 cases h2
 rename_i u
 have:∃ p cap,u=.slice p 0 cap:=by
  rcases hv with rfl | ⟨o,off,rfl⟩
  ·cases h1; exact⟨none,0,rfl⟩
  ·cases h1; exact⟨_,_,rfl⟩
 obtain⟨p,cap,rfl⟩:=this
 rw[hn]
 refine (Any.slices_Sort_int_none L p cap w).mono fun e w' he=>?_
 obtain⟨rfl,rfl⟩:=he
 exact⟨_,.tup [],E,_,rfl,hW,.tup #[] rfl (by simp),.refl _ _ _,rfl,rfl⟩
theorem asO (L:Lays2.n20 C.P ρ) (hn:C.num name=ρ.f 20) (hf:∃ fn,C.P.funcs[C.num name]?=some fn∧fn.body.isSome=true∧(fn.name=="runtime.NumGoroutine")=false) (o:Nat) (xs:List Int) (hx:xs≠[]) (hl:xs.length<4611686018427387904) :
  aD C name [.osl o 1 0 xs.length] (PH.nil.set o (.rows 1 (bE xs))) (fun r H'=>r=.osl o 1 0 (Lib.compact xs).length∧H'=PH.nil.set o (.rows 1 (bE (Lib.compact xs++bIP (xs.length-(Lib.compact xs).length) 0)))):=by
 refine⟨hf,fun E w vs hN hW hvs=>?_⟩
 have ho:(PH.nil.set o (.rows 1 (bE xs))) o=some (.rows 1 (bE xs)):=by simp[bW]
 obtain⟨vl⟩:=vs
 cases hvs with
 | cons h1 h2 =>
 cases h2
 cases h1 with
 | @osl _ _ _ _ cap n a hb hsp bII hlen bID hs bHO =>
 have hcap:cap≠0:=by
  intro e; subst e
  exact hx (bLZ Om)
 have ha:a=⟨o,0,none⟩:=by
  obtain⟨b,off,sp⟩:=a
  simp only at hb hsp bII
  subst hb; subst hsp
  rcases bII with h | h
  ·exact (hcap h).elim
  ·simp at h; subst h; rfl
 subst ha
 rw[hn]
 have hH:=aaZ hW (off:=0) (xs:=xs) ho (by rw[bJO]; exact bJD (by simp[bE]))
 have hle:(Lib.compact xs).length≤xs.length:=by
  unfold Lib.compact Lib.compactUpTo
  have:=List.length_filter_le (Lib.keeps xs.toArray) (bIN xs.length)
  simpa using this
 refine (Any.slices_Compact_int L o 0 cap xs w hH Om hlen).mono fun e w' he=>?_
 obtain⟨rfl,n,rfl⟩:=he
 have key:=aQN hW ho (ys:=Lib.compact xs++bIP (xs.length-(Lib.compact xs).length) 0) (by simp; omega) n #[]
 rw[grow_empty] at key
 obtain⟨k1,k2⟩:=key
 rw[show ∀ z,(PH.nil.set o (.rows 1 (bE xs))).set o (.rows 1 z)=PH.nil.set o (.rows 1 z) from fun z=>PH.ext fun q=>by simp only[bW]; split<;>rfl] at k1 k2
 exact⟨_,.osl o 1 0 _,E,_,rfl,k1,.osl rfl rfl (.inr (by simp)) Om bID hs bHO,k2,rfl,rfl⟩
theorem ahO (L:Lays2.n20 C.P ρ) (hn:C.num name=ρ.f 20) (hf:∃ fn,C.P.funcs[C.num name]?=some fn∧fn.body.isSome=true∧(fn.name=="runtime.NumGoroutine")=false) (v:PV) (H:PH)
  (hv:v=.aB∨∃ o off,v=.osl o 1 off 0):aD C name [v] H (fun r H'=>r=v∧H'=H):=by
 refine⟨hf,fun E w vs hN hW hvs=>?_⟩
 obtain⟨vl⟩:=vs
 cases hvs with
 | cons h1 h2 =>
 cases h2
 rename_i u
 have:∃ p cap,u=.slice p 0 cap:=by
  rcases hv with rfl | ⟨o,off,rfl⟩
  ·cases h1; exact⟨none,0,rfl⟩
  ·cases h1; exact⟨_,_,rfl⟩
 obtain⟨p,cap,rfl⟩:=this
 rw[hn]
 refine (Any.slices_Compact_int_empty L p cap w).mono fun e w' he=>?_
 obtain⟨rfl,rfl⟩:=he
 exact⟨_,v,E,_,rfl,hW,h1,.refl _ _ _,rfl,rfl⟩
end
abbrev lists (ws:List (List Int)):PV:=.sl 1 (ws.map fun w=>[ints w])
def ahE (xs:List Int) (r:PV) (H:PH):Prop:=(xs=[]∧r=.aB∧H=.nil)∨(xs≠[]∧∃ o,r=.osl o 1 0 xs.length∧H=PH.nil.set o (.rows 1 (bE xs)))
def bjC (n:Int) (r:PV) (H:PH):Prop:=(n=0∧r=.aB∧H=.nil)∨(0<n∧∃ o,r=.osl o 1 0 0∧H=PH.nil.set o (.rows 1 []))
def aWC (ws:List (List Int)) (i:Nat):PF:=((((((PF.nil.set 0 (lists ws)).set 2 (.aB)).set 3 (.int .i64 ((ws.take i).flatten.length:Nat))).set 9 (lists ws)).set 10 (.int .i64 (ws.length:Nat))).set 11 (.int .i64 i))
def DA (ws:List (List Int)) (v:PV) (i:Nat):PF:=(((((PF.nil.set 2 (.aB)).set 6 (v)).set 25 (lists ws)).set 26 (.int .i64 (ws.length:Nat))).set 27 (.int .i64 i))
theorem alL (ws:List (List Int)) {i:Nat} (h:i<ws.length):(ws.take (i+1)).flatten=(ws.take i).flatten++ws[i]:=by
 rw[bKK h,List.flatten_append]; simp
theorem QM (ws:List (List Int)) (i:Nat):(ws.take i).flatten.length≤ws.flatten.length:=by
 conv=>rhs; rw[← bKZ i ws,List.flatten_append,bIU]
 omega
theorem a3N {C:Ctx} (ws:List (List Int)) (h1:ws.length≤1000000) (h2:ws.flatten.length≤1000000) (hg:∀ n:Int,0≤n→n≤1000000→aD C 179 [.aB,.int .i64 n] .nil (bjC n)) :
  yQ.wp C (aU concat.res (ahE ws.flatten)) (PF.args [lists ws]) .nil:=by
 simp only[go_sem,γ,δ,ε,ζ,η,θ,ι,κ,μ,ν,ξ,ο,ρ,σ,τ,υ,reduceIte,reduceCtorEq,yQ,akF,akG,akH,lists,concat]
 refine wp_loop (α:=Nat) (aWC ws) (fun _=>.nil) (fun i=>i≤ws.length) (fun i=>ws.length-i) 0 Om ?_ PH.nil_le ?_
 ·unfold aWC
  exact Lq
 intro i hi
 simp only[go_sem,γ,δ,ε,ζ,η,θ,ι,κ,μ,ν,ξ,ο,ρ,σ,τ,υ,reduceIte,reduceCtorEq,akE,akI,aWC]
 refine kO (fun h=>?_) (fun h=>?_)
 ·have hlt:i<ws.length:=by simpa using h
  have hx:(ws.map fun w=>[ints w])[i]?=some [ints ws[i]]:=by simp[hlt]
  have hf:=alL ws hlt
  have hle:=QM ws (i+1)
  have hlen:(ws.take (i+1)).flatten.length=(ws.take i).flatten.length+ws[i].length:=by rw[hf,bIU]
  have hw:IntKind.i64.wrap (((ws.take i).flatten.length:Nat)+(ws[i].length:Int))=((ws.take (i+1)).flatten.length:Nat):=by
   rw[hlen]
   rw[show (((ws.take i).flatten.length:Nat):Int)+(ws[i].length:Int)=(((ws.take i).flatten.length+ws[i].length:Nat):Int) by omega]
   exact xB Om
  have hn:¬ (((ws.take (i+1)).flatten.length:Nat):Int)<0:=by omega
  simp only[go_sem,γ,δ,ε,ζ,η,θ,ι,κ,μ,ν,ξ,ο,ρ,σ,τ,υ,reduceIte,reduceCtorEq,akJ,akK,hx,hw,akL,hn,akM]
  refine aK (i+1) Om Om ?_ PH.nil_le
  unfold aWC
  (repeat' (first|exact PF.nil_le|refine PF.aI ?_ ?_))<;>first|(simp only[go_sem,γ,δ,ε,ζ,η,θ,ι,κ,μ,ν,ξ,ο,ρ,σ,τ,υ,reduceIte,reduceCtorEq,wZz i]<;>rfl)|rfl
 ·have he:i=ws.length:=by simp at h; omega
  subst he
  have ht:(ws.take ws.length).flatten=ws.flatten:=by rw[bJN]
  simp only[go_sem,γ,δ,ε,ζ,η,θ,ι,κ,μ,ν,ξ,ο,ρ,σ,τ,υ,reduceIte,reduceCtorEq,YK,ht]
  refine fD (hg (ws.flatten.length:Nat) Om Om) Ev PH.nil_le ?_
  intro r H' hr ha
  rcases hr with ⟨hn,rfl,rfl⟩ | ⟨hn,o,rfl,rfl⟩
  ·have h0:ws.flatten=[]:=bLZ Om
   rw[PH.kS]
   simp only[go_sem,γ,δ,ε,ζ,η,θ,ι,κ,μ,ν,ξ,ο,ρ,σ,τ,υ,reduceIte,reduceCtorEq,DD]
   refine wp_loop (α:=Nat) (DA ws .aB) (fun _=>.nil) (fun i=>i≤ws.length) (fun i=>ws.length-i) 0 Om ?_ PH.nil_le ?_
   ·unfold DA
    exact Lq
   intro i hi
   simp only[go_sem,γ,δ,ε,ζ,η,θ,ι,κ,μ,ν,ξ,ο,ρ,σ,τ,υ,reduceIte,reduceCtorEq,DC,DE,DA]
   refine kO (fun h=>?_) (fun h=>?_)
   ·have hlt:i<ws.length:=by simpa using h
    have hx:(ws.map fun w=>[ints w])[i]?=some [ints ws[i]]:=by simp[hlt]
    have he:ws[i]=[]:=by
     rw[List.flatten_eq_nil_iff] at h0
     exact h0 _ (bIR _)
    simp only[go_sem,γ,δ,ε,ζ,η,θ,ι,κ,μ,ν,ξ,ο,ρ,σ,τ,υ,reduceIte,reduceCtorEq,DF,DG,hx,he]
    refine wY (src:=[]) rfl (by unfold roomFor; simp) (fun _=>?_) (fun h=>(h rfl).elim)
    simp only[go_sem,γ,δ,ε,ζ,η,θ,ι,κ,μ,ν,ξ,ο,ρ,σ,τ,υ,reduceIte,reduceCtorEq,tP]
    refine aK (i+1) Om Om ?_ PH.nil_le
    unfold DA
    (repeat' (first|exact PF.nil_le|refine PF.aI ?_ ?_))<;>first|(simp only[go_sem,γ,δ,ε,ζ,η,θ,ι,κ,μ,ν,ξ,ο,ρ,σ,τ,υ,reduceIte,reduceCtorEq,wZz i]<;>rfl)|rfl
   ·simp only[go_sem,γ,δ,ε,ζ,η,θ,ι,κ,μ,ν,ξ,ο,ρ,σ,τ,υ,reduceIte,reduceCtorEq,tQ]
    exact aW (.inr rfl) .nil Ev PH.nil_le (.inl ⟨h0,rfl,rfl⟩)
  ·have h0:ws.flatten≠[]:=by intro e; rw[e] at hn; simp at hn
   rw[PH.kB]
   simp only[go_sem,γ,δ,ε,ζ,η,θ,ι,κ,μ,ν,ξ,ο,ρ,σ,τ,υ,reduceIte,reduceCtorEq,DD]
   refine wp_loop (α:=Nat × Nat) (fun a=>DA ws (.osl a.2 1 0 (ws.take a.1).flatten.length) a.1) (fun a=>PH.nil.set a.2 (.rows 1 (bE (ws.take a.1).flatten))) (fun a=>a.1≤ws.length) (fun a=>ws.length-a.1) (0,o) (by simp) ?_ ?_ ?_
   ·unfold DA
    exact Lq
   ·exact PH.aI PH.nil_le (by simp only[go_sem,γ,δ,ε,ζ,η,θ,ι,κ,μ,ν,ξ,ο,ρ,σ,τ,υ,reduceIte,reduceCtorEq]; rfl)
   rintro⟨i,q⟩ hi
   simp only[go_sem,γ,δ,ε,ζ,η,θ,ι,κ,μ,ν,ξ,ο,ρ,σ,τ,υ,reduceIte,reduceCtorEq,DC,DE,DA]
   simp only at hi
   refine kO (fun h=>?_) (fun h=>?_)
   ·have hlt:i<ws.length:=by simpa using h
    have hx:(ws.map fun w=>[ints w])[i]?=some [ints ws[i]]:=by simp[hlt]
    have hf:=alL ws hlt
    have hle:=QM ws (i+1)
    have hlen:(ws.take (i+1)).flatten.length=(ws.take i).flatten.length+ws[i].length:=by rw[hf,bIU]
    have hrows:(bE (ws.take i).flatten).take (ws.take i).flatten.length++(ws[i].map fun n=>[PV.int .i64 n])=bE (ws.take (i+1)).flatten:=by
     rw[bJD (by unfold bE; rw[bIM]; exact bIO _),hf]; unfold bE; rw[bKJ]
    have fin:∀ (q':Nat) (H':PH),H' q'=some (.rows 1 (bE (ws.take (i+1)).flatten))→∀ F':PF,F' 2=some .aB→F' 6=some (.osl q' 1 0 (ws.take (i+1)).flatten.length)→F' 25=some (lists ws)→F' 26=some (.int .i64 ws.length)→F' 27=some (.int .i64 ((i+1:Nat):Int)) →
      eF (fun a:Nat × Nat=>DA ws (.osl a.2 1 0 (ws.take a.1).flatten.length) a.1) (fun a=>PH.nil.set a.2 (.rows 1 (bE (ws.take a.1).flatten))) (fun a=>a.1≤ws.length) (fun a=>ws.length-a.1) (ws.length-i) (dX 2 (iH C (aC.wp C ((aC.region tQ).seq aC.ret)) (aU [.tmp 2] (ahE ws.flatten)))) .normal F' H':=by
     intro q' H' e1 F' f2 f6 f25 f26 f27
     refine aK (i+1,q') (by simp only; omega) (by simp only; omega) ?_ (PH.aI PH.nil_le e1)
     unfold DA
     exact PF.aI (PF.aI (PF.aI (PF.aI (PF.aI PF.nil_le f2) f6) f25) f26) f27
    simp only[go_sem,γ,δ,ε,ζ,η,θ,ι,κ,μ,ν,ξ,ο,ρ,σ,τ,υ,reduceIte,reduceCtorEq,DF,DG,hx]
    refine wZ (src:=ws[i].map fun n=>[PV.int .i64 n]) (rs:=bE (ws.take i).flatten) rfl (by unfold roomFor; rw[bIM]; simp only[maxLen]; omega) Sq (by unfold bE; rw[bIM]; exact bIO _) ?_ ?_
    ·rw[hrows,bIM,← hlen]
     simp only[go_sem,γ,δ,ε,ζ,η,θ,ι,κ,μ,ν,ξ,ο,ρ,σ,τ,υ,reduceIte,reduceCtorEq,tP,wZz i]
     exact fin q _ Sq _ Sq Sq Sq Sq Sq
    ·intro q' hq'
     rw[hrows,bIM,← hlen]
     simp only[go_sem,γ,δ,ε,ζ,η,θ,ι,κ,μ,ν,ξ,ο,ρ,σ,τ,υ,reduceIte,reduceCtorEq,tP,wZz i]
     exact fin q' _ Sq _ Sq Sq Sq Sq Sq
   ·have he:i=ws.length:=by simp at h; omega
    subst he
    simp only[go_sem,γ,δ,ε,ζ,η,θ,ι,κ,μ,ν,ξ,ο,ρ,σ,τ,υ,reduceIte,reduceCtorEq,tQ]
    refine aW (.inr rfl) (PH.nil.set q (.rows 1 (bE ws.flatten))) Ev (PH.aI PH.nil_le (by simp only[go_sem,γ,δ,ε,ζ,η,θ,ι,κ,μ,ν,ξ,ο,ρ,σ,τ,υ,reduceIte,reduceCtorEq,ht])) (.inr ⟨h0,q,?_,rfl⟩)
    simp only[aX,ht]
abbrev WPs:=List (PV × List Int)
def fK (ps:WPs):List (List PV):=ps.map fun p=>[p.1]
def lN (ps:WPs):List LI:=ps.map fun p=>(p.1,1,bE p.2)
def wls (ps:WPs):List (List Int):=ps.map (·.2)
def jB (vo:PV) (ps:WPs):List LI:=(vo,1,fK ps)::lN ps
section
variable {H:PH} {B:List BX}
theorem sW (ps:WPs):(fK ps).length=ps.length:=bIM _
theorem aiE {ps:WPs} {i:Nat} {v:PV} {w:List Int} (hi:ps[i]?=some (v,w)):(lN ps)[i]?=some (v,1,bE w):=by
 unfold lN
 rw[bJQ,hi]; rfl
theorem aCY {ps:WPs} {i:Nat} {v:PV} {w:List Int} (hi:ps[i]?=some (v,w)):(fK ps)[i]?=some [v]:=by
 unfold fK
 rw[bJQ,hi]; rfl
theorem aS.bjG (h:aS H B []):aS H B (jB .aB []):=h.qN 1
theorem aS.inner {vo:PV} {ps:WPs} (h:aS H B (jB vo ps)) {i:Nat} {v:PV} {w:List Int} (hi:ps[i]?=some (v,w)):bM H 1 v (bE w):=h.own (i+1) (aiE hi)
theorem aS.outer {vo:PV} {ps:WPs} (h:aS H B (jB vo ps)):bM H 1 vo (fK ps):=h.own 0 rfl
theorem LN (a b:List Int):bE (a++b)=bE a++bE b:=bKJ
theorem aS.buL {vo:PV} {ps:WPs} (h:aS H B (jB vo ps)) {i b:Nat} {v y:PV} {w src:List Int} {K:PV→PH→Prop} (hi:ps[i]?=some (v,w)) (hy:dO H 1 y=some (bE src)) (hr:roomFor w.length src.length b) (hne:src≠[])
  (hk:∀ q H',aS H' B ((vo,1,fK ps)::(lN ps).set i (.osl q 1 0 (w++src).length,1,bE (w++src)))→K (.osl q 1 0 (w++src).length) H'):lT H 1 b v y K:=by
 have bHN:bE src≠[]:=fun e=>hne (List.map_eq_nil_iff.1 e)
 refine h.append (i+1) (aiE hi) hy (by rw[cZ,cZ]; exact hr) fun v' H' h' hv=>?_
 obtain⟨q,rfl⟩:=hv bHN
 rw[← LN,cZ] at h' ⊢
 exact hk q H' h'
theorem aS.brO {qo n i:Nat} {ps:WPs} {v':PV} {w':List Int} (h:aS H B ((.osl qo 1 0 n,1,fK ps)::(lN ps).set i (v',1,bE w'))) :
  ∃ rs,H qo=some (.rows 1 rs)∧n≤rs.length∧rs.take n=fK ps∧aS (H.set qo (.rows 1 (rs.set i [v']))) B (jB (.osl qo 1 0 n) (ps.set i (v',w'))):=by
 obtain⟨rs,h1,h2,h3,h4⟩:=h.store 0 rfl i [v']
 refine⟨rs,h1,h2,h3,?_⟩
 have e:jB (.osl qo 1 0 n) (ps.set i (v',w'))=((.osl qo 1 0 n,1,fK ps)::(lN ps).set i (v',1,bE w')).set 0 (.osl qo 1 0 n,1,(fK ps).set i [v']):=by
  unfold jB fK lN
  rw[List.map_set,List.map_set]
  rfl
 rw[e]
 exact h4
def oG (fs:List (List PV)) (ws:List (List Int)):Prop:=fs.length=ws.length∧∀ (i:Nat) r w,fs[i]?=some r→ws[i]?=some w→r=[ints w]∨(r=[.aB]∧w=[])
theorem oG.nil:oG [] []:=⟨rfl,fun i r w h=>by cases h⟩
theorem oG.snoc {fs:List (List PV)} {ws:List (List Int)} {u:PV} {w:List Int} (h:oG fs ws) (hu:u=ints w∨(u=.aB∧w=[])):oG (fs++[[u]]) (ws++[w]):=by
 refine⟨by simp[h.1],fun i r x hr hx=>?_⟩
 rcases Nat.lt_trichotomy i fs.length with c | c | c
 ·rw[bLC c] at hr
  rw[bLC (by rw[← h.1]; exact c)] at hx
  exact h.2 i r x hr hx
 ·subst c
  rw[bKT (bIO _),bLH] at hr
  rw[h.1,bKT (bIO _),bLH] at hx
  cases hr; cases hx
  rcases hu with rfl | ⟨rfl,rfl⟩
  ·exact .inl rfl
  ·exact .inr ⟨rfl,rfl⟩
 ·rw[bKT Om,bJZ (by simp; omega)] at hr
  cases hr
theorem oG.flat {fs:List (List PV)} {ws:List (List Int)} (h:oG fs ws):Flat fs:=Flat.of fun r hr c hc q s rs=>by
 obtain⟨i,hi⟩:=List.mem_iff_getElem?.1 hr
 have hl:=(bJX.1 hi).1
 rcases h.2 i r _ hi (bIW (by rw[← h.1]; exact hl)) with rfl | ⟨rfl,-⟩
 ·rw[bJU] at hc; subst hc; rfl
 ·rw[bJU] at hc; subst hc; rfl
theorem oG.co {fs:List (List PV)} {ws:List (List Int)} (h:oG fs ws):Co (.sl 1 fs) (lists ws):=by
 have key:∀ (i:Nat) r t,fs[i]?=some r→(ws.map fun w=>[ints w])[i]?=some t→∃ w,t=[ints w]∧(r=[ints w]∨(r=[.aB]∧w=[])):=fun i r t hr ht=>by
  rw[bJQ] at ht
  cases hw:ws[i]? with
  | none=>rw[hw] at ht; cases ht
  | some w =>
   rw[hw] at ht
   cases ht
   exact⟨w,rfl,h.2 i r w hr hw⟩
 refine .sl (by rw[bIM,h.1]) (fun i r t hr ht=>?_) (fun i j p q hp hq=>?_)
 ·obtain⟨w,rfl,h1 | ⟨h1,-⟩⟩:=key i r t hr ht<;>subst h1<;>rfl
 ·unfold at2 at hp hq
  cases hr:fs[i]? with
  | none=>rw[hr] at hp; cases hp
  | some r =>
   cases ht:(ws.map fun w=>[ints w])[i]? with
   | none=>rw[ht] at hq; cases hq
   | some t =>
    rw[hr] at hp
    rw[ht] at hq
    obtain⟨w,rfl,h1⟩:=key i r t hr ht
    rcases h1 with rfl | ⟨rfl,rfl⟩
    ·have:some p=some q:=hp.symm.trans hq
     cases this
     exact .refl _
    ·cases j with
     | zero=>cases hp; cases hq; exact .nil 1
     | succ j=>cases hp
end
def Fx (u:PV):Prop:=∀ q s rs,PV.frz q s rs u=u
theorem Fx.int (k:IntKind) (n:Int):Fx (.int k n):=fun _ _ _=>rfl
theorem Fx.bool (b:Bool):Fx (.bool b):=fun _ _ _=>rfl
theorem Fx.sl (n:Nat) (r:List (List PV)):Fx (.sl n r):=fun _ _ _=>rfl
theorem Fx.aB:Fx .aB:=fun _ _ _=>rfl
theorem Fx.ptr (q z i c:Nat):Fx (.ptr q z i c):=fun _ _ _=>rfl
theorem Fx.bJ (c:List PV):Fx (.bJ c):=fun _ _ _=>rfl
theorem bM.dB {H:PH} {s:Nat} {v:PV} {rows:List (List PV)} (h:bM H s v rows) (q z:Nat) (rs:List (List PV)):PV.frz q z rs v=PV.dB q z rs v:=by
 rcases h with ⟨-,rfl⟩ | ⟨p,rs',rfl,-⟩<;>rfl
def aHP (φ:PV→PV) (F:PF):PF:=fun i=>(F i).map φ
theorem RH (φ:PV→PV) (F:PF) (i:Nat):aHP φ F i=(F i).map φ:=rfl
theorem WC:∀ (ps:WPs) {H:PH} {B:List BX} {vo:PV} (fs:List (List PV)) (ws0:List (List Int)),oG fs ws0→aS H B ((vo,1,fs++fK ps)::lN ps)→(∀ b∈B,∀ q s rs,cP.frz q s rs b.2=b.2) →
  ∃ (φ:PV→PV) (H1:PH),Co (φ vo) (lists (ws0++wls ps))∧(∀ u,Fx u→φ u=u)∧(∀ e:Int,φ (.tup [vo,.int .i64 e])=.tup [φ vo,.int .i64 e])∧aS H1 B []∧(∀ F:PF,hJ F H (aHP φ F) H1)∧∀ o,(H o=none∨vo.oid=some o∨∃ p∈ps,p.1.oid=some o)→H1 o=none
 | [],H,B,vo,fs,ws0,hs,h,hB=>by
  have e0:fs++fK []=fs:=bKM fs
  have e1:ws0++wls []=ws0:=bKM ws0
  rw[e0] at h
  rw[e1]
  rcases h.own 0 rfl with ⟨h1,rfl⟩ | ⟨q,rs,rfl,_⟩
  ·refine⟨id,H,?_,fun _ _=>rfl,fun _=>rfl,h.aWP 0,fun F=>?_,fun o ho=>?_⟩
   ·subst h1
    have:ws0=[]:=List.length_eq_zero_iff.1 hs.1.symm
    subst this
    exact .nil 1
   ·have:aHP id F=F:=funext fun i=>by rw[RH]; simp
    rw[this]
    exact .refl _ _
   ·rcases ho with ho | ho | ⟨p,hp,-⟩
    ·exact ho
    ·cases ho
    ·cases hp
  ·obtain⟨rs,z1,z2,z3,z4,z5⟩:=h.frz 0 rfl
   refine⟨PV.frz q 1 rs,H.frz q 1 rs,?_,fun u hu=>hu _ _ _,fun e=>?_,?_,fun F=>.step q z1 (.refl _ _),fun o ho=>?_⟩
   ·rw[z3]; exact hs.co
   ·show PV.tup [PV.dB q 1 rs (.osl q 1 0 fs.length),.int .i64 e]=_
    rw[z2,z3]
   ·have eB:(B.map fun b=>(b.1,b.2.frz q 1 rs))=B:=by
     conv=>rhs; rw[← List.map_id B]
     refine List.map_congr_left fun b hb=>?_
     rw[hB b hb q 1 rs]; rfl
    rw[eB] at z5
    exact z5
   ·rw[uY]
    rcases ho with ho | ho | ⟨p,hp,-⟩
    ·rw[ho]; split<;>rfl
    ·have:q=o:=by injection ho
     rw[if_pos this.symm]
    ·cases hp
 | (v,w)::ps,H,B,vo,fs,ws0,hs,h,hB=>by
  have eo:∀ u:PV,fs++[[u]]++fK ps=fs++[u]::fK ps:=fun u=>by rw[bJM]; rfl
  have ew:ws0++[w]++wls ps=ws0++wls ((v,w)::ps):=by rw[bJM]; rfl
  have ho:bM H 1 v (bE w):=h.own 1 rfl
  rcases ho with ⟨h1,rfl⟩ | ⟨q,rs,rfl,_⟩
  ·have hw:w=[]:=List.map_eq_nil_iff.1 h1
   have h2:=h.aWP 1
   obtain⟨φ,H1,k1,k2,k3,k4,k5,k6⟩:=WC ps (fs++[[.aB]]) (ws0++[w]) (hs.snoc (.inr ⟨rfl,hw⟩)) (by rw[eo]; exact h2) hB
   rw[ew] at k1
   refine⟨φ,H1,k1,k2,k3,k4,k5,fun o ho=>k6 o ?_⟩
   rcases ho with ho | ho | ⟨p,hp,ho⟩
   ·exact .inl ho
   ·exact .inr (.inl ho)
   ·rcases bJA.1 hp with rfl | hp
    ·cases ho
    ·exact .inr (.inr ⟨p,hp,ho⟩)
  ·obtain⟨rs,z1,z2,z3,z4,z5⟩:=h.frz 1 rfl
   have eB:(B.map fun b=>(b.1,b.2.frz q 1 rs))=B:=by
    conv=>rhs; rw[← List.map_id B]
    refine List.map_congr_left fun b hb=>?_
    rw[hB b hb q 1 rs]; rfl
   have y0:PV.dB q 1 rs vo=vo:=z4 0 _ (by decide) rfl
   have y0':PV.frz q 1 rs vo=vo:=((h.own 0 rfl).dB q 1 rs).trans y0
   have yp:∀ p∈ps,PV.dB q 1 rs p.1=p.1:=fun p hp=>by
    obtain⟨j,hj⟩:=List.mem_iff_getElem?.1 hp
    exact z4 (j+2) (p.1,1,bE p.2) Om (aiE hj)
   have er:(fs++fK ((.osl q 1 0 (bE w).length,w)::ps)).map (fun r=>r.map (PV.dB q 1 rs))=fs++[[ints w]]++fK ps:=by
    rw[bKJ,hs.flat,bJM]
    congr 1
    show [PV.dB q 1 rs (.osl q 1 0 (bE w).length)]::(fK ps).map _=_
    rw[z2]
    have:(fK ps).map (fun r=>r.map (PV.dB q 1 rs))=fK ps:=by
     unfold fK
     rw[List.map_map]
     refine List.map_congr_left fun p hp=>?_
     show [PV.dB q 1 rs p.1]=_
     rw[yp p hp]
    rw[this]
    rfl
   have ei:(lN ps).map (fun x=>(x.1,x.2.1,x.2.2.map fun r=>r.map (PV.dB q 1 rs)))=lN ps:=by
    unfold lN
    rw[List.map_map]
    refine List.map_congr_left fun p _=>?_
    show (p.1,1,(bE p.2).map fun r=>r.map (PV.dB q 1 rs))=_
    rw[show (bE p.2).map (fun r=>r.map (PV.dB q 1 rs))=bE p.2 from Flat.map p.2 (fun x c hc q s rs=>by rw[bJU] at hc; subst hc; rfl) q 1 rs]
   have z6:aS (H.frz q 1 rs) B ((vo,1,fs++[[ints w]]++fK ps)::lN ps):=by
    rw[eB] at z5
    have z7:aS (H.frz q 1 rs) B ((vo,1,(fs++fK ((.osl q 1 0 (bE w).length,w)::ps)).map (fun r=>r.map (PV.dB q 1 rs)))::(lN ps).map (fun x=>(x.1,x.2.1,x.2.2.map fun r=>r.map (PV.dB q 1 rs)))):=z5
    rw[er,ei] at z7
    exact z7
   obtain⟨φ,H1,k1,k2,k3,k4,k5,k6⟩:=WC ps (fs++[[ints w]]) (ws0++[w]) (hs.snoc (.inl rfl)) z6 hB
   rw[ew] at k1
   refine⟨fun u=>φ (PV.frz q 1 rs u),H1,?_,fun u hu=>?_,fun e=>?_,k4,fun F=>.step q z1 ?_,fun o ho=>k6 o ?_⟩
   ·simp only
    rw[y0']; exact k1
   ·simp only
    rw[hu,k2 u hu]
   ·simp only
    rw[y0']
    have yt:PV.frz q 1 rs (.tup [vo,.int .i64 e])=.tup [PV.frz q 1 rs vo,.int .i64 e]:=by
     rcases h.own 0 rfl with ⟨-,e0⟩ | ⟨p,rs',e0,-⟩<;>(subst e0; rfl)
    rw[yt,y0',k3]
   ·have:aHP (fun u=>φ (PV.frz q 1 rs u)) F=aHP φ (F.frz q 1 rs):=funext fun i=>by
     rw[RH,RH,qG,Option.map_map]
     rfl
    rw[this]
    exact k5 _
   ·rw[uY]
    rcases ho with ho | ho | ⟨p,hp,ho⟩
    ·left; rw[ho]; split<;>rfl
    ·exact .inr (.inl ho)
    ·rcases bJA.1 hp with rfl | hp
     ·have:q=o:=by injection ho
      left; rw[if_pos this.symm]
     ·exact .inr (.inr ⟨p,hp,ho⟩)
theorem a3R {C:Ctx} {F:PF} {H Hs:PH} {S:Spec} {name:Nat} {D:List Nat} {vs:List PV} {v:PV} {args:List aP} {st:Bool} {d:Option Nat} {K:PF→PH→Prop} (hS:S name vs=some (D,fun G r H'=>r=v∧H'=G)) (hD:∀ o∈D,∃ x,H o=some x)
  (h:aD C name vs (H.only D) (fun r H'=>r=v∧H'=H.only D)) (ha:aP.evs F args=some vs) (hle:Hs.le H) (hk:K (F.put d v) H):dOp C Hs S st (.call name args) d K F H:=by
 refine⟨vs,D,_,ha,hS,hD,h,fun G=>⟨v,_,⟨rfl,rfl⟩,fun q y hy hn=>?_⟩,fun r H' hr _=>?_⟩
 ·rw[hy] at hn; cases hn
 ·obtain⟨rfl,rfl⟩:=hr
  rw[PH.NB _ (CB H D)]
  exact⟨hle,hk⟩
theorem bM.lenOf {H:PH} {v:PV} {rows:List (List PV)} {s:Nat} (h:bM H s v rows):PV.tJ v=some (.int .i64 (rows.length:Nat)):=by
 rcases h with ⟨rfl,rfl⟩ | ⟨q,rs,rfl,-⟩<;>rfl
def acF (l:List Int):Bool:=decide l.Nodup
theorem aKK (l:List Int) (x:Int):acF (l++[x])=(acF l&&!l.contains x):=by
 unfold acF
 rw[Bool.eq_iff_iff,decide_eq_true_iff,bJI,decide_eq_true_iff,bKW]
 constructor
 ·rintro⟨h1,-,h3⟩
  refine⟨h1,?_⟩
  cases hc:l.contains x with
  | false=>rfl
  | true=>exact absurd rfl (h3 x (List.contains_iff_mem.1 hc) x (by simp))
 ·rintro⟨h1,h2⟩
  refine⟨h1,by simp,fun a ha b hb=>?_⟩
  rw[bJU] at hb
  subst hb
  rintro rfl
  rw[List.contains_iff_mem.2 ha] at h2
  cases h2
def JM (H:PH) (l:List Int) (r:PV) (H':PH):Prop:=∃ p,H p=none∧r=.osl p 1 0 l.length∧H'=H.set p (.rows 1 (bE l))
theorem a6N {C:Ctx} (H:PH) (q:Nat) (rs:List (List PV)) (l:List Int) (hq:H q=some (.rows 1 rs)) (h1:l.length≤rs.length) (h2:rs.take l.length=bE l) (hl:l.length≤1000000) :
  zW.wp C (aU ND.res (JM H l)) (PF.args [.osl q 1 0 l.length]) H:=by
 have hview:dO H 1 (.osl q 1 0 l.length)=some (bE l):=by
  have:=(show bM H 1 (.osl q 1 0 (bE l).length) (bE l) from .inr ⟨q,rs,rfl,hq,by rw[cZ]; exact h1,by rw[cZ]; exact h2⟩).view
  rwa [cZ] at this
 simp only[go_sem,γ,δ,ε,ζ,η,θ,ι,κ,μ,ν,ξ,ο,ρ,σ,τ,υ,reduceIte,reduceCtorEq,zW,aoB,aoC,ND,bne_self_eq_false,aoD]
 refine aQ fun o ho=>?_
 have hqo:¬ q=o:=fun e=>by rw[e,ho] at hq; cases hq
 have hne:¬ o=q:=fun e=>hqo e.symm
 have hview2:dO (H.set o (.rows 1 [])) 1 (.osl q 1 0 l.length)=some (bE l):=aqE (PH.wD _ ho) hview
 simp only[go_sem,γ,δ,ε,ζ,η,θ,ι,κ,μ,ν,ξ,ο,ρ,σ,τ,υ,reduceIte,reduceCtorEq]
 refine wZ hview2 (by unfold roomFor; rw[cZ]; simp only[maxLen]; omega) (by rw[dM]) (bIO _) ?_ ?_
 ·simp only[go_sem,γ,δ,ε,ζ,η,θ,ι,κ,μ,ν,ξ,ο,ρ,σ,τ,υ,reduceIte,reduceCtorEq,cZ,bJL]
  refine aW (.inr rfl) (H.set o (.rows 1 (bE l))) Ev ?_ ⟨o,ho,rfl,rfl⟩
  rw[bLF]
  exact PH.le_refl
 ·intro p hp
  rw[bH] at hp
  split at hp
  ·cases hp
  ·rename_i hpo
   simp only[go_sem,γ,δ,ε,ζ,η,θ,ι,κ,μ,ν,ξ,ο,ρ,σ,τ,υ,reduceIte,reduceCtorEq,cZ,bJL]
   refine aW (.inr rfl) (H.set p (.rows 1 (bE l))) Ev ?_ ⟨p,hp,rfl,rfl⟩
   intro a x ha
   rw[bH] at ha ⊢
   split at ha
   ·rename_i e; rw[if_pos e]; exact ha
   ·rename_i e
    rw[if_neg e]
    exact PH.wD _ ho a x ha
theorem bcL {C:Ctx} {F:PF} {H Hs:PH} {S:Spec} {name:Nat} {D:List Nat} {vs:List PV} {l:List Int} {args:List aP} {st:Bool} {d:Option Nat} {K:PF→PH→Prop} (hS:S name vs=some (D,fun G r H'=>JM G l r H')) (hD:∀ o∈D,∃ x,H o=some x)
  (h:aD C name vs (H.only D) (JM (H.only D) l)) (ha:aP.evs F args=some vs) (hle:Hs.le H) (hk:∀ p,H p=none→K (F.put d (.osl p 1 0 l.length)) (H.set p (.rows 1 (bE l)))):dOp C Hs S st (.call name args) d K F H:=by
 refine⟨vs,D,_,ha,hS,hD,h,fun G=>?_,fun r H' hr hap=>?_⟩
 ·obtain⟨p,hp,hpD⟩:=G.KQ D
  refine⟨_,_,⟨p,by rw[mD,if_neg hpD],rfl,rfl⟩,fun q y hy hn=>?_⟩
  rw[bH] at hy
  split at hy
  ·rename_i e; rw[e]; exact hp
  ·rw[hy] at hn; cases hn
 ·obtain⟨p,hp,rfl,rfl⟩:=hr
  have hpH:H p=none:=hap p _ (by rw[dM]) hp
  have e:H.eN (H.only D) ((H.only D).set p (.rows 1 (bE l)))=H.set p (.rows 1 (bE l)):=PH.ext fun q=>by
   show (H.eN (H.only D) ((H.only D).set p (.rows 1 (bE l)))) q=(H.set p (.rows 1 (bE l))) q
   rw[lC,bH,bH]
   by_cases c:q=p
   ·rw[if_pos c,if_pos c]
   ·rw[if_neg c,if_neg c]
    cases hq:(H.only D) q with
    | none=>rfl
    | some x=>exact (CB H D q x hq).symm
  rw[e]
  exact⟨PH.le_trans hle (PH.wD _ hpH),hk p hpH⟩
theorem aS.bqU {H:PH} {B:List BX} {vo:PV} {ps:WPs} (h:aS H B (jB vo ps)) {i:Nat} (hi:i<ps.length) :
  ∃ qo rs,vo=.osl qo 1 0 ps.length∧H qo=some (.rows 1 rs)∧rs[i]?=some [ps[i].1]∧i<rs.length:=by
 rcases h.outer with ⟨h1,-⟩ | ⟨q,rs,rfl,h1,h2,h3⟩
 ·have:(fK ps).length=0:=by rw[h1]; rfl
  rw[sW] at this
  omega
 ·rw[sW] at h2 h3
  refine⟨q,rs,by rw[sW],h1,?_,by omega⟩
  have:=aCY (ps:=ps) (i:=i) (v:=ps[i].1) (w:=ps[i].2) (by rw[bIW hi])
  rw[← h3,bMA hi] at this
  exact this
theorem aS.bmQ {H:PH} {B:List BX} {vo:PV} {ps:WPs} (h:aS H B (jB vo ps)):PV.tJ vo=some (.int .i64 (ps.length:Nat)):=by
 have:=h.outer.lenOf
 rwa [sW] at this
theorem aS.aON {H:PH} {B:List BX} {vo:PV} {ps:WPs} (h:aS H B (jB vo ps)) {i:Nat} (hi:i<ps.length):bM H 1 ps[i].1 (bE ps[i].2):=h.inner (by rw[bIW hi])
theorem ajZ (ps:WPs):(wls ps).length=ps.length:=bIM _
def aVK (ws:List (List Int)) (e:Int) (r:PV) (H:PH):Prop:=∃ vo ps,r=.tup [vo,.int .i64 e]∧aS H [] (jB vo ps)∧wls ps=ws
theorem acR {res:List dU} {F:PF} {H:PH} {vo:PV} {ps:WPs} {ws:List (List Int)} {c:Int} {e:lH} (he:e=.normal∨e=.ret) (h:dU.evs F H res=some [vo,.int .i64 c]) (hH:aS H [] (jB vo ps)) (hw:wls ps=ws):aU res (aVK ws c) e F H :=
 aW he H h PH.le_refl ⟨vo,ps,rfl,hH,hw⟩
def wwS (q:Nat) (l:List Int) (b:Bool):Spec:=fun name vs=>match name,vs with
 | 277,_=>some ([q],fun G r H'=>JM G l r H')
 | 251,[_,_,_,.osl p _ _ _]=>some ([p],fun G r H'=>r=.bool b∧H'=G)
 | _,_=>none
theorem a5C {C:Ctx} {H:PH} {name:Nat} {pre:List PV} {v u:PV} {l:List Int} (hv:Plain u) (hp:∀ x∈pre,Fx x) (hO:bM H 1 v (bE l)) (hne:l≠[]) (h:aD C name (pre++[ints l]) .nil (aE u)) :
  ∃ q,v=.osl q 1 0 l.length∧(∃ x,H q=some x)∧aD C name (pre++[v]) (H.only [q]) (fun r H'=>r=u∧H'=H.only [q]):=by
 rcases hO with ⟨h0,-⟩ | ⟨q,rs,rfl,h1,h2,h3⟩
 ·exact absurd (List.map_eq_nil_iff.1 h0) hne
 ·rw[cZ] at h2 h3 ⊢
  refine⟨q,rfl,⟨_,h1⟩,?_⟩
  rw[WN h1]
  refine aD.beK hv ?_
  have e:pre.map (PV.frz q 1 rs)=pre:=by
   conv=>rhs; rw[← List.map_id pre]
   exact List.map_congr_left fun x hx=>hp x hx q 1 rs
  rw[bKJ,e,bKV,List.map_nil,pH h2,h3]
  exact h
theorem blV {α:Type} (L:List α) (x:α) (n:Nat) (h:L.length=n):(L++[x])[n]?=some x:=by
 subst h; simp
theorem xW (vo:PV) (ps:WPs):(jB vo ps).length=ps.length+1:=by unfold jB lN; simp
structure bsV (C:Ctx):Prop extends aVN C 250 251 where
 check:∀ (f:aL) (now:List (List Int)) (r:Int),f.Ok→jH now→aD C 262 [.agg f.cells,lay now,.int .i64 r] .nil (aE (.int .i64 (oC f now r)))
 clone:∀ (H:PH) (q:Nat) (rs:List (List PV)) (l:List Int),H q=some (.rows 1 rs)→l.length≤rs.length→rs.take l.length=bE l→l.length≤1000000→aD C 277 [.osl q 1 0 l.length] H (JM H l)
structure aVO (f:aL) (now:List (List Int)) (r:Int) (d:Nat) (ps:WPs):Prop where
 eq:wls ps=oN f now r d
 num:ps.length≤d
 len:∀ i (h:i<ps.length),1≤(ps[i].2).length∧(ps[i].2).length≤d
theorem aVO.of {f:aL} {now:List (List Int)} {r:Int} (ha:sM f now r=true) {d:Nat} (hd:d≤f.bGI.length) {ps:WPs} (h:wls ps=oN f now r d):aVO f now r d ps:=by
 have k:=yM ha d hd
 rw[← h] at k
 have h1:∀ i (h:i<ps.length),ps[i].2∈wls ps:=fun i hi=>bJT.2 ⟨ps[i],bIR hi,rfl⟩
 have ne:∀ l∈wls ps,1≤l.length:=fun l hl=>by
  have:=k.ok l hl
  unfold PL at this
  cases l with
  | nil=>cases this
  | cons x xs=>rw[bKH]; omega
 refine⟨h,?_,fun i hi=>⟨ne _ (h1 i hi),?_⟩⟩
 ·have h2:(wls ps).length≤(wls ps).flatten.length:=by
   generalize wls ps=w at ne
   induction w with
   | nil=>exact bIO _
   | cons l w ih =>
    have:=ih fun x hx=>ne x (List.mem_cons_of_mem _ hx)
    have:=ne l (by simp)
    rw[bLV,bIU,bKH]
    omega
  rw[ajZ,k.len] at h2
  exact h2
 ·have:=(List.sublist_flatten_of_mem (h1 i hi)).length_le
  rw[k.len] at this
  exact this
theorem bfO {f:aL} {now:List (List Int)} {r:Int} {ps:WPs} {d i:Nat} (hi:i<ps.length) (hno:∀ j (h:j<ps.length),j<i→iJ f now r (ps[j].2++[(d:Int)])=false) (hyes:iJ f now r (ps[i].2++[(d:Int)])=true) (v:PV) :
  NL f now r (wls ps) d=wls (ps.set i (v,ps[i].2++[(d:Int)])):=by
 have e:(wls ps).findIdx? (fun l=>iJ f now r (l++[(d:Int)]))=some i:=by
  rw[List.findIdx?_eq_some_iff_getElem]
  refine⟨by rw[ajZ]; exact hi,by simpa [wls] using hyes,fun j hj=>?_⟩
  have:=hno j Om hj
  simpa [wls] using this
 unfold NL
 rw[e]
 simp only
 unfold wls
 rw[List.map_set,bJG,bJQ,bIW hi]
 rfl
theorem a6V {f:aL} {now:List (List Int)} {r:Int} {ps:WPs} {d:Nat} (hno:∀ j (h:j<ps.length),iJ f now r (ps[j].2++[(d:Int)])=false) :
  NL f now r (wls ps) d=wls ps++[[(d:Int)]]:=by
 have e:(wls ps).findIdx? (fun l=>iJ f now r (l++[(d:Int)]))=none:=by
  rw[List.findIdx?_eq_none_iff]
  intro l hl
  obtain⟨p,hp,rfl⟩:=bJT.1 hl
  obtain⟨j,hj,rfl⟩:=bKQ hp
  rw[hno j hj]
 unfold NL
 rw[e]
theorem bbN {C:Ctx} (Lb:bsV C) (f:aL) (hf:f.Ok) (now:List (List Int)) (hl:jH now) (r:Int) :
  AZ.wp C (aU PP.res (aVK (kC f now r) (oC f now r))) (PF.args [.agg f.cells,lay now,.int .i64 r]) .nil:=by
 have hB:kC f now r=if oC f now r=0 then oN f now r f.bGI.length else []:=rfl
 simp only[go_sem,γ,δ,ε,ζ,η,θ,ι,κ,μ,ν,ξ,ο,ρ,σ,τ,υ,reduceIte,reduceCtorEq,AZ,arI,arJ,PP]
 refine aA (Lb.check f now r hf hl) Ev ?_
 by_cases c:oC f now r≠0
 ·rw[if_neg c] at hB
  simp only[go_sem,γ,δ,ε,ζ,η,θ,ι,κ,μ,ν,ξ,ο,ρ,σ,τ,υ,reduceIte,reduceCtorEq,PQ,cT c,arK]
  exact acR (.inr rfl) Sq (aS.bjG aS.nil) hB.symm
 have c:oC f now r=0:=Decidable.not_not.1 c
 obtain⟨hu,ha⟩:=KI c
 rw[if_pos c] at hB
 rw[hB,c]
 have hV:=VF.of (OW hu).1
 have hd:=hV.small.bGI
 generalize hn:f.bGI.length=n at *
 simp only[go_sem,γ,δ,ε,ζ,η,θ,ι,κ,μ,ν,ξ,ο,ρ,σ,τ,υ,reduceIte,reduceCtorEq,PQ,bP (show (0:Int)=0 from rfl),arL,arM,bIM,hn]
 refine wp_loop (α:=Nat × PV × WPs × PH) (fun s=>((((((PF.nil.set 1 (lay now)).set 2 (.int .i64 r)).set 3 (.bJ f.cells)).set 9 (s.2.1)).set 22 (.int .i64 n)).set 23 (.int .i64 s.1))) (fun s=>s.2.2.2) (fun s=>s.1≤n∧aVO f now r s.1 s.2.2.1∧aS s.2.2.2 [] (jB s.2.1 s.2.2.1)) (fun s=>n-s.1) (0,.aB,[],.nil)
  ⟨bIX _,.of ha (bIX _) rfl,aS.bjG aS.nil⟩ Lq PH.le_refl ?_
 rintro⟨d,vo,ps,H⟩ ⟨hdn,hw,hH⟩
 simp only at hdn hw hH ⊢
 simp only[go_sem,γ,δ,ε,ζ,η,θ,ι,κ,μ,ν,ξ,ο,ρ,σ,τ,υ,reduceIte,reduceCtorEq,afQ,arN]
 by_cases hlt:d<n
 ·have bGP:(d:Int)<(n:Nat):=by omega
  have hnl:=hH.bmQ
  have hnum:=hw.num
  simp only[go_sem,γ,δ,ε,ζ,η,θ,ι,κ,μ,ν,ξ,ο,ρ,σ,τ,υ,reduceIte,reduceCtorEq,bGP,arO,arP,hnl]
  refine wp_loop (α:=Nat × PH) (fun s=>((((((((((PF.nil.set 1 (lay now)).set 2 (.int .i64 r)).set 3 (.bJ f.cells)).set 9 (vo)).set 10 (.int .i64 d)).set 22 (.int .i64 n)).set 23 (.int .i64 d)).set 26 (vo)).set 27 (.int .i64 (ps.length:Nat))).set 28 (.int .i64 s.1))) (fun s=>s.2) (fun s=>s.1≤ps.length∧(∀ j (h:j<ps.length),j<s.1→iJ f now r (ps[j].2++[(d:Int)])=false)∧aS s.2 [] (jB vo ps)) (fun s=>ps.length-s.1) (0,H)
   ⟨bIX _,fun j _ h=>by omega,hH⟩ Lq PH.le_refl ?_
  clear hH hnl
  rintro⟨i,H⟩ ⟨hi,hno,hH⟩
  simp only at hi hno hH ⊢
  simp only[go_sem,γ,δ,ε,ζ,η,θ,ι,κ,μ,ν,ξ,ο,ρ,σ,τ,υ,reduceIte,reduceCtorEq,afP,arQ]
  by_cases ilt:i<ps.length
  ·have ilt':(i:Int)<(ps.length:Nat):=by omega
   obtain⟨qo,rs,rfl,b1,b2,b3⟩:=hH.bqU ilt
   obtain⟨q,hq⟩:=(hH.aON ilt).one (by rw[cZ]; exact (hw.len i ilt).1)
   have hlen:=hw.len i ilt
   rw[cZ] at hq
   have hO:=hH.aON ilt
   have bIF:=hH.inner (i:=i) (v:=ps[i].1) (w:=ps[i].2) (by rw[bIW ilt])
   have hhit:=bfO (f:=f) (now:=now) (r:=r) (d:=d) ilt hno
   have bHK:iJ f now r (ps[i].2++[(d:Int)])=false→∀ j (h:j<ps.length),j<i+1→iJ f now r (ps[j].2++[(d:Int)])=false:=fun h j hj hji=>by
    by_cases e:j=i
    ·subst e; exact h
    ·exact hno j hj Om
   have hpi:ps[i]?=some (ps[i].1,ps[i].2):=by rw[bIW ilt]
   generalize ps[i].2=w at *
   generalize ps[i].1=v at *
   subst hq
   rcases hO with ⟨-,e⟩ | ⟨q',rs',e,o1,o2,o3⟩
   ·cases e
   rw[cZ] at e o2 o3
   cases e
   have cc:=Lb.clone (H.only [q]) q rs' w (by rw[mD,if_pos (by simp)]; exact o1) o2 o3 Om
   simp only[go_sem,γ,δ,ε,ζ,η,θ,ι,κ,μ,ν,ξ,ο,ρ,σ,τ,υ,reduceIte,reduceCtorEq,ilt',afR,b1,b2,b3,bJL]
   refine bT .nil (wwS q w (iJ f now r (w++[(d:Int)]))) PH.nil_le ?_
   simp only[go_sem,γ,δ,ε,ζ,η,θ,ι,κ,μ,ν,ξ,ο,ρ,σ,τ,υ,reduceIte,reduceCtorEq,afS]
   refine bcL (l:=w) (D:=[q]) rfl (fun o ho=>by rw[bJU] at ho; subst ho; exact⟨_,o1⟩) cc Sq PH.nil_le fun p hp=>?_
   have h2:=hH.aBV (s:=1) (rows:=bE w) hp
   rw[cZ] at h2
   simp only[go_sem,γ,δ,ε,ζ,η,θ,ι,κ,μ,ν,ξ,ο,ρ,σ,τ,υ,reduceIte,reduceCtorEq]
   refine h2.append (ps.length+1) (rows:=bE w) (src:=[[.int .i64 d]]) (blV _ _ _ (xW _ _)) Sq (by unfold roomFor; rw[cZ]; simp only[bJC,maxLen]; omega) fun v' H' h3 hv'=>?_
   have hsrc:bE w++[[.int .i64 d]]=bE (w++[(d:Int)]):=by rw[LN]; rfl
   rw[hsrc] at h3
   have hO3:bM H' 1 v' (bE (w++[(d:Int)])):=h3.own (ps.length+1) (by rw[List.getElem?_set_self (by rw[bIU,xW]; simp)])
   have h4:aS H' [] (jB (.osl qo 1 0 ps.length) ps):=by
    have:=h3
    rw[bLY _ _ (by rw[xW]; exact bIO _),xW,bLH] at this
    exact this.sub (bKS.refl _) (List.sublist_append_left ..)
   obtain⟨p',rfl,hx,bHP⟩:=a5C (C:=C) (name:=251) (pre:=[.agg f.cells,lay now,.int .i64 r]) (u:=.bool (iJ f now r (w++[(d:Int)]))) (.bool _) (fun x hx=>by
    simp only[bJA,bJR,or_false] at hx
    rcases hx with rfl | rfl | rfl
    ·exact fun _ _ _=>rfl
    ·exact .sl _ _
    ·exact .int _ _) hO3 (by simp) (Lb.fits f now r (w++[(d:Int)]) hu hl (by rw[bIU,bJC]; omega))
   refine⟨PH.nil_le,?_⟩
   refine a3R (D:=[p']) rfl (fun o ho=>by rw[bJU] at ho; subst ho; exact hx) bHP (by simp only[go_sem,γ,δ,ε,ζ,η,θ,ι,κ,μ,ν,ξ,ο,ρ,σ,τ,υ,reduceIte,reduceCtorEq]; rfl) PH.nil_le ?_
   cases bHX:iJ f now r (w++[(d:Int)]) with
   | true =>
    have hw2:wls (ps.set i (PV.aB,w++[(d:Int)]))=oN f now r (d+1):=by
     rw[← hhit bHX .aB,hw.eq]; rfl
    simp only[go_sem,γ,δ,ε,ζ,η,θ,ι,κ,μ,ν,ξ,ο,ρ,σ,τ,υ,reduceIte,reduceCtorEq,afT]
    refine h4.buL (src:=[(d:Int)]) hpi (by simp only[go_sem,γ,δ,ε,ζ,η,θ,ι,κ,μ,ν,ξ,ο,ρ,σ,τ,υ,reduceIte,reduceCtorEq]; rfl) (by unfold roomFor; simp only[bJC,maxLen]; omega) (by simp) fun q2 H2 h5=>?_
    obtain⟨rs2,e1,e2,e3,h6⟩:=h5.brO
    have il2:i<rs2.length:=by omega
    have hat2:rs2[i]?=some [.osl q 1 0 w.length]:=by
     have:=aCY hpi
     rw[← e3,bMA ilt] at this
     exact this
    simp only[go_sem,γ,δ,ε,ζ,η,θ,ι,κ,μ,ν,ξ,ο,ρ,σ,τ,υ,reduceIte,reduceCtorEq,e1,il2,hat2,ilt',bJL,IE,wZz d]
    refine aK (d+1,PV.osl qo 1 0 ps.length,ps.set i (PV.osl q2 1 0 (w++[(d:Int)]).length,w++[(d:Int)]),H2.set qo (.rows 1 (rs2.set i [.osl q2 1 0 (w++[(d:Int)]).length]))) ⟨hlt,.of ha Om ?_,?_⟩ (by simp only; omega) Lq (by simp only; exact PH.le_refl)
    ·rw[← hw2]
     unfold wls
     rw[List.map_set,List.map_set]
    ·simp only
     exact h6
   | false =>
    simp only[go_sem,γ,δ,ε,ζ,η,θ,ι,κ,μ,ν,ξ,ο,ρ,σ,τ,υ,reduceIte,reduceCtorEq,afU,wZz i]
    exact aK (i+1,H') ⟨ilt,bHK bHX,h4⟩ (by simp only; omega) Lq PH.le_refl
  ·have ilt':¬ (i:Int)<(ps.length:Nat):=by omega
   have:i=ps.length:=by omega
   subst this
   have hmiss:=a6V (f:=f) (now:=now) (r:=r) (d:=d) (ps:=ps) fun j hj=>hno j hj hj
   simp only[go_sem,γ,δ,ε,ζ,η,θ,ι,κ,μ,ν,ξ,ο,ρ,σ,τ,υ,reduceIte,reduceCtorEq,ilt',afV]
   refine aQ fun o ho=>?_
   have h2:=hH.aBV (s:=1) (rows:=bE [(d:Int)]) ho
   simp only[go_sem,γ,δ,ε,ζ,η,θ,ι,κ,μ,ν,ξ,ο,ρ,σ,τ,υ,reduceIte,reduceCtorEq]
   refine h2.append 0 (rows:=fK ps) (src:=[[.osl o 1 0 1]]) rfl Sq (by unfold roomFor; rw[sW]; simp only[bJC,maxLen]; omega) fun v' H' h3 hv'=>?_
   simp only[go_sem,γ,δ,ε,ζ,η,θ,ι,κ,μ,ν,ξ,ο,ρ,σ,τ,υ,reduceIte,reduceCtorEq,IE,wZz d]
   refine aK (d+1,v',ps++[(PV.osl o 1 0 1,[(d:Int)])],H') ⟨hlt,.of ha Om ?_,?_⟩ (by simp only; omega) Lq PH.le_refl
   ·show wls (ps++[(PV.osl o 1 0 1,[(d:Int)])])=NL f now r (oN f now r d) d
    rw[← hw.eq,hmiss]
    unfold wls
    rw[bKJ]; rfl
   ·have e:jB v' (ps++[(PV.osl o 1 0 1,[(d:Int)])])=((jB vo ps)++[(PV.osl o 1 0 (bE [(d:Int)]).length,1,bE [(d:Int)])]).set 0 (v',1,fK ps++[[PV.osl o 1 0 1]]):=by
     unfold jB fK lN
     rw[bKJ,bKJ]
     rfl
    simp only
    rw[e]
    exact h3
 ·have bGP:¬ (d:Int)<(n:Nat):=by omega
  have:d=n:=by omega
  subst this
  simp only[go_sem,γ,δ,ε,ζ,η,θ,ι,κ,μ,ν,ξ,ο,ρ,σ,τ,υ,reduceIte,reduceCtorEq,bGP,afW]
  exact acR (.inr rfl) Sq hH hw.eq

def wi (x n:Int):Int:=if n<1 then 0 else if x.tmod n<0 then x.tmod n+n else x.tmod n
theorem aXU {C:Ctx} (x n:Int) (hn:InK .i64 n):wE.wp C (aU BV.res (aE (.int .i64 (wi x n)))) (PF.args [.int .i64 x,.int .i64 n]) .nil:=by
 simp only[go_sem,γ,δ,ε,ζ,η,θ,ι,κ,μ,ν,ξ,ο,ρ,σ,τ,υ,reduceIte,reduceCtorEq,wE,abH,abI,BV]
 refine kO (fun h=>?_) (fun h=>?_)
 ·simp only[go_sem,γ,δ,ε,ζ,η,θ,ι,κ,μ,ν,ξ,ο,ρ,σ,τ,υ,reduceIte,reduceCtorEq,abJ]
  refine aM (.inr rfl) Ev ?_
  simp only[decide_eq_true_eq] at h
  simp[aX,wi,h]
 ·simp only[decide_eq_false_iff_not] at h
  have h0:n≠0:=by omega
  simp only[go_sem,γ,δ,ε,ζ,η,θ,ι,κ,μ,ν,ξ,ο,ρ,σ,τ,υ,reduceIte,reduceCtorEq,abK,abL,h0]
  refine kO (fun h2=>?_) (fun h2=>?_)
  ·simp only[decide_eq_true_eq] at h2
   simp only[go_sem,γ,δ,ε,ζ,η,θ,ι,κ,μ,ν,ξ,ο,ρ,σ,τ,υ,reduceIte,reduceCtorEq,abM]
   refine aM (.inr rfl) Ev ?_
   have h3:=Int.lt_tmod_of_pos x (Om:0<n)
   have:=hn.2
   have e:IntKind.i64.max=9223372036854775807:=by decide
   simp only[aX,wi,if_neg h,if_pos h2]
   rw[wrap_i64 Om Om]
  ·simp only[decide_eq_false_iff_not] at h2
   simp only[go_sem,γ,δ,ε,ζ,η,θ,ι,κ,μ,ν,ξ,ο,ρ,σ,τ,υ,reduceIte,reduceCtorEq,abN]
   refine aM (.inr rfl) Ev ?_
   simp only[aX,wi,if_neg h,if_neg h2]
def qC (n:Int):PV:=.agg [.int .i64 (if n<1 then 4 else 1),.int .i64 0]
theorem bcF {C:Ctx} (n:Int):CZ.wp C (aU begin.res (aE (qC n))) (PF.args [.int .i64 n]) .nil:=by
 simp only[go_sem,γ,δ,ε,ζ,η,θ,ι,κ,μ,ν,ξ,ο,ρ,σ,τ,υ,reduceIte,reduceCtorEq,CZ,auL,begin]
 refine aQ fun o ho=>?_
 simp only[go_sem,γ,δ,ε,ζ,η,θ,ι,κ,μ,ν,ξ,ο,ρ,σ,τ,υ,reduceIte,reduceCtorEq,auM]
 refine kO (fun h=>?_) (fun h=>?_)
 ·simp only[go_sem,γ,δ,ε,ζ,η,θ,ι,κ,μ,ν,ξ,ο,ρ,σ,τ,υ,reduceIte,reduceCtorEq,auN]
  refine aM (.inr rfl) Ev ?_
  simp only[decide_eq_true_eq] at h
  simp[aX,qC,h]
 ·simp only[go_sem,γ,δ,ε,ζ,η,θ,ι,κ,μ,ν,ξ,ο,ρ,σ,τ,υ,reduceIte,reduceCtorEq,auO]
  refine aM (.inr rfl) Ev ?_
  simp only[decide_eq_false_iff_not] at h
  simp[aX,qC,h]
def fY (n p w e:Int):(Int × Int) × Int :=
 if w<0∨w≥n then ((0,0),110)
 else if p=1∧e=1 then ((2,w),0)
 else if p=2∧e=2 then ((3,w),0)
 else if p=3∧e=3∧w=IntKind.i64.wrap (n-1) then ((4,w),0)
 else if p=3∧e=3 then ((1,IntKind.i64.wrap (w+1)),0)
 else if p=3∧e=4 then ((5,w),0)
 else ((0,0),110)
def stV (x:Int × Int):PV:=.agg [.int .i64 x.1,.int .i64 x.2]
def jD (x:(Int × Int) × Int):PV:=.tup [stV x.1,.int .i64 x.2]
theorem bnW {C:Ctx} (n p w e:Int):OD.wp C (aU step.res (aE (jD (fY n p w e)))) (PF.args [.int .i64 n,.agg [.int .i64 p,.int .i64 w],.int .i64 e]) .nil:=by
 simp only[go_sem,γ,δ,ε,ζ,η,θ,ι,κ,μ,ν,ξ,ο,ρ,σ,τ,υ,reduceIte,reduceCtorEq,OD,aRS,step]
 refine aQ fun o4 ho4=>?_
 simp only[go_sem,γ,δ,ε,ζ,η,θ,ι,κ,μ,ν,ξ,ο,ρ,σ,τ,υ,reduceIte,reduceCtorEq]
 refine aQ fun o6 ho6=>?_
 have n64:¬ o6=o4:=(cV.1 ho6).1
 have n46:¬ o4=o6:=fun h=>n64 h.symm
 simp only[go_sem,γ,δ,ε,ζ,η,θ,ι,κ,μ,ν,ξ,ο,ρ,σ,τ,υ,reduceIte,reduceCtorEq,aRT,n64,n46]
 by_cases h1:w<0
 ·simp only[go_sem,γ,δ,ε,ζ,η,θ,ι,κ,μ,ν,ξ,ο,ρ,σ,τ,υ,reduceIte,reduceCtorEq,h1,ajM,n64,n46]
  refine aM (.inr rfl) Ev ?_
  simp[aX,fY,h1,jD,stV]
 simp only[go_sem,γ,δ,ε,ζ,η,θ,ι,κ,μ,ν,ξ,ο,ρ,σ,τ,υ,reduceIte,reduceCtorEq,h1,n64,n46]
 by_cases h2:w≥n
 ·simp only[go_sem,γ,δ,ε,ζ,η,θ,ι,κ,μ,ν,ξ,ο,ρ,σ,τ,υ,reduceIte,reduceCtorEq,h2,ajM,n64,n46]
  refine aM (.inr rfl) Ev ?_
  simp[aX,fY,h2,jD,stV]
 simp only[go_sem,γ,δ,ε,ζ,η,θ,ι,κ,μ,ν,ξ,ο,ρ,σ,τ,υ,reduceIte,reduceCtorEq,h2,aRU,n64,n46]
 refine bT ((PH.nil.set o4 (.rows 2 [[.int .i64 p,.int .i64 w]]))) eG (PH.aI PH.nil_le (by simp only[go_sem,γ,δ,ε,ζ,η,θ,ι,κ,μ,ν,ξ,ο,ρ,σ,τ,υ,reduceIte,reduceCtorEq,n64,n46])) ?_
 simp only[go_sem,γ,δ,ε,ζ,η,θ,ι,κ,μ,ν,ξ,ο,ρ,σ,τ,υ,reduceIte,reduceCtorEq]
 refine aQ fun o21 ho21=>?_
 have n214:¬ o21=o4:=(cV.1 (cV.1 ho21).2).1
 have n421:¬ o4=o21:=fun h=>n214 h.symm
 have n216:¬ o21=o6:=(cV.1 ho21).1
 have n621:¬ o6=o21:=fun h=>n216 h.symm
 simp only[go_sem,γ,δ,ε,ζ,η,θ,ι,κ,μ,ν,ξ,ο,ρ,σ,τ,υ,reduceIte,reduceCtorEq]
 refine QH (o:=o21) (kv:=.agg [.int .i64 1,.int .i64 1]) (vv:=.int .i64 2) (key:=[.int .i64 1,.int .i64 1]) (g:=fun _=>none) Sq Sq Sq Sq Sq (by rfl) (by simp only[go_sem,γ,δ,ε,ζ,η,θ,ι,κ,μ,ν,ξ,ο,ρ,σ,τ,υ,reduceIte,reduceCtorEq,n214]) ?_
 simp only[go_sem,γ,δ,ε,ζ,η,θ,ι,κ,μ,ν,ξ,ο,ρ,σ,τ,υ,reduceIte,reduceCtorEq]
 refine QH (o:=o21) (kv:=.agg [.int .i64 2,.int .i64 2]) (vv:=.int .i64 3) (key:=[.int .i64 2,.int .i64 2]) (g:=fE.upd (fun _=>none) [.int .i64 1,.int .i64 1] (.int .i64 2)) Sq Sq Sq Sq Sq (by rfl) (by simp only[go_sem,γ,δ,ε,ζ,η,θ,ι,κ,μ,ν,ξ,ο,ρ,σ,τ,υ,reduceIte,reduceCtorEq,n214]) ?_
 simp only[go_sem,γ,δ,ε,ζ,η,θ,ι,κ,μ,ν,ξ,ο,ρ,σ,τ,υ,reduceIte,reduceCtorEq]
 refine QH (o:=o21) (kv:=.agg [.int .i64 3,.int .i64 3]) (vv:=.int .i64 1) (key:=[.int .i64 3,.int .i64 3]) (g:=fE.upd (fE.upd (fun _=>none) [.int .i64 1,.int .i64 1] (.int .i64 2)) [.int .i64 2,.int .i64 2] (.int .i64 3)) Sq Sq Sq Sq Sq (by rfl) (by simp only[go_sem,γ,δ,ε,ζ,η,θ,ι,κ,μ,ν,ξ,ο,ρ,σ,τ,υ,reduceIte,reduceCtorEq,n214]) ?_
 simp only[go_sem,γ,δ,ε,ζ,η,θ,ι,κ,μ,ν,ξ,ο,ρ,σ,τ,υ,reduceIte,reduceCtorEq]
 refine QH (o:=o21) (kv:=.agg [.int .i64 3,.int .i64 4]) (vv:=.int .i64 5) (key:=[.int .i64 3,.int .i64 4]) (g:=fE.upd (fE.upd (fE.upd (fun _=>none) [.int .i64 1,.int .i64 1] (.int .i64 2)) [.int .i64 2,.int .i64 2] (.int .i64 3)) [.int .i64 3,.int .i64 3] (.int .i64 1)) Sq Sq Sq Sq Sq (by rfl) (by simp only[go_sem,γ,δ,ε,ζ,η,θ,ι,κ,μ,ν,ξ,ο,ρ,σ,τ,υ,reduceIte,reduceCtorEq,n214]) ?_
 simp only[go_sem,γ,δ,ε,ζ,η,θ,ι,κ,μ,ν,ξ,ο,ρ,σ,τ,υ,reduceIte,reduceCtorEq]
 have hkey:∀ a b:Int,([KS.int .i64 p,KS.int .i64 e]=[KS.int .i64 a,KS.int .i64 b])=(p=a∧e=b):=fun a b=>by simp
 simp only[go_sem,γ,δ,ε,ζ,η,θ,ι,κ,μ,ν,ξ,ο,ρ,σ,τ,υ,reduceIte,reduceCtorEq,n64,n46,n214,n421,n216,n621,fE.upd,hkey]
 by_cases q4:p=3∧e=4
 ·obtain⟨rfl,rfl⟩:=q4
  simp only[go_sem,γ,δ,ε,ζ,η,θ,ι,κ,μ,ν,ξ,ο,ρ,σ,τ,υ,reduceIte,reduceCtorEq,pQ,pR,pS,pT,mZ,n64,n46,n214,n421,n216,n621]
  refine aM (.inr rfl) Ev ?_
  simp[aX,fY,h1,h2,jD,stV]
 by_cases q3:p=3∧e=3
 ·obtain⟨rfl,rfl⟩:=q3
  simp only[go_sem,γ,δ,ε,ζ,η,θ,ι,κ,μ,ν,ξ,ο,ρ,σ,τ,υ,reduceIte,reduceCtorEq,pQ,pR,pS,pT,mZ,n64,n46,n214,n421,n216,n621,aRV]
  by_cases hw:w=IntKind.i64.wrap (n-1)
  ·simp only[go_sem,γ,δ,ε,ζ,η,θ,ι,κ,μ,ν,ξ,ο,ρ,σ,τ,υ,reduceIte,reduceCtorEq,bS hw,aRW,pQ,pR,pS,pT,mZ,n64,n46,n214,n421,n216,n621]
   refine aM (.inr rfl) Ev ?_
   simp[aX,fY,h1,h2,← hw,jD,stV]
  ·simp only[go_sem,γ,δ,ε,ζ,η,θ,ι,κ,μ,ν,ξ,ο,ρ,σ,τ,υ,reduceIte,reduceCtorEq,bF hw,aFD,pQ,pR,pS,pT,mZ,n64,n46,n214,n421,n216,n621]
   refine aM (.inr rfl) Ev ?_
   simp[aX,fY,h1,h2,hw,jD,stV]
 by_cases q2:p=2∧e=2
 ·obtain⟨rfl,rfl⟩:=q2
  simp only[go_sem,γ,δ,ε,ζ,η,θ,ι,κ,μ,ν,ξ,ο,ρ,σ,τ,υ,reduceIte,reduceCtorEq,pQ,pR,pS,pT,mZ,n64,n46,n214,n421,n216,n621]
  refine aM (.inr rfl) Ev ?_
  simp[aX,fY,h1,h2,jD,stV]
 by_cases q1:p=1∧e=1
 ·obtain⟨rfl,rfl⟩:=q1
  simp only[go_sem,γ,δ,ε,ζ,η,θ,ι,κ,μ,ν,ξ,ο,ρ,σ,τ,υ,reduceIte,reduceCtorEq,pQ,pR,pS,pT,mZ,n64,n46,n214,n421,n216,n621]
  refine aM (.inr rfl) Ev ?_
  simp[aX,fY,h1,h2,jD,stV]
 simp only[go_sem,γ,δ,ε,ζ,η,θ,ι,κ,μ,ν,ξ,ο,ρ,σ,τ,υ,reduceIte,reduceCtorEq,q1,q2,q3,q4,pQ,pR,pS,pT,mZ,n64,n46,n214,n421,n216,n621]
 refine aM (.inr rfl) Ev ?_
 have q3':¬ (p=3∧e=3∧w=IntKind.i64.wrap (n-1)):=fun h=>q3 ⟨h.1,h.2.1⟩
 simp only[aX,fY,h1,h2,q1,q2,q3,q3',q4,jD,stV,or_self,if_false]
def tM (len:Nat) (p w:Int):Nat:=if w<len then (if p=3∨p=4 then w.toNat+1 else w.toNat) else len
def rU (ws:List (List Int)) (p w:Int):List Int:=if p<1∨p>5∨w<0 then [] else RO.mT [] (ws.take (tM ws.length p w)).flatten
structure uQ (C:Ctx):Prop where
 concat:∀ ws:List (List Int),ws.length≤1000000→ws.flatten.length≤1000000→aD C 178 [lists ws] .nil (ahE ws.flatten)
 sort:∀ (o:Nat) (xs:List Int),xs≠[]→xs.length<4611686018427387904→aD C 180 [.osl o 1 0 xs.length] (PH.nil.set o (.rows 1 (bE xs))) (fun r H'=>r=.tup []∧H'=PH.nil.set o (.rows 1 (bE (sorted xs))))
 sort0:aD C 180 [.aB] .nil (fun r H'=>r=.tup []∧H'=.nil)
 compact:∀ (o:Nat) (xs:List Int),xs≠[]→xs.length<4611686018427387904→aD C 177 [.osl o 1 0 xs.length] (PH.nil.set o (.rows 1 (bE xs))) (fun r H'=>r=.osl o 1 0 (Lib.compact xs).length∧H'=PH.nil.set o (.rows 1 (bE (Lib.compact xs++bIP (xs.length-(Lib.compact xs).length) 0))))
 compact0:aD C 177 [.aB] .nil (fun r H'=>r=.aB∧H'=.nil)
theorem a4W (xs:List Int):(bE xs).length=xs.length:=by simp[bE]
theorem sZ {C:Ctx} (L:uQ C) (ws:List (List Int)) (h1:ws.length≤1000000) (h2:ws.flatten.length≤1000000) (n:Nat) (hn:n≤ws.length) (F:PF) (f0:F 0=some (lists ws)) (f5:F 5=some (.int .i64 n)) :
  aC.wp C (.seq (.region ajS) (.seq (.region RE) (.seq (.region RG) .ret))) (aU [.tmp 4] (bZ (ints (RO.mT [] (ws.take n).flatten)))) F .nil:=by
 have hr:(ws.map fun w=>[ints w]).take n=(ws.take n).map fun w=>[ints w]:=by rw[List.map_take]
 have hc1:(n:Int)≤(ws.length:Nat):=by omega
 simp only[go_sem,γ,δ,ε,ζ,η,θ,ι,κ,μ,ν,ξ,ο,ρ,σ,τ,υ,reduceIte,reduceCtorEq,ajS,f0,f5,hr,hc1]
 have hfl:=QM ws n
 refine fD (L.concat (ws.take n) (by rw[bJF]; omega) Om) Ev PH.nil_le ?_
 rw[← RO.aJR]
 generalize (ws.take n).flatten=xs at hfl
 intro r H' hr ha
 rcases hr with ⟨h0,rfl,rfl⟩ | ⟨h0,o,rfl,rfl⟩
 ·subst h0
  rw[PH.kS]
  simp only[go_sem,γ,δ,ε,ζ,η,θ,ι,κ,μ,ν,ξ,ο,ρ,σ,τ,υ,reduceIte,reduceCtorEq,RE]
  refine fD L.sort0 Ev PH.nil_le ?_
  rintro r H' ⟨rfl,rfl⟩ -
  rw[PH.kS]
  simp only[go_sem,γ,δ,ε,ζ,η,θ,ι,κ,μ,ν,ξ,ο,ρ,σ,τ,υ,reduceIte,reduceCtorEq,RG]
  refine fD L.compact0 Ev PH.nil_le ?_
  rintro r H' ⟨rfl,rfl⟩ -
  rw[PH.kS]
  simp only[go_sem,γ,δ,ε,ζ,η,θ,ι,κ,μ,ν,ξ,ο,ρ,σ,τ,υ,reduceIte,reduceCtorEq]
  have e:Lib.compact (RO.srt [])=[]:=by simp[RO.srt,Lib.compact,Lib.compactUpTo]
  rw[e]
  exact aW (vs:=[.aB]) (.inr rfl) .nil Ev PH.nil_le ⟨.nil 1,rfl⟩
 ·rw[PH.kB]
  simp only[go_sem,γ,δ,ε,ζ,η,θ,ι,κ,μ,ν,ξ,ο,ρ,σ,τ,υ,reduceIte,reduceCtorEq,RE]
  refine fD (L.sort o xs h0 Om) Ev PH.le_refl ?_
  rintro r H' ⟨rfl,rfl⟩ -
  rw[PH.lD,PH.set_set]
  simp only[go_sem,γ,δ,ε,ζ,η,θ,ι,κ,μ,ν,ξ,ο,ρ,σ,τ,υ,reduceIte,reduceCtorEq,RG]
  have hsl:(sorted xs).length=xs.length:=by simp[sorted]
  have hs0:sorted xs≠[]:=by
   intro e; rw[e] at hsl; exact h0 (bLZ hsl.symm)
  refine fD (L.compact o (sorted xs) hs0 Om) (by rw[hsl]; simp only[go_sem,γ,δ,ε,ζ,η,θ,ι,κ,μ,ν,ξ,ο,ρ,σ,τ,υ,reduceIte,reduceCtorEq]) PH.le_refl ?_
  rintro r H' ⟨rfl,rfl⟩ -
  rw[PH.lD,PH.set_set]
  simp only[go_sem,γ,δ,ε,ζ,η,θ,ι,κ,μ,ν,ξ,ο,ρ,σ,τ,υ,reduceIte,reduceCtorEq]
  refine aEC (o:=o) (s:=1) (k:=(Lib.compact (sorted xs)).length) (rs:=bE (Lib.compact (sorted xs)++bIP ((sorted xs).length-(Lib.compact (sorted xs)).length) 0)) (.inr rfl) Sq Sq (by rw[a4W,bIU]; omega) ⟨?_,rfl⟩
  have e:(bE (Lib.compact (sorted xs)++bIP ((sorted xs).length-(Lib.compact (sorted xs)).length) 0)).take (Lib.compact (sorted xs)).length=bE (Lib.compact (sorted xs)):=by
   unfold bE
   rw[bKJ,List.take_append_of_le_length (by rw[bIM]; exact bIO _),bJD (by rw[bIM]; exact bIO _)]
  rw[e]
  exact .refl _
theorem boK {C:Ctx} (L:uQ C) (ws:List (List Int)) (h1:ws.length≤1000000) (h2:ws.flatten.length≤1000000) (p w:Int) :
  OS.wp C (aU aGV.res (bZ (ints (rU ws p w)))) (PF.args [lists ws,.agg [.int .i64 p,.int .i64 w]]) .nil:=by
 simp only[go_sem,γ,δ,ε,ζ,η,θ,ι,κ,μ,ν,ξ,ο,ρ,σ,τ,υ,reduceIte,reduceCtorEq,OS,aTJ,aTK,aGV]
 by_cases c1:p<1
 ·simp only[go_sem,γ,δ,ε,ζ,η,θ,ι,κ,μ,ν,ξ,ο,ρ,σ,τ,υ,reduceIte,reduceCtorEq,c1,RB]
  refine aW (.inr rfl) .nil Ev PH.nil_le ⟨?_,rfl⟩
  simp only[rU,c1,true_or,if_true]; exact .nil 1
 simp only[go_sem,γ,δ,ε,ζ,η,θ,ι,κ,μ,ν,ξ,ο,ρ,σ,τ,υ,reduceIte,reduceCtorEq,c1]
 by_cases c2:p>5
 ·simp only[go_sem,γ,δ,ε,ζ,η,θ,ι,κ,μ,ν,ξ,ο,ρ,σ,τ,υ,reduceIte,reduceCtorEq,c2,RB]
  refine aW (.inr rfl) .nil Ev PH.nil_le ⟨?_,rfl⟩
  simp only[rU,c2,true_or,or_true,if_true]; exact .nil 1
 simp only[go_sem,γ,δ,ε,ζ,η,θ,ι,κ,μ,ν,ξ,ο,ρ,σ,τ,υ,reduceIte,reduceCtorEq,c2]
 by_cases c3:w<0
 ·simp only[go_sem,γ,δ,ε,ζ,η,θ,ι,κ,μ,ν,ξ,ο,ρ,σ,τ,υ,reduceIte,reduceCtorEq,c3,RB]
  refine aW (.inr rfl) .nil Ev PH.nil_le ⟨?_,rfl⟩
  simp only[rU,c3,or_true,if_true]; exact .nil 1
 simp only[go_sem,γ,δ,ε,ζ,η,θ,ι,κ,μ,ν,ξ,ο,ρ,σ,τ,υ,reduceIte,reduceCtorEq,c3]
 have hu:rU ws p w=RO.mT [] (ws.take (tM ws.length p w)).flatten:=by
  simp only[rU,c1,c2,c3,or_self,if_false]
 rw[hu]
 by_cases c4:w<ws.length
 ·have c5:¬ (ws.length:Int)<w:=by omega
  simp only[go_sem,γ,δ,ε,ζ,η,θ,ι,κ,μ,ν,ξ,ο,ρ,σ,τ,υ,reduceIte,reduceCtorEq,RC,c5,RD,c4]
  by_cases c6:p=3
  ·subst c6
   have e:tM ws.length 3 w=w.toNat+1:=by simp[tM,c4]
   rw[e]
   simp only[go_sem,γ,δ,ε,ζ,η,θ,ι,κ,μ,ν,ξ,ο,ρ,σ,τ,υ,reduceIte,reduceCtorEq,ajR]
   refine sZ L ws h1 h2 _ Om _ Sq (by simp only[go_sem,γ,δ,ε,ζ,η,θ,ι,κ,μ,ν,ξ,ο,ρ,σ,τ,υ,reduceIte,reduceCtorEq]; rw[wrap_i64 Om Om]; omega)
  simp only[go_sem,γ,δ,ε,ζ,η,θ,ι,κ,μ,ν,ξ,ο,ρ,σ,τ,υ,reduceIte,reduceCtorEq,bF c6]
  by_cases c7:p=4
  ·subst c7
   have e:tM ws.length 4 w=w.toNat+1:=by simp[tM,c4]
   rw[e]
   simp only[go_sem,γ,δ,ε,ζ,η,θ,ι,κ,μ,ν,ξ,ο,ρ,σ,τ,υ,reduceIte,reduceCtorEq,ajR]
   refine sZ L ws h1 h2 _ Om _ Sq (by simp only[go_sem,γ,δ,ε,ζ,η,θ,ι,κ,μ,ν,ξ,ο,ρ,σ,τ,υ,reduceIte,reduceCtorEq]; rw[wrap_i64 Om Om]; omega)
  have e:tM ws.length p w=w.toNat:=by simp[tM,c4,c6,c7]
  rw[e]
  simp only[go_sem,γ,δ,ε,ζ,η,θ,ι,κ,μ,ν,ξ,ο,ρ,σ,τ,υ,reduceIte,reduceCtorEq,bF c7]
  refine sZ L ws h1 h2 _ Om _ Sq (by simp only[go_sem,γ,δ,ε,ζ,η,θ,ι,κ,μ,ν,ξ,ο,ρ,σ,τ,υ,reduceIte,reduceCtorEq]; omega)
 ·have e:tM ws.length p w=ws.length:=by simp[tM,c4]
  rw[e]
  by_cases c5:(ws.length:Int)<w
  ·simp only[go_sem,γ,δ,ε,ζ,η,θ,ι,κ,μ,ν,ξ,ο,ρ,σ,τ,υ,reduceIte,reduceCtorEq,RC,c5,RD]
   refine sZ L ws h1 h2 _ (bIO _) _ Sq Sq
  ·have c6:w=(ws.length:Nat):=by omega
   subst c6
   simp only[go_sem,γ,δ,ε,ζ,η,θ,ι,κ,μ,ν,ξ,ο,ρ,σ,τ,υ,reduceIte,reduceCtorEq,RC,RD]
   refine sZ L ws h1 h2 _ (bIO _) _ Sq Sq
theorem ahE.heap {H H':PH} {xs:List Int} {r:PV} (h:ahE xs r H') (hap:kG H .nil H'):aS (H.eN .nil H') [] [(r,1,bE xs)]:=by
 rcases h with ⟨rfl,rfl,rfl⟩ | ⟨hne,o,rfl,rfl⟩
 ·rw[PH.kS]; exact aS.nil.qN 1
 ·rw[PH.kB]
  have:=(aS.nil (H:=H)).aBV (s:=1) (rows:=bE xs) (hap o _ (by rw[dM]) rfl)
  rw[cZ] at this
  exact this
structure Diff (n:Nat) (l:List Int):Prop where
 nd:l.Nodup
 rng:InR l n
theorem Diff.snoc {n:Nat} {l:List Int} {d:Int} (h:Diff n l) (h0:0≤d) (h1:d<n) (hc:l.contains d=false):Diff n (l++[d]):=by
 refine⟨?_,fun x hx=>?_⟩
 ·have:=aKK l d
  rw[hc,bJB,bKL] at this
  have h2:acF l=true:=decide_eq_true h.nd
  rw[h2] at this
  exact of_decide_eq_true this
 ·rcases bJY.1 hx with hx | hx
  ·exact h.rng x hx
  ·rw[bJU] at hx; subst hx; exact⟨h0,h1⟩
theorem aD.beX {C:Ctx} {name:Nat} {args:List PV} {H:PH} {ws:List (List Int)} {e:Int} (h:aD C name args H (aVK ws e)):aD C name args H (bZ (.tup [lists ws,.int .i64 e])) :=
 ⟨h.1,fun E w vs hN hW hvs=>(h.2 E w vs hN hW hvs).mono fun x w' he=>by
  obtain⟨u,pv,E',H',rfl,hW',hr,hE,vo,ps,rfl,hH,rfl⟩:=he
  obtain⟨φ,H1,k1,-,k3,-,k5,-⟩:=WC ps [] [] .nil hH (fun b hb=>by cases hb)
  obtain⟨E2,z1,z2,z3⟩:=(k5 (PF.nil.set 0 (.tup [vo,.int .i64 e]))).sound hW'
  have bIH:=z3 (fun _=>u) (fun i p hi=>by
   rw[lE] at hi
   split at hi
   ·cases hi; exact hr
   ·cases hi) 0 (.tup [φ vo,.int .i64 e]) (by rw[RH,lE,if_pos rfl,bJW,k3])
  refine⟨u,_,E2,.nil,rfl,z1.weaken PH.nil_le,bIH,(hE.trans z2).drop PH.nil_le,.tup rfl fun j p q hp hq=>?_,rfl⟩
  match j with
  | 0=>cases hp; cases hq; exact k1
  | 1=>cases hp; cases hq; exact .refl _
  | j+2=>cases hp⟩
abbrev fM (l:List Int):aL:=(dC l 3 0).1
abbrev aYK (l:List Int):List (List Int):=(cX l (fM l) (dC l 3 0).2 (fM l).bGK.length).1
abbrev pM (l:List Int):Nat:=(cX l (fM l) (dC l 3 0).2 (fM l).bGK.length).2
abbrev aEE (l:List Int):List Int:=(eW l (fF (fM l) []) (pM l)).1
structure a3F (C:Ctx):Prop extends CV C where
 fleet:∀ l:List Int,TpM l→∀ o vols a:Nat,vols≤50→a≤1000→aD C 244 [.ptr o 2 0 0,.int .i64 vols] (PH.nil.set o (bG l a)) (fun r H=>r=.agg (dC l vols a).1.cells∧H=PH.nil.set o (bG l (dC l vols a).2))
 layout:∀ l:List Int,TpM l→∀ (o a:Nat) (f:aL),a≤10000→FM f→VF f→1≤f.bGI.length→aD C 246 [.ptr o 2 0 0,.agg f.cells] (PH.nil.set o (bG l a)) (fun r H=>r=lay (cX l f a f.bGK.length).1∧H=PH.nil.set o (bG l (cX l f a f.bGK.length).2))
 rooms:∀ l:List Int,TpM l→∀ (o a:Nat) (f:aL),a≤10000→f.Ok→dS f=true→1≤f.bGI.length→aD C 248 [.ptr o 2 0 0,.agg f.cells] (PH.nil.set o (bG l a)) (fun r H=>r=ints (eW l (fF f []) a).1∧H=PH.nil.set o (bG l (eW l (fF f []) a).2))
def mdC (l R:List Int) (p:Nat):Spec:=fun _ vs=>match vs with
 | .ptr o _ _ _::_=>some ([o],fun _ r H'=>r=ints R∧H'=PH.nil.set o (bG l p))
 | _=>none
def aVJ (l:List Int) (r:PV) (H:PH):Prop:=∃ o,r=.tup [.agg ((fM l).cells++[lay (aYK l),ints (aEE l)]),.ptr o 2 0 0]∧H=PH.nil.set o (bG l (eW l (fF (fM l) []) (pM l)).2)
theorem bcW {C:Ctx} (Lb:a3F C) {l:List Int} (T:TpM l):EC.wp C (aU ZT.res (aVJ l)) (PF.args [ints l]) .nil:=by
 obtain⟨hF,hvl,-,hp1⟩:=xL l (bGK:=3) (by decide) 0
 have hv:=vS l (bGK:=3) (by decide) 0
 have hd0:=EN l 3 0
 have hV:=VF.of hv
 obtain⟨-,-,-,hp2⟩:=qI l hF (dC l 3 0).2 _ (bIO _)
 have hp2':pM l≤10000:=by
  show (cX l (dC l 3 0).1 (dC l 3 0).2 (dC l 3 0).1.bGK.length).2≤10000
  omega
 obtain⟨f,hfe⟩:∃ f,(dC l 3 0).1=f:=⟨_,rfl⟩
 obtain⟨p1,hp1e⟩:∃ p,(dC l 3 0).2=p:=⟨_,rfl⟩
 obtain⟨L,hLe⟩:∃ L,aYK l=L:=⟨_,rfl⟩
 obtain⟨p2,hp2e⟩:∃ p,pM l=p:=⟨_,rfl⟩
 obtain⟨R,hRe⟩:∃ R,aEE l=R:=⟨_,rfl⟩
 obtain⟨p3,hp3e⟩:∃ p,(eW l (fF (fM l) []) (pM l)).2=p:=⟨_,rfl⟩
 have cF:∀ o,aD C 244 [.ptr o 2 0 0,.int .i64 3] (PH.nil.set o (bG l 0)) (fun r H=>r=.agg f.cells∧H=PH.nil.set o (bG l p1)):=fun o=>by
  have:=Lb.fleet l T o 3 0 (by decide) (by decide)
  rw[hfe,hp1e] at this
  exact this
 have cL:∀ o,aD C 246 [.ptr o 2 0 0,.agg f.cells] (PH.nil.set o (bG l p1)) (fun r H=>r=lay L∧H=PH.nil.set o (bG l p2)):=fun o=>by
  have:=Lb.layout l T o (dC l 3 0).2 (dC l 3 0).1 Om hF hV hd0
  rw[show (cX l (dC l 3 0).1 (dC l 3 0).2 (dC l 3 0).1.bGK.length).1=L from hLe,show (cX l (dC l 3 0).1 (dC l 3 0).2 (dC l 3 0).1.bGK.length).2=p2 from hp2e,hfe,hp1e] at this
  exact this
 have cR:∀ o,aD C 248 [.ptr o 2 0 0,.agg f.cells] (PH.nil.set o (bG l p2)) (fun r H=>r=ints R∧H=PH.nil.set o (bG l p3)):=fun o=>by
  have:=Lb.rooms l T o (pM l) (fM l) hp2' hF.ok hv hd0
  rw[show (eW l (fF (fM l) []) (pM l)).1=R from hRe,hp3e,show fM l=f from hfe,hp2e] at this
  exact this
 have hR:∀ r H,aVJ l r H↔∃ o,r=.tup [.agg (f.cells++[lay L,ints R]),.ptr o 2 0 0]∧H=PH.nil.set o (bG l p3):=fun r H=>by
  rw[← hfe,← hLe,← hRe,← hp3e]
  exact Iff.rfl
 simp only[go_sem,γ,δ,ε,ζ,η,θ,ι,κ,μ,ν,ξ,ο,ρ,σ,τ,υ,reduceIte,reduceCtorEq,EC,avD,ZT]
 refine aQ fun o2 ho2=>?_
 have h1:aS (PH.nil.set o2 (.rows 9 [[.int .i64 0,.aB,.aB,.aB,.aB,.aB,.aB,.aB,.aB]])) [(o2,.rows 9 [[.int .i64 0,.aB,.aB,.aB,.aB,.aB,.aB,.aB,.aB]])] []:=aS.nil.new (H:=PH.nil) ho2 _
 simp only[go_sem,γ,δ,ε,ζ,η,θ,ι,κ,μ,ν,ξ,ο,ρ,σ,τ,υ,reduceIte,reduceCtorEq,avE]
 refine aQ fun o ho=>?_
 have h2:=h1.new ho (bG l 0)
 simp only[go_sem,γ,δ,ε,ζ,η,θ,ι,κ,μ,ν,ξ,ο,ρ,σ,τ,υ,reduceIte,reduceCtorEq,avF]
 refine AY (cF o) (h2.at 1 rfl) rfl ?_
 have h3:=h2.set 1 rfl (bG l p1)
 rw[PH.set_set] at h3
 simp only[go_sem,γ,δ,ε,ζ,η,θ,ι,κ,μ,ν,ξ,ο,ρ,σ,τ,υ,reduceIte,reduceCtorEq]
 refine aQ fun o5 ho5=>?_
 have h4:=h3.new ho5 (.rows 7 [f.cells])
 have n5:¬ o=o5:=h4.ne 1 2 rfl rfl (by decide)
 have n2:¬ o2=o5:=h4.ne 0 2 rfl rfl (by decide)
 have n02:¬ o2=o:=h4.ne 0 1 rfl rfl (by decide)
 have n5':¬ o5=o:=fun h=>n5 h.symm
 have n2':¬ o5=o2:=fun h=>n2 h.symm
 have n02':¬ o=o2:=fun h=>n02 h.symm
 simp only[go_sem,γ,δ,ε,ζ,η,θ,ι,κ,μ,ν,ξ,ο,ρ,σ,τ,υ,reduceIte,reduceCtorEq,avG,bJA,bJR,or_false,forall_eq,forall_eq_or_imp]
 refine AY (cL o) (h4.at 1 rfl) rfl ?_
 have h5:=h4.set 1 rfl (bG l p2)
 have b5:=h5.at 2 rfl
 simp only[go_sem,γ,δ,ε,ζ,η,θ,ι,κ,μ,ν,ξ,ο,ρ,σ,τ,υ,reduceIte,reduceCtorEq]
 refine bT (PH.nil.set o5 (.rows 7 [f.cells])) (mdC l R p3) (PH.aI PH.nil_le b5) ?_
 simp only[go_sem,γ,δ,ε,ζ,η,θ,ι,κ,μ,ν,ξ,ο,ρ,σ,τ,υ,reduceIte,reduceCtorEq,avH,n5,n2,n02,n5',n2',n02']
 have h6:=h5.set 1 rfl (bG l p3)
 have b6:=h6.at 2 rfl
 rw[PH.set_set] at h6
 refine auU (x:=bG l p2) (y:=bG l p3) (r:=ints R) (R:=fun _ r H'=>r=ints R∧H'=PH.nil.set o (bG l p3)) rfl (h5.at 1 rfl) (cR o) ⟨rfl,rfl⟩ (fun r' H' h=>h) rfl (PH.aI PH.nil_le b6) ?_
 simp only[go_sem,γ,δ,ε,ζ,η,θ,ι,κ,μ,ν,ξ,ο,ρ,σ,τ,υ,reduceIte,reduceCtorEq,n5,n2,n02,n5',n2',n02',bJA,bJR,or_false,forall_eq,forall_eq_or_imp]
 have h7:=h6.set 0 rfl (.rows 9 [f.cells++[lay L,ints R]])
 refine⟨PH.aI PH.nil_le (h7.at 2 rfl),?_⟩
 refine aW (vs:=[.agg (f.cells++[lay L,ints R]),.ptr o 2 0 0]) (.inr rfl) (PH.nil.set o (bG l p3)) ?_ (PH.aI PH.nil_le (h7.at 1 rfl)) ?_
 ·simp only[go_sem,γ,δ,ε,ζ,η,θ,ι,κ,μ,ν,ξ,ο,ρ,σ,τ,υ,reduceIte,reduceCtorEq,n02,n02',n2,n2']
  rfl
 ·rw[hR]
  exact⟨o,rfl,rfl⟩


def atC (xs ys:List Int) (i:Nat):PF:=(((PF.nil.set 0 (ints xs)).set 1 (ints ys)).set 4 (.bool false)).set 5 (.int .i64 i)
theorem bnM {C:Ctx} (xs ys:List Int) (bID:xs.length≤9223372036854775806):NU.wp C (aU same.res (aE (.bool (xs==ys)))) (PF.args [ints xs,ints ys]) .nil:=by
 simp only[go_sem,γ,δ,ε,ζ,η,θ,ι,κ,μ,ν,ξ,ο,ρ,σ,τ,υ,reduceIte,reduceCtorEq,NU,aRD,aRE,ints,same,bIM]
 refine kO (fun h=>?_) (fun h=>?_)
 ·simp only[go_sem,γ,δ,ε,ζ,η,θ,ι,κ,μ,ν,ξ,ο,ρ,σ,τ,υ,reduceIte,reduceCtorEq,aRF]
  refine aM (.inr rfl) Ev ?_
  have:¬ xs=ys:=by rintro rfl; simp at h
  simp[aX,this]
 ·have hl:xs.length=ys.length:=by simp at h; omega
  simp only[go_sem,γ,δ,ε,ζ,η,θ,ι,κ,μ,ν,ξ,ο,ρ,σ,τ,υ,reduceIte,reduceCtorEq,aRG]
  refine wp_loop (α:=Nat) (atC xs ys) (fun _=>.nil) (fun i=>i≤xs.length∧xs.take i=ys.take i) (fun i=>xs.length-i) 0 ⟨by omega,by simp⟩ ?_ PH.nil_le ?_
  ·unfold atC
   refine PF.aI (PF.aI (PF.aI (PF.aI PF.nil_le ?_) ?_) ?_) ?_<;>simp only[go_sem,γ,δ,ε,ζ,η,θ,ι,κ,μ,ν,ξ,ο,ρ,σ,τ,υ,reduceIte,reduceCtorEq,ints]<;>rfl
  ·rintro i ⟨hi,htake⟩
   simp only[go_sem,γ,δ,ε,ζ,η,θ,ι,κ,μ,ν,ξ,ο,ρ,σ,τ,υ,reduceIte,reduceCtorEq,aRC,aRH,atC,ints,bIM]
   refine kO (fun h=>?_) (fun h=>?_)
   ·have hlt:i<xs.length:=by simpa using h
    simp only[go_sem,γ,δ,ε,ζ,η,θ,ι,κ,μ,ν,ξ,ο,ρ,σ,τ,υ,reduceIte,reduceCtorEq]
    refine bT .nil eG PH.nil_le ?_
    have hx:(xs.map fun n=>[PV.int .i64 n])[i]?=some [.int .i64 xs[i]]:=by simp[hlt]
    have hy:(ys.map fun n=>[PV.int .i64 n])[i]?=some [.int .i64 ys[i]]:=by simp[show i<ys.length by omega]
    simp only[go_sem,γ,δ,ε,ζ,η,θ,ι,κ,μ,ν,ξ,ο,ρ,σ,τ,υ,reduceIte,reduceCtorEq,aRI,bLM,Int.natCast_nonneg,hx,hy,loadCells,bJC,bIO]
    refine kO (fun h2=>?_) (fun h2=>?_)
    ·simp only[go_sem,γ,δ,ε,ζ,η,θ,ι,κ,μ,ν,ξ,ο,ρ,σ,τ,υ,reduceIte,reduceCtorEq,aRJ]
     refine aM (.inr rfl) Ev ?_
     have hne:xs[i]≠ys[i]:=by simpa using h2
     have:¬ xs=ys:=by rintro rfl; simp at hne
     simp[aX,this]
    ·have he:xs[i]=ys[i]:=by simpa using h2
     simp only[go_sem,γ,δ,ε,ζ,η,θ,ι,κ,μ,ν,ξ,ο,ρ,σ,τ,υ,reduceIte,reduceCtorEq,aRK]
     refine aK (i+1) ⟨by omega,?_⟩ Om ?_ PH.nil_le
     ·rw[bKK hlt,bKK (by omega:i<ys.length),htake,he]
     ·unfold atC
      have hw:IntKind.i64.wrap ((i:Int)+1)=((i+1:Nat):Int):=by
       exact dE Om
      refine PF.aI (PF.aI (PF.aI (PF.aI PF.nil_le ?_) ?_) ?_) ?_<;>simp only[go_sem,γ,δ,ε,ζ,η,θ,ι,κ,μ,ν,ξ,ο,ρ,σ,τ,υ,reduceIte,reduceCtorEq,ints,hw]
   ·have hge:i=xs.length:=by simp at h; omega
    simp only[go_sem,γ,δ,ε,ζ,η,θ,ι,κ,μ,ν,ξ,ο,ρ,σ,τ,υ,reduceIte,reduceCtorEq,aRL]
    refine aM (.inr rfl) Ev ?_
    subst hge
    have:xs=ys:=by
     rw[bJN] at htake
     rw[htake,hl,bJN]
    simp[aX,this]


def wvT (f:aL) (now:List (List Int)) (r:Int):PV:=.tup [lists (kC f now r),.int .i64 (oC f now r)]
structure a3H (C:Ctx):Prop where
 within:∀ x n:Int,InK .i64 n→aD C 24 [.int .i64 x,.int .i64 n] .nil (aE (.int .i64 (wi x n)))
 awak:aD C 26 [] .nil (aE (.bool true))
 made:∀ l:List Int,TpM l→aD C 249 [ints l] .nil (aVJ l)
theorem a1S (f:aL) (now:List (List Int)) (r:Int):(kC f now r).flatten.length≤f.bGI.length∧(kC f now r).length≤f.bGI.length∧∀ w∈kC f now r,w.length≤f.bGI.length:=by
 by_cases c:oC f now r=0
 ·obtain⟨hu,ha⟩:=KI c
  have k:=yM ha f.bGI.length (bIO _)
  have e:kC f now r=oN f now r f.bGI.length:=by unfold kC; rw[if_pos c]
  rw[← e] at k
  refine⟨Nat.le_of_eq k.len,?_,fun w hw=>?_⟩
  ·have:=(aVO.of (ps:=(kC f now r).map fun w=>(PV.aB,w)) ha (bIO _) (by unfold wls; rw[List.map_map,e]; exact List.map_id _)).num
   rwa [bIM] at this
  ·have:=(List.sublist_flatten_of_mem hw).length_le
   rw[k.len] at this
   exact this
 ·have e:kC f now r=[]:=by unfold kC; rw[if_neg c]
  rw[e]
  exact⟨bIX _,bIX _,fun w hw=>by cases hw⟩
theorem bAQ:InK .i64 2:=⟨by decide,by decide⟩
structure aVI (f:aL) (L:List (List Int)):Prop where
 ok:f.Ok
 val:dS f=true
 lay:jH L
 shp:tD f L
theorem btM (l:List Int):aVI (fM l) (aYK l) :=
 {val:=vS l (bGK:=3) (by decide) 0
  ok:=(xL l (bGK:=3) (by decide) 0).1.ok
  shp:=a4Z l 3 0 (dC l 3 0).2 (by decide)
  lay:=(a4Z l 3 0 (dC l 3 0).2 (by decide)).ok (VF.of (vS l (bGK:=3) (by decide) 0)) }

theorem tD.move {f:aL} {L:List (List Int)} (h:tD f L) {x k d:Nat} (hx:x<L.length) (hd:d<f.bGI.length):tD f (L.set x (L[x].set k d)):=by
 refine⟨by rw[bKI]; exact h.len,fun v hv=>?_,fun r hr=>?_⟩
 ·rw[bKI] at hv
  have:=h.row v hv
  rw[List.getElem_set]
  split
  ·rename_i e
   subst e
   rw[bKI]; exact this
  ·exact this
 ·rcases List.mem_or_eq_of_mem_set hr with hr | rfl
  ·exact h.home r hr
  ·intro y hy
   rcases List.mem_or_eq_of_mem_set hy with hy | rfl
   ·exact h.home _ (bIR hx) y hy
   ·omega

theorem a7W (f:aL) (l:List (List Int)) (v:Nat):(lZ f l v).isNone=(decide (((l.getD v []).length:Int)=fA f v)&&!decide (CY f (l.getD v [])≥0)):=by
 unfold lZ CY
 split
 ·rename_i c
  rw[decide_eq_true c]
  cases fO (jQ f) (l.getD v []) 0 with
  | none=>rfl
  | some i=>simp
 ·rename_i c
  rw[decide_eq_false c]; rfl
def ssS (f:aL) (row:List Int):Spec:=fun name vs=>match name,vs with
 | 89,_=>some ([],fun _=>aE (.int .i64 (CY f row)))
 | 82,[_,.int _ v]=>some ([],fun _=>aE (.int .i64 (fA f v.toNat)))
 | _,_=>none
theorem bgV (f:aL) (row:List Int) (v:Nat):ssS f row 82 [.agg f.cells,.int .i64 v]=some ([],fun _=>aE (.int .i64 (fA f v))):=rfl




theorem aXR {f:aL} (hv:dS f=true) {l:List (List Int)} (hS:tD f l):jC f l=true:=by
 unfold jC
 rw[hv,decide_eq_true hS.len,bIY,bIY,bJJ]
 intro v hm
 rw[hS.shape (bKB.1 hm)]
 rfl
theorem buU (x:Int) {n:Int} (hn:1≤n):0≤wi x n∧wi x n<n:=by
 have h1:=Int.tmod_lt_of_pos x (Om:0<n)
 have h2:=Int.lt_tmod_of_pos x (Om:0<n)
 unfold wi
 rw[if_neg Om]
 split<;>omega
theorem aVI.usable {f:aL} {L:List (List Int)} (h:aVI f L) {r:Int} (h0:0≤r) (h4:r≤4):jP f L r=true:=by
 unfold jP
 rw[h.val,aXR h.val h.shp,decide_eq_true h0,decide_eq_true h4]
 rfl
theorem aS.aB {H:PH} {B:List BX} {L:List LI} (h:aS H B L):∀ m,aS H B (L++lN (bIP m (.aB,[])))
 | 0=>by
  show aS H B (L++[])
  rw[bKM]; exact h
 | m+1=>by
  have:=(aS.aB h m).qN 1
  rw[bJM] at this
  have e:lN (bIP (m+1) (PV.aB,([]:List Int)))=lN (bIP m (.aB,[]))++[(.aB,1,[])]:=by
   unfold lN
   rw[List.replicate_succ',bKJ]
   rfl
  rw[e]
  exact this
structure biV (C:Ctx):Prop where
 begin:∀ n:Int,aD C 144 [.int .i64 n] .nil (aE (qC n))
 step:∀ n p w e:Int,aD C 145 [.int .i64 n,.agg [.int .i64 p,.int .i64 w],.int .i64 e] .nil (aE (jD (fY n p w e)))
 same:∀ xs ys:List Int,xs.length≤9223372036854775806→aD C 91 [ints xs,ints ys] .nil (aE (.bool (xs==ys)))
 upd:∀ (ws:List (List Int)) (p w:Int),ws.length≤1000000→ws.flatten.length≤1000000→aD C 146 [lists ws,.agg [.int .i64 p,.int .i64 w]] .nil (aE (ints (rU ws p w)))
theorem a3J {C:Ctx} (L:biV C):CX.wp C (aU YB.res (aE (.bool true))) (PF.args []) .nil:=by
 simp only[go_sem,γ,δ,ε,ζ,η,θ,ι,κ,μ,ν,ξ,ο,ρ,σ,τ,υ,reduceIte,reduceCtorEq,CX,auE,auF,YB]
 refine aA (L.begin 1) Ev ?_
 simp only[go_sem,γ,δ,ε,ζ,η,θ,ι,κ,μ,ν,ξ,ο,ρ,σ,τ,υ,reduceIte,reduceCtorEq,qC]
 refine aQ fun o1 k1=>?_
 simp only[go_sem,γ,δ,ε,ζ,η,θ,ι,κ,μ,ν,ξ,ο,ρ,σ,τ,υ,reduceIte,reduceCtorEq,auG]
 refine aA (L.step 1 1 0 1) Ev ?_
 rw[show fY 1 1 0 1=((2,0),0) by decide]
 simp only[go_sem,γ,δ,ε,ζ,η,θ,ι,κ,μ,ν,ξ,ο,ρ,σ,τ,υ,reduceIte,reduceCtorEq,jD,stV]
 refine aQ fun o2 k2=>?_
 have n21:¬ o2=o1:=(cV.1 k2).1
 have n12:¬ o1=o2:=fun h=>n21 h.symm
 simp only[go_sem,γ,δ,ε,ζ,η,θ,ι,κ,μ,ν,ξ,ο,ρ,σ,τ,υ,reduceIte,reduceCtorEq,auH,n21,n12]
 refine aA (L.step 1 2 0 2) Ev ?_
 rw[show fY 1 2 0 2=((3,0),0) by decide]
 simp only[go_sem,γ,δ,ε,ζ,η,θ,ι,κ,μ,ν,ξ,ο,ρ,σ,τ,υ,reduceIte,reduceCtorEq,jD,stV,n21,n12]
 refine aQ fun o4 k4=>?_
 have n42:¬ o4=o2:=(cV.1 k4).1
 have n41:¬ o4=o1:=(cV.1 (cV.1 k4).2).1
 have n24:¬ o2=o4:=fun h=>n42 h.symm
 have n14:¬ o1=o4:=fun h=>n41 h.symm
 simp only[go_sem,γ,δ,ε,ζ,η,θ,ι,κ,μ,ν,ξ,ο,ρ,σ,τ,υ,reduceIte,reduceCtorEq,auI,n21,n12,n42,n41,n24,n14]
 refine aA (L.step 1 3 0 3) Ev ?_
 rw[show fY 1 3 0 3=((4,0),0) by decide]
 simp only[go_sem,γ,δ,ε,ζ,η,θ,ι,κ,μ,ν,ξ,ο,ρ,σ,τ,υ,reduceIte,reduceCtorEq,jD,stV,n21,n12,n42,n41,n24,n14]
 refine aQ fun o6 k6=>?_
 have n64:¬ o6=o4:=(cV.1 k6).1
 have n62:¬ o6=o2:=(cV.1 (cV.1 k6).2).1
 have n61:¬ o6=o1:=(cV.1 (cV.1 (cV.1 k6).2).2).1
 have n46:¬ o4=o6:=fun h=>n64 h.symm
 have n26:¬ o2=o6:=fun h=>n62 h.symm
 have n16:¬ o1=o6:=fun h=>n61 h.symm
 simp only[go_sem,γ,δ,ε,ζ,η,θ,ι,κ,μ,ν,ξ,ο,ρ,σ,τ,υ,reduceIte,reduceCtorEq,auJ,n21,n12,n42,n41,n24,n14,n64,n62,n61,n46,n26,n16]
 refine aA (L.step 1 4 0 1) Ev ?_
 rw[show fY 1 4 0 1=((0,0),110) by decide]
 simp only[go_sem,γ,δ,ε,ζ,η,θ,ι,κ,μ,ν,ξ,ο,ρ,σ,τ,υ,reduceIte,reduceCtorEq,jD,stV]
 refine aQ fun o8 k8=>?_
 have n86:¬ o8=o6:=(cV.1 k8).1
 have n81:¬ o8=o1:=(cV.1 (cV.1 (cV.1 (cV.1 k8).2).2).2).1
 have n68:¬ o6=o8:=fun h=>n86 h.symm
 have n18:¬ o1=o8:=fun h=>n81 h.symm
 simp only[go_sem,γ,δ,ε,ζ,η,θ,ι,κ,μ,ν,ξ,ο,ρ,σ,τ,υ,reduceIte,reduceCtorEq,auK,n21,n12,n42,n41,n24,n14,n64,n62,n61,n46,n26,n16,n86,n81,n68,n18]
 refine aA (L.upd [[2,1]] 4 0 (by decide) (by decide)) Ev ?_
 rw[show rU [[2,1]] 4 0=[1,2] by decide]
 simp only[go_sem,γ,δ,ε,ζ,η,θ,ι,κ,μ,ν,ξ,ο,ρ,σ,τ,υ,reduceIte,reduceCtorEq]
 refine aA (L.same [1,2] [1,2] (by decide)) Ev ?_
 simp only[go_sem,γ,δ,ε,ζ,η,θ,ι,κ,μ,ν,ξ,ο,ρ,σ,τ,υ,reduceIte,reduceCtorEq,show (([1,2]:List Int)==[1,2])=true from rfl]
 refine aA (L.begin 0) Ev ?_
 simp only[go_sem,γ,δ,ε,ζ,η,θ,ι,κ,μ,ν,ξ,ο,ρ,σ,τ,υ,reduceIte,reduceCtorEq,qC]
 refine aM (.inr rfl) Ev ?_
 rfl
end Go.PM
