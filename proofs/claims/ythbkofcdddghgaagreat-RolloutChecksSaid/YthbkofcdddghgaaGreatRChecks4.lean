/-
  Texts of ours, joined: MdCode R1Code R1W1 R1W2 R1W3 R1W4 MkPlain MdPlain Mv1 MdP2 MkCode MkW1 MkW2 MkW3 MkW4 MkW5 MkW6 MkW7 MkW8 MkW9 MkW10 MkW11 MkW12 MkW13 MkW14 MkW15 MkW16 MdW1 MdW2 MdW3 MdW4 MdW5 MdW6 MdW7 MdW8 Mv2 Mv3. No condition.
-/
import Derived.Test.YthbkofcdddghgaaGreatRChecks1
import Derived.Test.YthbkofcdddghgaaGreatRChecks2
import Derived.Test.YthbkofcdddghgaaGreatRChecks3
import Derived.Lib.ItoaNum
import Derived.Shelf.Sort.Plain
import Derived.Shelf.Slices.CompactI
import Derived.Shelf.Slices.In.SortNone
set_option linter.unusedSimpArgs false
set_option linter.unusedVariables false
open Nat renaming reduceEqDiff → γ, reduceAdd → δ, reduceSub → ε, reduceMul → ζ, reduceLT → η, reduceLeDiff → θ, reduceBEq → τ
open Int renaming reduceLT → ι, reduceLE → κ, reduceEq → μ, reduceToNat → ν, reduceAdd → ξ, reduceNeg → ο, reduceBEq → ρ, reduceBNe → σ
open List renaming reduceReplicate → υ
open List renaming length_map → bJT, range → bJU, replicate → bJW, getElem_mem → bJX, length_append → bKA, getElem?_eq_getElem → bKD, length_singleton → bKH, mem_cons → bKJ, take_of_length_le → bKK, length_take → bKL, getD_eq_getElem?_getD → bKO, all_eq_true → bKQ, take_length → bKS, append_assoc → bKU, getElem?_eq_some_iff → bKV, drop_zero → bKW, mem_map → bKX, getElem?_map → bKZ, not_mem_nil → bLB, mem_singleton → bLD, getElem?_eq_none → bLG, mem_append → bLH, mem_range → bLI, take_succ_eq_append_getElem → bLK, append_nil → bLM, drop_eq_getElem_cons → bLP, length_set → bLQ, Sublist → bLR, getElem?_append_right → bLS, length_cons → bLU, length_drop → bLV, map_append → bLW, map_cons → bLX, getElem_of_mem → bMA, getElem_map → bMC, length_nil → bMD, nodup_append → bME, take_append_drop → bMF, getElem?_append_left → bMH, mem_of_getElem? → bMK, nil_append → bML, getElem?_take_of_lt → bMO, getElem?_take → bMY, set_append_right → bMZ, contains_iff_mem → bNE, drop_of_length_le → bNF, flatten_cons → bNG, getElem?_drop → bNH, length_replicate → bNI, eq_nil_of_length_eq_zero → bNJ
open Nat renaming le_refl → bJV, gcd → bJY, zero_le → bKF, mul_add → bKG, lt_or_ge → bKM, zero_add → bKN, mul_assoc → bKP, mul_comm → bKT, add_mul → bKY, mul_le_mul_right → bLA, mod_eq_of_lt → bLE, mod_lt → bLJ, add_zero → bLL, pow_succ → bLN, min_eq_left → bLY, mul_le_mul_left → bLZ, pos_of_ne_zero → bMB, add_assoc → bMG, sub_self → bMI, pow_pos → bMM, div_lt_iff_lt_mul → bMP, le_trans → bMQ, eq_zero_or_pos → bMT, div_add_mod → bNA, div_eq_of_lt → bNB
open Bool renaming false_and → bJZ, not_true → bKC, true_and → bKE, not_false → bKI, and_eq_true → bKR, and_false → bLC, and_true → bLT, and_assoc → bMS, false_eq_true → bMU
open Option renaming map_eq_some_iff → bKB, map_some → bLF, getD_some → bMJ, some → bMN, bind_eq_some_iff → bMV, bind_some → bNC
open Array renaming replicate → bLO, length_toList → bMR, getElem?_eq_getElem → bMW, getElem?_eq_some_iff → bND
open Int renaming toNat_natCast → bMX
namespace Go.PM
open Go
def ayV:Rg:=[iI 4 0]
def ayW:Rg:=[iM 7 0,iA 8 (.bIE (Tm 7)),iF 9 1 8,iL 10 9,iC 11 .rem 10 3,iM 5 11]
def ayX:Rd:=[(iM 12 0,false),(iA 13 (.bIE (Tm 12)),false),(iF 14 1 13,false),(iL 15 14,false),(iM 16 0,false),(iA 17 (.bIE (Tm 16)),false),(iF 18 0 17,false),(iL 19 18,false),(iN 20 19,false),(iB 21 .lss 15 20,false)]
def ayY:Rd:=[(iM 22 0,false),(iA 23 (.bIE (Tm 22)),false),(iF 24 0 23,false),(iL 25 24,false),(iM 26 0,false),(iA 27 (.bIE (Tm 26)),false),(iF 28 1 27,false),(iL 29 28,false),(iX 30 1 25 29,false),(iL 31 30,false),(iM 5 31,false)]
def WP:Rg:=[iM 32 0,iA 33 (.bIE (Tm 32)),iF 34 1 33,iL 35 34,iC 36 .add 35 1,iA 37 (.bIE (Tm 32)),iF 38 1 37,iS 1 38 36]
def WQ:Rg:=[iM 39 1,iC 40 .lss 39 1]
def WR:Rg:=[iI 4 0]
def WS:Rg:=[iM 41 5,iM 42 1,iB 43 .rem 41 42,iM 6 43]
def WT:Rg:=[iM 44 6,iC 45 .lss 44 0]
def WU:Rg:=[iM 46 6,iM 47 1,iB 48 .add 46 47,iM 4 48]
def LZ:Rg:=[iM 49 6,iM 4 49]
def FQ:aC:=(sq ayV (sq ayW (.seq (dq ayX (.cond (Tm 21) (.draw ayY) .skip)) (sq WP (.seq (sq WQ (.cond (Tm 40) (sq WR .ret) .skip)) (sq WS (.seq (sq WT (.cond (Tm 45) (sq WU .ret) .skip)) (sq LZ .ret))))))))
def beX:List Nat:=[]
def FP:aW:=⟨2,50,FQ,[.tmp 4]⟩
def ayI:Rg:=[iA 4 (.alloc [(.bool false),.aB,.aB])]
def ayJ:Rg:=[iM 8 0,iM 9 1,iK2 10 50 8 9,iM 7 10,iE 11 7 0,iE 12 7 1,iA 5 (.alloc [(.bool false),.aB,.aB]),iS 3 5 11,iM 6 12]
def ayK:Rg:=[iO 13 3 5,iS 3 4 13]
def FK:aC:=(sq ayI (sq ayJ (sq ayK .ret)))
def beO:List Nat:=[]
def abM:aW:=⟨2,14,FK,[.cell 4 (some 3)]⟩
def ayT:Rg:=[iA 4 (.mv (.const (.str [])))]
def ayU:Rg:=[iM 5 0,iM 6 1,iC 7 .quo 6 26,iC 8 .rem 7 26,iA 9 (.bin .add (Ci 97) (Tm 8)),iA 10 (.conv .u8 (Tm 9)),iM 11 1,iC 12 .rem 11 26,iA 13 (.bin .add (Ci 97) (Tm 12)),iA 14 (.conv .u8 (Tm 13)),iA 15 (.bHV true 1 3 [(.int .u8 0)] [(0,(Tm 5)),(1,(Tm 10)),(2,(Tm 14))]),iA 16 (.bIF (Tm 15)),iM 4 16]
def FO:aC:=(sq ayT (sq ayU .ret))
def beV:List Nat:=[15]
def abY:aW:=⟨2,17,FO,[.tmp 4]⟩
def aPB:Rg:=[iI 8 0]
def aPC:Rg:=[iM 10 0,iA 11 (.bIE (Tm 10)),iF 12 3 11,iL 13 12,iN 14 13,iM 9 14]
def aPD:Rd:=[(iM 15 0,true),(iM 16 0,true),(iA 17 (.bIE (Tm 16)),true),(iF 18 3 17,true),(iL 19 18,true),(iM 20 9,false),(iA 21 (.call 242 [(.const (.int .u8 110)),(Tm 20)]),true),(iM 22 1,true),(iM 23 2,true),(iM 24 3,true),(iA 25 (.call 241 [(Ci 0),(Ci 1)]),true),(iA 26 (.build [(.str []),(.int .i64 0),(.int .i64 0),(.int .i64 0),(.bool false),.aB,.aB] [(0,1,(Tm 21)),(1,1,(Tm 22)),(2,1,(Tm 23)),(3,1,(Tm 24)),(4,3,(Tm 25))]),false),(iA 27 (.bHV true 7 1 [(.str []),(.int .i64 0),(.int .i64 0),(.int .i64 0),(.bool false),.aB,.aB] [(0,(Tm 26))]),false),(iA 28 (.append 7 96 (Tm 19) (Tm 27)),true),(iA 29 (.bIE (Tm 15)),false),(iF 30 3 29,false)]
def aPE:Rd:=[(iS 1 30 28,true)]
def aPF:Rg:=[iM 31 9,iM 8 31]
def LS:aC:=(sq aPB (sq aPC (.seq (dq aPD (.draw aPE)) (sq aPF .ret))))
def blG:List Nat:=[27]
def ayG:aW:=⟨4,32,LS,[.tmp 8]⟩
def anX:Rg:=[iA 4 (.alloc [(.int .i64 0),.aB,.aB,.aB,.aB,.aB,.aB])]
def anY:Rg:=[iM 20 0,iA 21 (.call 240 [(Tm 20),(Ci 2)]),iA 22 (.bin .add (Ci 1) (Tm 21)),iA 23 (.build [(.int .i64 0),.aB,.aB,.aB,.aB,.aB,.aB] [(0,1,(Tm 22))]),iA 5 (.alloc [(.int .i64 0),.aB,.aB,.aB,.aB,.aB,.aB]),iS 7 5 23]
def anZ:Rg:=[iA 24 (.call 241 [(Ci 1),(Ci 1)]),iA 25 (.bHV true 3 1 [(.bool false),.aB,.aB] [(0,(Tm 24))]),iA 26 (.call 241 [(Ci 0),(Ci 1)]),iA 27 (.bHV true 3 1 [(.bool false),.aB,.aB] [(0,(Tm 26))]),iA 28 (.bHV true 1 1 [.aB] [(0,(Tm 27))]),iM 29 0,iA 30 (.call 240 [(Tm 29),(Ci 100)]),iA 31 (.bin .add (Ci 100) (Tm 30)),iA 32 (.call 241 [(Ci 1),(Tm 31)]),iA 33 (.bHV true 3 1 [(.bool false),.aB,.aB] [(0,(Tm 32))]),iA 34 (.build [(.str []),.aB,.aB,.aB] [(0,1,(.const (.str [100,105,115,107]))),(1,1,(Tm 25)),(2,1,(Tm 28)),(3,1,(Tm 33))]),iA 35 (.bHV true 4 1 [(.str []),.aB,.aB,.aB] [(0,(Tm 34))]),iF 36 1 5,iS 1 36 35]
def aoA:Rg:=[iM 37 0,iA 38 (.call 240 [(Tm 37),(Ci 2)]),iA 39 (.bin .add (Ci 3) (Tm 38)),iM 40 0,iA 41 (.call 240 [(Tm 40),(Ci 9)]),iA 42 (.bin .add (Ci 8) (Tm 41)),iA 43 (.build [(.str []),(.int .i64 0),(.int .i64 0),(.int .i64 0)] [(0,1,(.const (.str [98,105,103]))),(1,1,(Tm 39)),(2,1,(Tm 42)),(3,1,(Ci 0))]),iM 44 0,iA 45 (.call 240 [(Tm 44),(Ci 3)]),iA 46 (.bin .add (Ci 1) (Tm 45)),iM 47 0,iA 48 (.call 240 [(Tm 47),(Ci 9)]),iA 49 (.bin .add (Ci 4) (Tm 48)),iA 50 (.build [(.str []),(.int .i64 0),(.int .i64 0),(.int .i64 0)] [(0,1,(.const (.str [111,108,100]))),(1,1,(Tm 46)),(2,1,(Tm 49)),(3,1,(Ci 0))]),iA 51 (.bHV true 4 2 [(.str []),(.int .i64 0),(.int .i64 0),(.int .i64 0)] [(0,(Tm 43)),(1,(Tm 50))]),iF 52 2 5,iS 1 52 51]
def aoB:Rg:=[iA 53 (.call 241 [(Ci 0),(Ci 1)]),iA 54 (.build [(.str []),(.int .i64 0),(.int .i64 0),(.int .i64 0),(.bool false),.aB,.aB] [(2,1,(Ci (-1))),(4,3,(Tm 53))]),iA 55 (.bHV false 7 1 [(.str []),(.int .i64 0),(.int .i64 0),(.int .i64 0),(.bool false),.aB,.aB] [(0,(Tm 54))]),iF 56 3 5,iS 1 56 55]
def aoC:Rg:=[iM 57 0,iA 58 (.call 240 [(Tm 57),(Ci 3)]),iA 59 (.bin .add (Ci 3) (Tm 58)),iM 6 59]
def aoD:Rg:=[iI 7 0,iI 8 0,iI 9 0]
def aoE:Rg:=[iI 10 0]
def aoF:Rg:=[iM 60 10,iM 61 6,iB 62 .lss 60 61]
def aoG:Rg:=[iM 65 10,iC 66 .eql 65 0,iM 67 66,gM 68 0 67 false,iG 69 (.call 240 [(Tm 68),(Ci 4)]) 67 false,gC 70 .eql 69 0 67 false,iQ 71 67 70]
def EV:Rg:=[iM 72 0,iA 73 (.call 240 [(Tm 72),(Ci 17)]),iA 74 (.bin .add (Ci 16) (Tm 73)),iA 75 (.call 243 [(Tm 5),(Ci 1),(Ci 0),(Tm 74)]),iM 7 75]
def EW:Rg:=[iM 76 7,iM 77 0,iA 78 (.call 240 [(Tm 77),(Ci 17)]),iA 79 (.bin .add (Ci 16) (Tm 78)),iA 80 (.call 243 [(Tm 5),(Ci 2),(Tm 76),(Tm 79)]),iM 8 80]
def EX:Rg:=[iM 81 8,iM 82 0,iA 83 (.call 240 [(Tm 82),(Ci 9)]),iA 84 (.bin .add (Ci 8) (Tm 83)),iA 85 (.call 243 [(Tm 5),(Ci 3),(Tm 81),(Tm 84)]),iM 9 85]
def aaR:Rg:=[iM 86 0,iA 87 (.call 240 [(Tm 86),(Ci 2)]),iC 88 .eql 87 0]
def aaS:Rg:=[iM 89 8,iM 90 0,iA 91 (.call 240 [(Tm 90),(Ci 9)]),iA 92 (.bin .add (Ci 8) (Tm 91)),iA 93 (.call 243 [(Tm 5),(Ci 3),(Tm 89),(Tm 92)]),iM 9 93]
def uI:Rg:=[iM 94 9,iM 95 0,iA 96 (.call 240 [(Tm 95),(Ci 9)]),iA 97 (.bin .add (Ci 8) (Tm 96)),iA 98 (.call 243 [(Tm 5),(Ci 4),(Tm 94),(Tm 97)]),iM 11 98]
def uJ:Rg:=[iM 99 0,iA 100 (.call 240 [(Tm 99),(Ci 2)]),iA 101 (.bin .add (Ci 1) (Tm 100)),iM 12 101]
def aaT:Rg:=[iM 102 12,iC 103 .gtr 102 0,iM 104 103,gF 105 4 5 104 true,gL 106 105 104 true,gN 107 106 104 true,gC 108 .lss 107 9 104 true,iP 109 104 108]
def aaU:Rg:=[iI 13 0]
def aaV:Rg:=[iM 112 0,iA 113 (.call 240 [(Tm 112),(Ci 4)]),iC 114 .eql 113 0]
def aaW:Rg:=[iI 13 1]
def EY:Rd:=[(iF 115 4 5,true),(iL 116 115,true),(iF 117 4 5,false),(iL 118 117,false),(iN 119 118,false),(iA 120 (.call 242 [(.const (.int .u8 100)),(Tm 119)]),true),(iM 121 13,true),(iM 122 11,true),(iA 123 (.build [(.str []),(.int .i64 0),(.int .i64 0)] [(0,1,(Tm 120)),(1,1,(Tm 121)),(2,1,(Tm 122))]),false),(iA 124 (.bHV true 3 1 [(.str []),(.int .i64 0),(.int .i64 0)] [(0,(Tm 123))]),false),(iA 125 (.append 3 32 (Tm 116) (Tm 124)),true),(iF 126 4 5,false)]
def EZ:Rd:=[(iS 1 126 125,true)]
def FA:Rg:=[iM 110 12,iC 111 .sub 110 1,iM 12 111]
def qM:aC:=(.seq (sq aaT (.cond (Tm 109) .skip (.exit 2))) (.seq (.block 3 (sq aaU (.seq (sq aaV (.cond (Tm 114) (.region aaW) .skip)) (dq EY (.draw EZ))))) (.region FA)))
def FB:Rg:=[iM 63 10,iC 64 .add 63 1,iM 10 64]
def ER:aC:=(.seq (sq aoF (.cond (Tm 62) .skip (.exit 0))) (.seq (.block 1 (.seq (sq aoG (.cond (Tm 71) (sq EV (sq EW (.region EX))) (sq aaR (.cond (Tm 88) (.region aaS) .skip)))) (sq uI (sq uJ (.block 2 (.loop qM)))))) (.region FB)))
def aaX:Rg:=[iM 127 0,iA 128 (.call 240 [(Tm 127),(Ci 2)]),iA 129 (.bin .add (Ci 1) (Tm 128)),iM 14 129]
def aaY:Rg:=[iM 130 14,iC 131 .gtr 130 0]
def FC:Rg:=[iM 134 0,iA 135 (.call 240 [(Tm 134),(Ci 2)]),iA 136 (.bin .add (Ci 1) (Tm 135)),iM 15 136]
def FD:Rg:=[iM 137 0,iA 138 (.call 240 [(Tm 137),(Ci 3)]),iM 16 138]
def FF:Rg:=[iM 139 14,iA 140 (.call 242 [(.const (.int .u8 112)),(Tm 139)]),iM 141 15,iM 142 16,iM 143 15,iM 144 0,iM 145 16,iC 146 .add 145 1,iK2 147 240 144 146,iB 148 .add 143 147,iA 149 (.bHV true 1 2 [(.int .i64 0)] [(0,(Ci 0)),(1,(Ci 1))]),iA 150 (.call 241 [(Ci 1),(Ci 1000)]),iA 151 (.call 241 [(Ci 30),(Ci 1)]),iA 152 (.build [(.str []),(.int .i64 0),(.int .i64 0),(.int .i64 0),(.int .i64 0),(.int .i64 0),(.int .i64 0),(.int .i64 0),(.int .i64 0),.aB,.aB,(.bool false),.aB,.aB,(.bool false),.aB,.aB] [(0,1,(Tm 140)),(1,1,(Tm 141)),(2,1,(Tm 142)),(3,1,(Tm 148)),(9,1,(Tm 149)),(11,3,(Tm 150)),(14,3,(Tm 151))]),iA 17 (.alloc [(.str []),(.int .i64 0),(.int .i64 0),(.int .i64 0),(.int .i64 0),(.int .i64 0),(.int .i64 0),(.int .i64 0),(.int .i64 0),.aB,.aB,(.bool false),.aB,.aB,(.bool false),.aB,.aB]),iS 17 17 152]
def FG:Rg:=[iM 153 0,iA 154 (.call 240 [(Tm 153),(Ci 4)]),iF 155 4 17,iA 156 (.idxA 5 1 (Tm 155) (Ci 3)),iS 1 156 154]
def FH:Rg:=[iM 157 0,iA 158 (.call 240 [(Tm 157),(Ci 3)]),iF 159 4 17,iA 160 (.idxA 5 1 (Tm 159) (Ci 4)),iS 1 160 158]
def FI:Rg:=[iM 161 0,iA 162 (.call 240 [(Tm 161),(Ci 5)]),iC 163 .eql 162 0]
def FJ:Rg:=[iA 164 (.bHV true 1 1 [(.int .i64 0)] [(0,(Ci 0))]),iF 165 9 17,iS 1 165 164]
def aaZ:Rg:=[iI 18 0]
def abA:Rg:=[iM 166 18,iM 167 16,iA 168 (.bIQ true (Tm 167) (Ci 1)),iB 169 .lss 166 168]
def abB:Rd:=[(iF 172 10 17,true),(iL 173 172,true),(iA 174 (.call 241 [(Ci 1),(Ci 2)]),true),(iA 175 (.bHV true 3 1 [(.bool false),.aB,.aB] [(0,(Tm 174))]),false),(iA 176 (.append 3 56 (Tm 173) (Tm 175)),true),(iF 177 10 17,false)]
def abC:Rd:=[(iS 1 177 176,true)]
def abD:Rg:=[iM 170 18,iC 171 .add 170 1,iM 18 171]
def ES:aC:=(.seq (sq abA (.cond (Tm 169) .skip (.exit 6))) (.seq (.block 7 (dq abB (.draw abC))) (.region abD)))
def abE:Rg:=[iF 178 5 5,iL 179 178,iO 180 17 17,iA 181 (.bHV true 17 1 [(.str []),(.int .i64 0),(.int .i64 0),(.int .i64 0),(.int .i64 0),(.int .i64 0),(.int .i64 0),(.int .i64 0),(.int .i64 0),.aB,.aB,(.bool false),.aB,.aB,(.bool false),.aB,.aB] [(0,(Tm 180))]),iA 182 (.append 17 240 (Tm 179) (Tm 181)),iF 183 5 5,iS 1 183 182]
def abF:Rg:=[iM 132 14,iC 133 .sub 132 1,iM 14 133]
def ET:aC:=(.seq (sq aaY (.cond (Tm 131) .skip (.exit 4))) (.seq (.block 5 (sq FC (sq FD (sq FF (sq FG (sq FH (.seq (sq FI (.cond (Tm 163) (.region FJ) .skip)) (.seq (sq aaZ (.block 6 (.loop ES))) (.region abE))))))))) (.region abF)))
def abG:Rg:=[iM 184 0,iM 185 1,iK2 186 240 184 185,iA 187 (.bin .add (Ci 1) (Tm 186)),iM 19 187]
def abH:Rg:=[iM 188 19,iC 189 .gtr 188 0]
def abI:Rd:=[(iF 192 6 5,true),(iL 193 192,true),(iM 194 19,false),(iA 195 (.call 242 [(.const (.int .u8 118)),(Tm 194)]),true),(iM 196 0,true),(iF 197 5 5,true),(iL 198 197,true),(iN 199 198,true),(iK2 200 240 196 199,true),(iA 201 (.build [(.str []),(.int .i64 0)] [(0,1,(Tm 195)),(1,1,(Tm 200))]),false),(iA 202 (.bHV true 2 1 [(.str []),(.int .i64 0)] [(0,(Tm 201))]),false),(iA 203 (.append 2 24 (Tm 193) (Tm 202)),true),(iF 204 6 5,false)]
def abJ:Rd:=[(iS 1 204 203,true)]
def abK:Rg:=[iM 190 19,iC 191 .sub 190 1,iM 19 191]
def EU:aC:=(.seq (sq abH (.cond (Tm 189) .skip (.exit 8))) (.seq (.block 9 (dq abI (.draw abJ))) (.region abK)))
def abL:Rg:=[iO 205 7 5,iS 7 4 205]
def zQ:aC:=(sq anX (sq anY (sq anZ (sq aoA (sq aoB (sq aoC (sq aoD (.seq (sq aoE (.block 0 (.loop ER))) (.seq (sq aaX (.block 4 (.loop ET))) (.seq (sq abG (.block 8 (.loop EU))) (sq abL .ret)))))))))))
def a6J:List Nat:=[25,27,28,33,35,51,124,149,164,175,181,202]
def LT:aW:=⟨2,206,zQ,[.cell 4 (some 7)]⟩
def abN:Rg:=[iA 3 (.box true (Tm 1)),iZ 4]
def abO:Rg:=[iZ 5]
def abP:Rg:=[iI 6 0]
def abQ:Rg:=[iM 11 6,iF 12 6 3,iL 13 12,iN 14 13,iB 15 .lss 11 14]
def abR:Rg:=[iA 18 (.bHV false 1 0 [(.int .i64 0)] []),iM 7 18]
def abS:Rg:=[iI 8 0]
def abT:Rg:=[iM 19 8,iO 20 7 3,iM 21 6,iK2 22 245 20 21,iB 23 .lss 19 22]
def abU:Rg:=[iM 26 0,iF 27 4 3,iL 28 27,iN 29 28,iK2 30 240 26 29,iM 9 30]
def abV:Rg:=[iI 10 0]
def abW:Rg:=[iM 31 10,iF 32 4 3,iL 33 32,iN 34 33,iB 35 .lss 31 34,iM 36 35,gM 37 7 36 true,gM 38 9 36 true,gK2 39 247 37 38 36 true,iP 40 36 39]
def TG:Rg:=[iM 43 9,iC 44 .add 43 1,iF 45 4 3,iL 46 45,iN 47 46,iB 48 .rem 44 47,iM 9 48]
def TH:Rg:=[iM 41 10,iC 42 .add 41 1,iM 10 42]
def zR:aC:=(.seq (sq abW (.cond (Tm 40) .skip (.exit 4))) (.seq (.block 5 (.region TG)) (.region TH)))
def TI:Rg:=[iM 49 7,iM 50 9,iK2 51 247 49 50,iM 52 51,gM 53 0 52 false,iG 54 (.call 240 [(Tm 53),(Ci 12)]) 52 false,gC 55 .eql 54 0 52 false,iQ 56 52 55]
def zT:Rg:=[iI 9 (-1)]
def zU:Rg:=[iM 57 7,iM 58 9,iA 59 (.bHV true 1 1 [(.int .i64 0)] [(0,(Tm 58))]),iA 60 (.append 1 8 (Tm 57) (Tm 59)),iM 7 60]
def zV:Rg:=[iM 24 8,iC 25 .add 24 1,iM 8 25]
def zS:aC:=(.seq (sq abT (.cond (Tm 23) .skip (.exit 2))) (.seq (.block 3 (sq abU (.seq (sq abV (.block 4 (.loop zR))) (.seq (sq TI (.cond (Tm 56) (.region zT) .skip)) (.region zU))))) (.region zV)))
def TJ:Rg:=[iM 61 5,iM 62 7,iA 63 (.bHV true 1 1 [.aB] [(0,(Tm 62))]),iA 64 (.append 1 24 (Tm 61) (Tm 63)),iM 5 64]
def TK:Rg:=[iM 16 6,iC 17 .add 16 1,iM 6 17]
def TF:aC:=(.seq (sq abQ (.cond (Tm 15) .skip (.exit 0))) (.seq (.block 1 (sq abR (.seq (sq abS (.block 2 (.loop zS))) (.region TJ)))) (.region TK)))
def TL:Rg:=[iM 65 5,iM 4 65]
def wO:aC:=(sq abN (sq abO (.seq (sq abP (.block 0 (.loop TF))) (sq TL .ret))))
def aZY:List Nat:=[3,59,63]
def CY:aW:=⟨2,66,wO,[.tmp 4]⟩
def aoI:Rg:=[iA 3 (.box true (Tm 1)),iZ 4]
def aoJ:Rg:=[iO 7 7 3,iA 8 (.call 85 [(Tm 7),(.const .aB)]),iM 5 8]
def aoK:Rg:=[iI 6 0]
def aoL:Rg:=[iM 9 6,iM 10 5,iN 11 10,iB 12 .lss 9 11]
def aoM:Rg:=[iM 15 0,iA 16 (.call 240 [(Tm 15),(Ci 9)])]
def yG:Rg:=[iC 18 .eql 16 0,iM 17 18]
def aoN:Rg:=[iM 19 5,iM 20 6,iX 21 1 19 20,⟨none,.store 1 (Tm 21) (Ci 0),none⟩]
def MB:Rg:=[iC 23 .eql 16 1,iM 22 23]
def aoO:Rg:=[iM 24 5,iM 25 6,iM 26 0,iM 27 5,iM 28 6,iX 29 1 27 28,iL 30 29,iC 31 .add 30 1,iK2 32 240 26 31,iX 33 1 24 25,iS 1 33 32]
def MC:Rg:=[iM 13 6,iC 14 .add 13 1,iM 6 14]
def abZ:aC:=(.seq (sq aoL (.cond (Tm 12) .skip (.exit 0))) (.seq (.block 1 (sq aoM (.block 2 (sq yG (.cond (Tm 17) (.region aoN) (sq MB (.cond (Tm 22) (.region aoO) .skip))))))) (.region MC)))
def FT:Rg:=[iM 34 5,iM 4 34]
def zW:aC:=(sq aoI (sq aoJ (.seq (sq aoK (.block 0 (.loop abZ))) (sq FT .ret))))
def a6M:List Nat:=[3]
def MA:aW:=⟨2,35,zW,[.tmp 4]⟩
def ayO:Rg:=[iA 2 (.alloc [(.int .i64 0),.aB,.aB,.aB,.aB,.aB,.aB,.aB,.aB]),iA 3 (.mv (.const (.lit (.pointer none))))]
def ayP:Rg:=[iM 7 0,iA 8 (.build [.aB,(.int .i64 0)] [(0,1,(Tm 7))]),iA 9 (.box false (Tm 8)),iM 4 9]
def ayQ:Rg:=[iM 10 4,iA 11 (.call 244 [(Tm 10),(Ci 3)]),iA 5 (.alloc [(.int .i64 0),.aB,.aB,.aB,.aB,.aB,.aB]),iS 7 5 11]
def ayR:Rg:=[iM 12 4,iO 13 7 5,iK2 14 246 12 13,iM 6 14]
def ayS:Rd:=[(iO 15 7 5,true),(iM 16 6,true),(iM 17 4,false),(iO 18 7 5,false),(iK2 19 248 17 18,true),(iA 20 (.build [(.int .i64 0),.aB,.aB,.aB,.aB,.aB,.aB,.aB,.aB] [(0,7,(Tm 15)),(7,1,(Tm 16)),(8,1,(Tm 19))]),false),(iM 21 4,true),(iS 9 2 20,true),(iM 3 21,false)]
def FN:aC:=(sq ayO (sq ayP (sq ayQ (sq ayR (dq ayS .ret)))))
def beT:List Nat:=[]
def abX:aW:=⟨1,22,FN,[.cell 2 (some 9),.tmp 3]⟩
def aKQ:Rg:=[iZ 2]
def aKR:Rg:=[iM 4 0,iN 5 4,iM 3 5]
def aKS:Rg:=[iM 6 3,iC 7 .gtr 6 0,iM 8 7,gM 9 0 8 true,gM 10 3 8 true,gC 11 .sub 10 1 8 true,iG 12 (.bIK 1 (Tm 9) (Tm 11)) 8 true,gL 13 12 8 true,iG 14 (.bin .eql (Tm 13) (.const (.int .u32 0))) 8 true,iP 15 8 14]
def aKT:Rg:=[iM 16 3,iC 17 .sub 16 1,iM 3 17]
def aKP:aC:=(.seq (sq aKS (.cond (Tm 15) .skip (.exit 0))) (.block 1 (.region aKT)))
def ZG:Rg:=[iM 18 0,iM 19 3,iA 20 (.slice 1 (Tm 18) none (some (Tm 19)) none),iA 21 (.append 1 4 (.const .aB) (Tm 20)),iM 2 21]
def JC:aC:=(sq aKQ (sq aKR (.seq (.block 0 (.loop aKP)) (sq ZG .ret))))
def bjE:List Nat:=[]
def ahE:aW:=⟨1,22,JC,[.tmp 2]⟩
def aKE:Rg:=[iZ 2]
def aKF:Rg:=[iM 3 0,iA 4 (.conv .u32 (Tm 3)),iM 5 0,iA 6 (.bin .shr (Tm 5) (.const (.int .u64 32))),iA 7 (.conv .u32 (Tm 6)),iA 8 (.bHV true 1 2 [(.int .u32 0)] [(0,(Tm 4)),(1,(Tm 7))]),iK 9 38 8,iM 2 9]
def IT:aC:=(sq aKE (sq aKF .ret))
def biW:List Nat:=[8]
def agW:aW:=⟨1,10,IT,[.tmp 2]⟩
def asJ:Rg:=[iT 2 false]
def asK:Rg:=[iM 3 0,iK 4 38 3,iN 5 4,iC 6 .gtr 5 512,iM 2 6]
def BS:aC:=(sq asJ (sq asK .ret))
def baM:List Nat:=[]
def QA:aW:=⟨1,7,BS,[.tmp 2]⟩
def aVU:Rg:=[iI 4 0]
def aVV:Rg:=[iM 6 0,iK 7 38 6,iM 8 1,iK 9 38 8,iM 0 7,iM 1 9]
def aVW:Rg:=[iM 10 0,iN 11 10,iM 12 1,iN 13 12,iB 14 .neq 11 13]
def aVX:Rg:=[iM 15 0,iN 16 15,iM 17 1,iN 18 17,iB 19 .lss 16 18]
def aVY:Rg:=[iI 4 (-1)]
def aVZ:Rg:=[iI 4 1]
def aWA:Rg:=[iM 20 0,iN 21 20,iC 22 .sub 21 1,iM 5 22]
def aWB:Rg:=[iM 23 5,iC 24 .geq 23 0]
def aWC:Rd:=[(iM 27 0,false),(iM 28 5,false),(iX 29 1 27 28,false),(iL 30 29,false),(iM 31 1,false),(iM 32 5,false),(iX 33 1 31 32,false),(iL 34 33,false),(iB 35 .lss 30 34,false)]
def aWD:Rg:=[iI 4 (-1)]
def aJQ:Rd:=[(iM 36 0,false),(iM 37 5,false),(iX 38 1 36 37,false),(iL 39 38,false),(iM 40 1,false),(iM 41 5,false),(iX 42 1 40 41,false),(iL 43 42,false),(iB 44 .gtr 39 43,false)]
def aJR:Rg:=[iI 4 1]
def aJS:Rg:=[iM 25 5,iC 26 .sub 25 1,iM 5 26]
def aJP:aC:=(.seq (sq aWB (.cond (Tm 24) .skip (.exit 0))) (.seq (.block 1 (.seq (dq aWC (.cond (Tm 35) (sq aWD .ret) .skip)) (dq aJQ (.cond (Tm 44) (sq aJR .ret) .skip)))) (.region aJS)))
def aJT:Rg:=[iI 4 0]
def PU:aC:=(sq aVU (sq aVV (.seq (sq aVW (.cond (Tm 14) (.seq (sq aVX (.cond (Tm 19) (sq aVY .ret) .skip)) (sq aVZ .ret)) .skip)) (.seq (sq aWA (.block 0 (.loop aJP))) (sq aJT .ret)))))
def bpI:List Nat:=[]
def aJO:aW:=⟨2,45,PU,[.tmp 4]⟩
def agO:Rg:=[iZ 4,iZ 5]
def agP:Rg:=[iM 20 0,iM 21 1,iK2 22 32 20 21,iC 23 .lss 22 0]
def agQ:Rg:=[iM 24 0,iK 25 38 24,iZ 4,iM 5 25]
def agR:Rg:=[iM 26 1,iN 27 26,iC 28 .eql 27 1]
def IP:Rg:=[iM 29 0,iN 30 29,iA 31 (.bHZ 1 4 [(.int .u32 0)] (Tm 30) (Tm 30)),iM 6 31]
def IQ:Rg:=[iA 7 (.mv (.const (.int .u64 0)))]
def IR:Rg:=[iM 32 0,iN 33 32,iC 34 .sub 33 1,iM 8 34]
def agS:Rg:=[iM 35 8,iC 36 .geq 35 0]
def agT:Rg:=[iM 39 7,iA 40 (.bin .shl (Tm 39) (.const (.int .u64 32))),iM 41 0,iM 42 8,iX 43 1 41 42,iL 44 43,iA 45 (.conv .u64 (Tm 44)),iB 46 .or 40 45,iM 9 46]
def agU:Rg:=[iM 47 6,iM 48 8,iM 49 9,iM 50 1,iA 51 (.bIK 1 (Tm 50) (Ci 0)),iL 52 51,iA 53 (.conv .u64 (Tm 52)),iB 54 .quo 49 53,iA 55 (.conv .u32 (Tm 54)),iX 56 1 47 48,iS 1 56 55]
def VL:Rg:=[iM 57 9,iM 58 1,iA 59 (.bIK 1 (Tm 58) (Ci 0)),iL 60 59,iA 61 (.conv .u64 (Tm 60)),iB 62 .rem 57 61,iM 7 62]
def VM:Rg:=[iM 37 8,iC 38 .sub 37 1,iM 8 38]
def BG:aC:=(.seq (sq agS (.cond (Tm 36) .skip (.exit 0))) (.seq (.block 1 (sq agT (sq agU (.region VL)))) (.region VM)))
def BH:Rg:=[iM 63 6,iK 64 38 63,iM 65 7,iK 66 35 65,iM 4 64,iM 5 66]
def VN:Rg:=[iM 67 1,iN 68 67,iA 69 (.bin .mul (Ci 32) (Tm 68)),iM 70 1,iK 71 31 70,iB 72 .sub 69 71,iM 10 72]
def VO:Rg:=[iM 73 0,iM 74 10,iK2 75 45 73 74,iA 76 (.bHV true 1 2 [(.int .u32 0)] [(0,(.const (.int .u32 0))),(1,(.const (.int .u32 0)))]),iA 77 (.append 1 4 (Tm 75) (Tm 76)),iM 78 1,iM 79 10,iK2 80 45 78 79,iM 11 77,iM 12 80]
def BI:Rg:=[iM 81 11,iM 82 0,iM 83 10,iK2 84 45 82 83,iN 85 84,iC 86 .add 85 1,iA 87 (.slice 1 (Tm 81) none (some (Tm 86)) none),iM 11 87]
def BJ:Rg:=[iM 88 12,iM 89 12,iN 90 89,iC 91 .sub 90 1,iX 92 1 88 91,iL 93 92,iA 94 (.conv .u64 (Tm 93)),iM 13 94]
def BK:Rg:=[iM 95 11,iN 96 95,iM 97 12,iN 98 97,iB 99 .sub 96 98,iA 100 (.bHZ 1 4 [(.int .u32 0)] (Tm 99) (Tm 99)),iM 14 100]
def BL:Rg:=[iM 101 14,iN 102 101,iC 103 .sub 102 1,iM 15 103]
def VP:Rg:=[iM 104 15,iC 105 .geq 104 0]
def VQ:Rd:=[(iM 108 11,false),(iM 109 15,false),(iM 110 12,false),(iN 111 110,false),(iB 112 .add 109 111,false),(iX 113 1 108 112,false),(iL 114 113,false),(iA 115 (.conv .u64 (Tm 114)),false),(iA 116 (.bin .shl (Tm 115) (.const (.int .u64 32))),false),(iM 117 11,false),(iM 118 15,false),(iM 119 12,false),(iN 120 119,false),(iB 121 .add 118 120,false),(iC 122 .sub 121 1,false),(iX 123 1 117 122,false),(iL 124 123,false),(iA 125 (.conv .u64 (Tm 124)),false),(iB 126 .or 116 125,false),(iM 16 126,false)]
def VR:Rg:=[iM 127 16,iM 128 13,iB 129 .quo 127 128,iM 17 129]
def VS:Rg:=[iM 130 17,iA 131 (.bin .gtr (Tm 130) (.const (.int .u64 4294967295)))]
def VT:Rg:=[iA 17 (.mv (.const (.int .u64 4294967295)))]
def VU:Rd:=[(iM 132 12,true),(iM 133 17,false),(iK 134 35 133,true),(iK2 135 44 132 134,true),(iM 136 11,true),(iM 137 15,true),(iM 138 15,true),(iM 139 12,true),(iN 140 139,true),(iB 141 .add 138 140,true),(iC 142 .add 141 1,true),(iA 143 (.slice 1 (Tm 136) (some (Tm 137)) (some (Tm 142)) none),true),(iA 144 (.append 1 4 (.const .aB) (Tm 143)),true),(iK2 145 32 135 144,true),(iC 146 .gtr 145 0,false)]
def VV:Rg:=[iM 147 17,iA 148 (.bin .sub (Tm 147) (.const (.int .u64 1))),iM 17 148]
def sS:aC:=(.seq (dq VU (.cond (Tm 146) .skip (.exit 4))) (.block 5 (.region VV)))
def BM:Rg:=[iM 149 11,iM 150 15,iM 151 15,iM 152 12,iN 153 152,iB 154 .add 151 153,iC 155 .add 154 1,iA 156 (.slice 1 (Tm 149) (some (Tm 150)) (some (Tm 155)) none),iA 157 (.append 1 4 (.const .aB) (Tm 156)),iM 158 12,iM 159 17,iK 160 35 159,iK2 161 44 158 160,iK2 162 42 157 161,iM 18 162]
def BN:Rg:=[iI 19 0]
def VW:Rg:=[iM 163 19,iM 164 12,iN 165 164,iB 166 .leq 163 165]
def VX:Rg:=[iM 169 11,iM 170 15,iM 171 19,iB 172 .add 170 171,iX 173 1 169 172,⟨none,.store 1 (Tm 173) (.const (.int .u32 0)),none⟩]
def VY:Rg:=[iM 174 19,iM 175 18,iN 176 175,iB 177 .lss 174 176]
def VZ:Rg:=[iM 178 11,iM 179 15,iM 180 19,iB 181 .add 179 180,iM 182 18,iM 183 19,iX 184 1 182 183,iL 185 184,iX 186 1 178 181,iS 1 186 185]
def BO:Rg:=[iM 167 19,iC 168 .add 167 1,iM 19 168]
def sT:aC:=(.seq (sq VW (.cond (Tm 166) .skip (.exit 6))) (.seq (.block 7 (sq VX (sq VY (.cond (Tm 177) (.region VZ) .skip)))) (.region BO)))
def BP:Rg:=[iM 187 14,iM 188 15,iM 189 17,iA 190 (.conv .u32 (Tm 189)),iX 191 1 187 188,iS 1 191 190]
def BQ:Rg:=[iM 106 15,iC 107 .sub 106 1,iM 15 107]
def sU:aC:=(.seq (sq VP (.cond (Tm 105) .skip (.exit 2))) (.seq (.block 3 (dq VQ (sq VR (.seq (sq VS (.cond (Tm 131) (.region VT) .skip)) (.seq (.block 4 (.loop sS)) (sq BM (.seq (sq BN (.block 6 (.loop sT))) (.region BP)))))))) (.region BQ)))
def BR:Rg:=[iM 192 14,iK 193 38 192,iM 194 11,iK 195 38 194,iM 196 10,iK2 197 40 195 196,iM 4 193,iM 5 197]
def xQ:aC:=(sq agO (.seq (sq agP (.cond (Tm 23) (sq agQ .ret) .skip)) (.seq (sq agR (.cond (Tm 28) (sq IP (sq IQ (.seq (sq IR (.block 0 (.loop BG))) (sq BH .ret)))) .skip)) (sq VN (sq VO (sq BI (sq BJ (sq BK (.seq (sq BL (.block 2 (.loop sU))) (sq BR .ret))))))))))
def a3I:List Nat:=[76]
def DU:aW:=⟨2,198,xQ,[.tmp 4,.tmp 5]⟩
def aWE:Rg:=[iZ 4,iZ 5,iI 6 0]
def aWF:Rg:=[iM 9 0,iK 10 41 9,iM 11 10,gM 12 1 11 false,gK 13 41 12 11 false,iQ 14 11 13]
def amZ:Rg:=[iZ 4,iZ 5,iI 6 2]
def aWG:Rg:=[iM 15 1,iK 16 38 15,iN 17 16,iC 18 .eql 17 0]
def aWH:Rg:=[iZ 4,iZ 5,iI 6 3]
def aWI:Rg:=[iM 20 0,iK 21 38 20,iM 22 1,iK 23 38 22,iK2 24 39 21 23,iM 19 24,iE 25 19 0,iE 26 19 1,iM 7 25,iM 8 26]
def aWJ:Rg:=[iM 27 7,iM 28 8,iM 4 27,iM 5 28,iI 6 0]
def PW:aC:=(sq aWE (.seq (sq aWF (.cond (Tm 14) (sq amZ .ret) .skip)) (.seq (sq aWG (.cond (Tm 18) (sq aWH .ret) .skip)) (sq aWI (sq aWJ .ret)))))
def bpK:List Nat:=[]
def udiv:aW:=⟨2,29,PW,[.tmp 4,.tmp 5,.tmp 6]⟩
def aWL:Rg:=[iZ 4,iI 5 0]
def aWM:Rg:=[iM 10 0,iK 11 41 10,iM 12 11,gM 13 1 12 false,gK 14 41 13 12 false,iQ 15 12 14]
def anA:Rg:=[iZ 4,iI 5 2]
def aWN:Rg:=[iM 16 0,iK 17 38 16,iM 18 1,iK 19 38 18,iM 6 17,iM 7 19]
def aWO:Rg:=[iM 20 7,iN 21 20,iC 22 .gtr 21 0]
def aWP:Rg:=[iM 24 6,iM 25 7,iK2 26 39 24 25,iM 23 26,iE 27 23 0,iE 28 23 1,iM 8 27,iM 9 28]
def aWQ:Rg:=[iM 29 7,iM 30 9,iM 6 29,iM 7 30]
def aWK:aC:=(.seq (sq aWO (.cond (Tm 22) .skip (.exit 0))) (.block 1 (sq aWP (.region aWQ))))
def aWR:Rg:=[iM 31 6,iM 4 31,iI 5 0]
def PZ:aC:=(sq aWL (.seq (sq aWM (.cond (Tm 15) (sq anA .ret) .skip)) (sq aWN (.seq (.block 0 (.loop aWK)) (sq aWR .ret)))))
def bpM:List Nat:=[]
def aKD:aW:=⟨2,32,PZ,[.tmp 4,.tmp 5]⟩
def ahJ:Rg:=[iA 6 (.alloc [(.bool false),.aB,.aB])]
def ahK:Rg:=[iM 9 1,iK 10 38 9,iM 11 2,iK 12 38 11,iM 1 10,iM 2 12]
def ahL:Rg:=[iM 13 1,iN 14 13,iC 15 .eql 14 0]
def ahM:Rg:=[iA 16 (.bHV true 1 1 [(.int .u32 0)] [(0,(.const (.int .u32 1)))]),iA 17 (.build [(.bool false),.aB,.aB] [(2,1,(Tm 16))]),iS 3 6 17]
def ahN:Rg:=[iM 19 1,iM 20 2,iK2 21 34 19 20,iM 18 21,iE 22 18 0,iE 23 18 1,iM 7 22,iM 8 23]
def ahO:Rg:=[iM 24 7,iN 25 24,iC 26 .gtr 25 1,iM 27 26,gM 28 7 27 false,iG 29 (.bIK 1 (Tm 28) (Ci 0)) 27 false,gL 30 29 27 false,iG 31 (.bin .gtr (Tm 30) (.const (.int .u32 1))) 27 false,iQ 32 27 31]
def JG:Rg:=[iM 34 1,iM 35 7,iK2 36 33 34 35,iM 33 36,iE 37 33 0,iE 38 33 1,iE 39 33 2,iM 1 37]
def JH:Rg:=[iM 41 2,iM 42 7,iK2 43 33 41 42,iM 40 43,iE 44 40 0,iE 45 40 1,iE 46 40 2,iM 2 44]
def uZ:Rg:=[iM 47 0,iM 48 1,iM 49 2,iA 50 (.build [(.bool false),.aB,.aB] [(0,1,(Tm 47)),(1,1,(Tm 48)),(2,1,(Tm 49))]),iS 3 6 50]
def xS:aC:=(sq ahJ (sq ahK (.seq (sq ahL (.cond (Tm 15) (sq ahM .ret) .skip)) (.seq (sq ahN (sq ahO (.cond (Tm 32) (sq JG (.region JH)) .skip))) (sq uZ .ret)))))
def a4D:List Nat:=[16]
def DX:aW:=⟨3,51,xS,[.cell 6 (some 3)]⟩
def aMC:Rg:=[iA 2 (.mv (.const (.int .u64 0)))]
def aMD:Rg:=[iM 3 0,iC 4 .lss 3 0]
def aME:Rg:=[iM 5 0,iC 6 .add 5 1,iA 7 (.un .neg (Tm 6)),iA 8 (.conv .u64 (Tm 7)),iA 9 (.bin .add (Tm 8) (.const (.int .u64 1))),iM 2 9]
def aMF:Rg:=[iM 10 0,iA 11 (.conv .u64 (Tm 10)),iM 2 11]
def JN:aC:=(sq aMC (.seq (sq aMD (.cond (Tm 4) (sq aME .ret) .skip)) (sq aMF .ret)))
def bjU:List Nat:=[]
def aiB:aW:=⟨1,12,JN,[.tmp 2]⟩
def aLQ:Rg:=[iA 4 (.alloc [(.bool false),.aB,.aB]),iI 5 0]
def aLR:Rg:=[iM 6 1,iC 7 .eql 6 0]
def aLS:Rg:=[iA 8 (.build [(.bool false),.aB,.aB] []),iS 3 4 8,iI 5 3]
def aLT:Rg:=[iM 9 0,iC 10 .lss 9 0,iM 11 1,iC 12 .lss 11 0,iA 13 (.eqb true (Tm 10) (Tm 12)),iM 14 0,iK 15 59 14,iK 16 35 15,iM 17 1,iK 18 59 17,iK 19 35 18,iA 20 (.call 58 [(Tm 13),(Tm 16),(Tm 19)]),iS 3 4 20,iI 5 0]
def JI:aC:=(sq aLQ (.seq (sq aLR (.cond (Tm 7) (sq aLS .ret) .skip)) (sq aLT .ret)))
def bjO:List Nat:=[]
def SZ:aW:=⟨2,21,JI,[.cell 4 (some 3),.tmp 5]⟩
def aXR:Rg:=[iA 2 (.alloc [(.bool false),.aB,.aB])]
def aXS:Rg:=[iM 6 0,iA 7 (.call 50 [(Tm 6),(Ci 1)]),iM 5 7,iE 8 5 0,iE 9 5 1,iA 3 (.alloc [(.bool false),.aB,.aB]),iS 3 3 8,iM 4 9]
def aXT:Rg:=[iO 10 3 3,iS 3 2 10]
def QP:aC:=(sq aXR (sq aXS (sq aXT .ret)))
def bpY:List Nat:=[]
def aLN:aW:=⟨1,11,QP,[.cell 2 (some 3)]⟩
open Go Go.Na
def utF (xs:List Nat) (n:Nat):PF:=((PF.nil.set 0 (aF xs)).set 3 (.int .i64 n))
theorem bjD {C:Ctx} (xs:List Nat) (hx:Lim xs) (hl:xs.length≤35184372087808):JC.wp C (aT ahE.res (kK 1 (aJ (aG (val xs))))) (PF.args [aF xs]) .nil:=by
 simp only[go_sem,γ,reduceCtorEq,JC,aKQ,aKR,ahE,bJT]
 refine wp_loop (α:=Nat) (fun n=>utF xs n) (fun _=>.nil) (fun n=>n≤xs.length∧∀ j x,n≤j→xs[j]?=some x→x=0) (fun n=>n) xs.length ⟨bJV _,fun j x hj hxj=>?_⟩ ?_ PH.nil_le ?_
 ·rw[bLG hj] at hxj; cases hxj
 ·unfold utF
  exact Lq
 rintro n ⟨hn,hz⟩
 have done:(0<n→∀ h:n-1<xs.length,xs[n-1]≠0)→∀ F:PF,(utF xs n).le F→aC.wp C (.seq (.region ZG) .ret) (aT [.tmp 2] (kK 1 (aJ (aG (val xs))))) F .nil:=by
  intro h F hF
  have f0:F 0=some (aF xs):=hF 0 _ (by unfold utF; simp only[go_sem,reduceCtorEq])
  have f3:F 3=some (.int .i64 n):=hF 3 _ (by unfold utF; simp only[go_sem,reduceCtorEq])
  have ht:xs.take n=aG (val xs):=IL hx hn hz fun x h0 hxj=>by
   rw[bKD Om] at hxj
   injection hxj with hxj
   subst hxj
   exact h h0 Om
  have hc:((n:Nat):Int)≤(xs.length:Nat):=by omega
  simp only[go_sem,ν,γ,reduceCtorEq,ZG,f0,f3,bJT,hc,or_true,bKW]
  refine fZ (rows:=[]) (src:=aJ (aG (val xs))) .nil ?_ ?_ fun v H' ho _=>?_
  ·simp only[go_sem]
   rw[← ht,← List.map_take]
  ·unfold roomFor
   rw[bT,← ht,bKL]
   simp only[bMD,maxLen]
   omega
  ·exact HY (.inr rfl) (by simpa using ho) rfl
 simp only[aC.wp,go_sem] at done
 simp only[go_sem,γ,reduceCtorEq,aKP,aKS,utF]
 by_cases h0:0<n
 ·have h0':((n:Nat):Int)>0:=by omega
  have hlt:n-1<xs.length:=by omega
  have hat:=bK xs hlt
  have hw:IntKind.i64.wrap ((n:Int)-1)=((n-1:Nat):Int):=tR Om h0
  simp only[go_sem,γ,reduceCtorEq,h0',hw,hat]
  by_cases c:xs[n-1]=0
  ·simp only[go_sem,γ,reduceCtorEq,bO (Om:((xs[n-1]:Nat):Int)=0),aKT,hw]
   refine aH (n-1) ⟨by omega,fun j x hj hxj=>?_⟩ Om ?_ PH.nil_le
   ·by_cases e:j=n-1
    ·subst e
     rw[bKD hlt] at hxj
     injection hxj with hxj
     omega
    ·exact hz j x Om hxj
   ·exact Lq
  ·simp only[go_sem,bB (Om:((xs[n-1]:Nat):Int)≠0)]
   exact done (fun _ _=>c) _ (by unfold utF; exact Lq)
 ·have h0':¬ ((n:Nat):Int)>0:=by omega
  simp only[go_sem,γ,reduceCtorEq,h0']
  exact done (fun h=>absurd h h0) _ (by unfold utF; exact Lq)
structure nF (C:Ctx):Prop where
 trimM:∀ xs,Lim xs→xs.length≤35184372087808→aE C 38 [aF xs] .nil (kK 1 (aJ (aG (val xs))))
theorem nF.trim {C:Ctx} (L:nF C) (xs:List Nat) (hx:Lim xs) (hl:xs.length≤35184372087808):aE C 38 [aF xs] .nil (aD (aF (aG (val xs)))):=(L.trimM xs hx hl).freeze
theorem biV {C:Ctx} (L:nF C) (v:Nat) (hv:v<18446744073709551616):IT.wp C (aT agW.res (bY (aF (aG v)))) (PF.args [.int .u64 v]) .nil:=by
 have e1:IntKind.u32.wrap ((v:Nat):Int)=((v%4294967296:Nat):Int):=cA v
 have hd:v/4294967296<4294967296:=by omega
 have e3:IntKind.u32.wrap ((v/4294967296:Nat):Int)=((v/4294967296:Nat):Int):=by rw[cA,bLE hd]
 have hL:Lim [v%4294967296,v/4294967296]:=by
  intro x hx
  simp only[bKJ,List.mem_nil_iff,or_false] at hx
  rcases hx with rfl | rfl
  ·exact bLJ _ (by decide)
  ·exact hd
 have bII:val [v%4294967296,v/4294967296]=v:=by simp only[val,Nat.mul_zero,bLL]; exact Nat.mod_add_div v 4294967296
 have hsh:shift .shr .u64 (v:Int) 32=some (.int .u64 ((v/4294967296:Nat):Int)):=uW
 have hb:(2:Nat)*1≤16777216:=by decide
 simp only[go_sem,υ,δ,γ,η,ζ,reduceCtorEq,IT,aKE,aKF,agW,e1,hsh,e3,hb]
 have ht:=L.trim [v%4294967296,v/4294967296] hL (by simp)
 rw[bII] at ht
 refine aA ht rfl ?_
 simp only[go_sem,γ]
 exact aX (.inr rfl) .nil rfl PH.nil_le ⟨.refl _,rfl⟩
theorem baL {C:Ctx} (L:nF C) (xs:List Nat) (hx:Lim xs) (hl:xs.length≤35184372087808):BS.wp C (aT QA.res (bY (.bool (decide (nl (val xs)>512))))) (PF.args [aF xs]) .nil:=by
 simp only[go_sem,reduceCtorEq,BS,asJ,asK,QA]
 refine aA (L.trim xs hx hl) rfl ?_
 simp only[go_sem,γ,bJT,aZ]
 refine bA rfl ?_
 rw[decide_eq_decide]
 omega
theorem aZR {a b:Nat} (h:nl a<nl b):dB a b=-1:=by
 have:a<b:=by
  rcases bKM a b with h' | h'
  ·exact h'
  ·have:=fA h'; omega
 simp[dB,this]
theorem aZQ {a b:Nat} (h:nl b<nl a):dB a b=1:=by
 have:b<a:=by
  rcases bKM b a with h' | h'
  ·exact h'
  ·have:=fA h'; omega
 have h2:¬ a<b:=by omega
 simp[dB,this,h2]
def a3F (X Y:List Nat) (i:Int):PF:=(((PF.nil.set 0 (aF X)).set 1 (aF Y)).set 5 (.int .i64 i))
theorem bpH {C:Ctx} (L:nF C) (xs ys:List Nat) (hx:Lim xs) (hy:Lim ys) (lx:xs.length≤35184372087808) (ly:ys.length≤35184372087808) :
  PU.wp C (aT aJO.res (aD (.int .i64 (dB (val xs) (val ys))))) (PF.args [aF xs,aF ys]) .nil:=by
 simp only[go_sem,reduceCtorEq,PU,aVU,aVV,aJO]
 refine aA (L.trim xs hx lx) Ev ?_
 simp only[go_sem,γ]
 refine aA (L.trim ys hy ly) Ev ?_
 have bx:=eU hx
 have by':=eU hy
 simp only[go_sem,γ,reduceCtorEq,aVW,bJT,aZ]
 by_cases c0:nl (val xs)≠nl (val ys)
 ·simp only[go_sem,γ,reduceCtorEq,cT (show ((nl (val xs):Nat):Int)≠(nl (val ys):Nat) by omega),aVX]
  by_cases c1:nl (val xs)<nl (val ys)
  ·simp only[go_sem,ο,bJT,aZ,show ((nl (val xs):Nat):Int)<(nl (val ys):Nat) by omega,aVY]
   refine aM (.inr rfl) Ev ?_
   rw[aZR c1]; rfl
  ·simp only[go_sem,bJT,aZ,show ¬ ((nl (val xs):Nat):Int)<(nl (val ys):Nat) by omega,aVZ]
   refine aM (.inr rfl) Ev ?_
   rw[aZQ Om]; rfl
 replace c0:=Decidable.of_not_not c0
 simp only[go_sem,γ,reduceCtorEq,cH (show ((nl (val xs):Nat):Int)=(nl (val ys):Nat) by omega),aWA,bJT,aZ]
 have ex:=aS (val xs)
 have ey:=aS (val ys)
 have LX:=aU (val xs)
 have LY:=aU (val ys)
 generalize hX:aG (val xs)=X at *
 generalize hY:aG (val ys)=Y at *
 have hlX:X.length=nl (val xs):=by rw[← hX]; rfl
 have hlY:Y.length=nl (val xs):=by rw[c0,← hY]; rfl
 refine wp_loop (α:=Nat) (fun k=>a3F X Y ((k:Int)-1)) (fun _=>.nil) (fun k=>k≤nl (val xs)∧X.drop k=Y.drop k) (fun k=>k) (nl (val xs)) ⟨bJV _,?_⟩ ?_ PH.nil_le ?_
 ·rw[bNF Om,bNF Om]
 ·unfold a3F
  (repeat' (first|exact PF.nil_le|refine PF.aI ?_ ?_))<;>first|(simp only[go_sem,γ,reduceCtorEq,wrap_i64 (show -9223372036854775808≤((nl (val xs):Nat):Int)-1 by omega) (show ((nl (val xs):Nat):Int)-1≤9223372036854775807 by omega)]<;>rfl)|rfl
 rintro k ⟨hk,hd⟩
 simp only[go_sem,γ,reduceCtorEq,aJP,aWB,a3F]
 by_cases h0:0<k
 ·obtain⟨m,rfl⟩:∃ m,k=m+1:=⟨k-1,by omega⟩
  have hz:((m+1:Nat):Int)-1=(m:Int):=by omega
  have hge:(m:Int)≥0:=by omega
  have x1:m<X.length:=by omega
  have y1:m<Y.length:=by omega
  simp only[go_sem,hz,hge]
  refine bR .nil eG PH.nil_le ?_
  simp only[go_sem,γ,reduceCtorEq,aWC,bK X x1,bK Y y1]
  by_cases c3:X[m]<Y[m]
  ·simp only[go_sem,ο,show ((X[m]:Nat):Int)<(Y[m]:Nat) by omega,aWD]
   refine aM (.inr rfl) Ev ?_
   have:=aaN LX x1 y1 hd c3
   rw[ex,ey] at this
   simp[aV,dB,this]
  ·simp only[go_sem,show ¬ ((X[m]:Nat):Int)<(Y[m]:Nat) by omega]
   refine bR .nil eG PH.nil_le ?_
   simp only[go_sem,γ,reduceCtorEq,aJQ,bK X x1,bK Y y1]
   by_cases c4:X[m]>Y[m]
   ·simp only[go_sem,show ((X[m]:Nat):Int)>(Y[m]:Nat) by omega,aJR]
    refine aM (.inr rfl) Ev ?_
    have:=aaN LY y1 x1 hd.symm c4
    rw[ex,ey] at this
    have h2:¬ val xs<val ys:=by omega
    simp[aV,dB,this,h2]
   ·simp only[go_sem,γ,reduceCtorEq,show ¬ ((X[m]:Nat):Int)>(Y[m]:Nat) by omega,aJS]
    refine aH m ⟨by omega,aoP x1 y1 hd Om⟩ Om ?_ PH.nil_le
    (repeat' (first|exact PF.nil_le|refine PF.aI ?_ ?_))<;>first|(simp only[go_sem,γ,reduceCtorEq,wrap_i64 (Om:-9223372036854775808≤(m:Int)-1) (Om:(m:Int)-1≤9223372036854775807)]<;>rfl)|rfl
 ·have:k=0:=by omega
  subst this
  have hz:¬ ((0:Nat):Int)-1≥0:=by decide
  simp only[go_sem,hz,aJT]
  refine aM (.inr rfl) Ev ?_
  rw[bKW,bKW] at hd
  have:val xs=val ys:=by rw[← ex,← ey,hd]
  simp[aV,dB,this]
theorem zE (n:Nat):(((n:Nat):Int)==0)=decide (n=0):=by
 by_cases h:n=0
 ·subst h; rfl
 ·rw[bB Om,decide_eq_false h]
structure axA (C:Ctx):Prop extends nF C where
 make:∀ v:Nat,v<18446744073709551616→aE C 35 [.int .u64 v] .nil (aD (aF (aG v)))
 large:∀ xs,Lim xs→xs.length≤35184372087808→aE C 41 [aF xs] .nil (aD (.bool (decide (nl (val xs)>512))))
 cmp:∀ xs ys,Lim xs→Lim ys→xs.length≤35184372087808→ys.length≤35184372087808→aE C 32 [aF xs,aF ys] .nil (aD (.int .i64 (dB (val xs) (val ys))))
def a3J (a b:Nat):PF:=((PF.nil.set 6 (aF (aG a))).set 7 (aF (aG b)))
structure aaA (C:Ctx):Prop extends axA C where
 divide:∀ A B:Nat,B≠0→nl A≤512→nl B≤512→aE C 39 [aF (aG A),aF (aG B)] .nil (aD (oG A B))
def a0N (a b:Nat):PV:=if dR a b then .tup [aF [],.int .i64 2] else .tup [aF (aG (bJY a b)),.int .i64 0]
theorem bpL {C:Ctx} (L:aaA C) (a b:List Nat) (ha:Lim a) (hb:Lim b) (la:a.length≤35184372087808) (lb:b.length≤35184372087808) :
  PZ.wp C (aT aKD.res (bY (a0N (val a) (val b)))) (PF.args [aF a,aF b]) .nil:=by
 unfold a0N
 simp only[go_sem,reduceCtorEq,PZ,aWL,aWM,aKD]
 refine aA (L.large a ha la) rfl ?_
 by_cases c1:nl (val a)>512
 ·simp only[go_sem,γ,c1,anA]
  rw[if_pos (by simp[dR,c1])]
  exact eF rfl
 simp only[go_sem,γ,c1]
 refine aA (L.large b hb lb) rfl ?_
 by_cases c2:nl (val b)>512
 ·simp only[go_sem,γ,reduceCtorEq,c2,anA]
  rw[if_pos (by simp[dR,c2])]
  exact eF rfl
 rw[if_neg (by simp[dR,c1,c2])]
 simp only[go_sem,γ,reduceCtorEq,c2,aWN]
 refine aA (L.trim a ha la) rfl ?_
 simp only[go_sem,γ]
 refine aA (L.trim b hb lb) rfl ?_
 simp only[go_sem,γ]
 refine wp_loop (α:=Nat × Nat) (fun t=>a3J t.1 t.2) (fun _=>.nil) (fun t=>bJY t.1 t.2=bJY (val a) (val b)∧nl t.1≤512∧nl t.2≤512) (fun t=>t.2) (val a,val b) ⟨rfl,by simp only; omega,by simp only; omega⟩ ?_ PH.nil_le ?_
 ·unfold a3J
  exact Lq
 rintro⟨x,y⟩ ⟨hg,hx,hy⟩
 simp only at hg hx hy
 simp only[go_sem,γ,aWK,aWO,a3J,aZ]
 by_cases c3:y=0
 ·subst c3
  have:¬ ((nl 0:Nat):Int)>0:=by rw[wB]; decide
  simp only[go_sem,γ,this,aWR]
  refine aX (vs:=[aF (aG x),.int .i64 0]) (.inr rfl) .nil rfl PH.nil_le ⟨?_,rfl⟩
  rw[← hg,Nat.gcd_zero_right]
  exact .refl _
 ·have h0:nl y≠0:=fun h=>c3 (gJ.1 h)
  have:((nl y:Nat):Int)>0:=by omega
  simp only[go_sem,γ,this,aWP]
  refine aA (L.divide x y c3 Om Om) rfl ?_
  simp only[go_sem,γ,oG,aWQ]
  have hlt:x%y<y:=bLJ _ (bMB c3)
  refine aH (y,x%y) ⟨?_,hy,?_⟩ hlt ?_ PH.nil_le
  ·simp only
   rw[← hg,Nat.gcd_comm y,← Nat.gcd_rec y x,Nat.gcd_comm]
  ·have:=fA (Nat.le_of_lt hlt)
   simp only; omega
  ·exact Lq
theorem bpJ {C:Ctx} (L:aaA C) (a b:List Nat) (ha:Lim a) (hb:Lim b) (la:a.length≤35184372087808) (lb:b.length≤35184372087808) :
  PW.wp C (aT udiv.res (bY (kZ (val a) (val b)))) (PF.args [aF a,aF b]) .nil:=by
 unfold kZ
 simp only[go_sem,reduceCtorEq,PW,aWE,aWF,udiv]
 refine aA (L.large a ha la) rfl ?_
 by_cases c1:nl (val a)>512
 ·simp only[go_sem,γ,c1,amZ]
  rw[if_pos (by simp[dR,c1])]
  exact pQ rfl
 simp only[go_sem,γ,c1]
 refine aA (L.large b hb lb) rfl ?_
 by_cases c2:nl (val b)>512
 ·simp only[go_sem,γ,reduceCtorEq,c2,amZ]
  rw[if_pos (by simp[dR,c2])]
  exact pQ rfl
 rw[if_neg (by simp[dR,c1,c2])]
 simp only[go_sem,γ,reduceCtorEq,c2,aWG]
 refine aA (L.trim b hb lb) rfl ?_
 simp only[go_sem,γ,bJT,aZ,zE,gJ]
 by_cases c3:val b=0
 ·rw[if_pos c3]
  simp only[go_sem,decide_eq_true c3,aWH]
  exact pQ rfl
 rw[if_neg c3]
 simp only[go_sem,reduceCtorEq,decide_eq_false c3,aWI]
 refine aA (L.trim a ha la) rfl ?_
 simp only[go_sem,γ]
 refine aA (L.trim b hb lb) rfl ?_
 simp only[go_sem]
 refine aA (L.divide (val a) (val b) c3 Om Om) rfl ?_
 simp only[go_sem,γ,oG,aWJ]
 exact aX (.inr rfl) .nil rfl PH.nil_le ⟨.refl _,rfl⟩
def kU (neg:Bool) (a b:Nat):FV:=(neg&&decide (a/bJY a b≠0),a/bJY a b,b/bJY a b)
structure axB (C:Ctx):Prop extends aaA C where
 gcd:∀ a b,Lim a→Lim b→a.length≤35184372087808→b.length≤35184372087808→aE C 34 [aF a,aF b] .nil (aD (a0N (val a) (val b)))
 div:∀ a b,Lim a→Lim b→a.length≤35184372087808→b.length≤35184372087808→aE C 33 [aF a,aF b] .nil (aD (kZ (val a) (val b)))
theorem qW {n:Nat} (h:nl n≤512):(aG n).length≤35184372087808:=by rw[aZ]; omega
theorem tI:aG 1=[1]:=mB (by decide) (by decide)
theorem adE {n:Nat} (h:n≠0):aG n=n%4294967296::aG (n/4294967296):=pP h
theorem wU {n:Nat} (h:n≠0):(nl n>1∨n%4294967296>1)↔n≠1:=by
 constructor
 ·rintro h1 rfl
  rcases h1 with h1 | h1
  ·rw[nl,tI] at h1; simp at h1
  ·omega
 ·intro h1
  by_cases c:nl n>1
  ·exact .inl c
  ·have:n<4294967296 ^ 1:=(gT n 1).1 Om
   rw[Nat.pow_one] at this
   rw[bLE this]
   exact .inr Om
theorem a4C {C:Ctx} (L:axB C) (neg:Bool) (a b:List Nat) (ha:Lim a) (hb:Lim b) (la:a.length≤35184372087808) (lb:b.length≤35184372087808) (na:nl (val a)≤512) (nb:nl (val b)≤512) (h0:val b≠0) :
  xS.wp C (aT DX.res (bY (.agg (kU neg (val a) (val b)).rf.cells))) (PF.args [.bool neg,aF a,aF b]) .nil:=by
 have hg0:bJY (val a) (val b)≠0:=fun h=>h0 (Nat.eq_zero_of_gcd_eq_zero_right h)
 have hgb:bJY (val a) (val b)≤val b:=Nat.gcd_le_right _ (bMB h0)
 have ng:nl (bJY (val a) (val b))≤512:=bMQ (fA hgb) nb
 have hnb:dR (val a) (val b)=false:=gG na nb
 simp only[go_sem,δ,xS,ahJ,ahK,DX]
 refine aR fun o ho=>?_
 simp only[go_sem,γ]
 refine aA (L.trim a ha la) rfl ?_
 simp only[go_sem,γ]
 refine aA (L.trim b hb lb) rfl ?_
 simp only[go_sem,γ,ahL,bJT,aZ,zE,gJ]
 by_cases c1:val a=0
 ·simp only[go_sem,υ,δ,γ,η,θ,ζ,decide_eq_true c1,ahM]
  have e:(kU neg (val a) (val b)).rf=⟨false,[],[1]⟩:=by
   rw[c1]
   unfold kU FV.rf
   simp[eW,Nat.div_self (bMB h0),tI]
  rw[e]
  refine aX (vs:=[.agg [.bool false,.aB,aF [1]]]) (.inr rfl) .nil ?_ PH.nil_le ⟨show Co (.agg _) (.agg _) from CoL.agg (CoL.cons (.refl _) (CoL.cons (.nil 1) (CoL.cons (.refl _) .nil))),rfl⟩
  simp only[go_sem,δ,γ]
  rfl
 have hgcd:=L.gcd (aG (val a)) (aG (val b)) (aU _) (aU _) (qW na) (qW nb)
 rw[aS,aS,a0N,hnb] at hgcd
 simp only[go_sem,γ,decide_eq_false c1,ahN]
 refine aA hgcd rfl ?_
 have fin:∀ x y:Nat,x=val a/bJY (val a) (val b)→y=val b/bJY (val a) (val b)→∀ (F:PF) (H:PH),F 0=some (.bool neg)→F 1=some (aF (aG x))→F 2=some (aF (aG y))→F 6=some (.ptr o 3 0 0)→H o=some (.rows 3 [[.bool false,.aB,.aB]]) →
   aC.wp C (.seq (.region uZ) .ret) (aT [.cell 6 (some 3)] (bY (.agg (kU neg (val a) (val b)).rf.cells))) F H:=by
  intro x y hx hy F H f0 f1 f2 f6 hH
  subst hx; subst hy
  simp only[go_sem,δ,γ,θ,uZ,f0,f1,f2,f6,hH]
  have hq:val a/bJY (val a) (val b)≠0:=by
   have:=Nat.div_pos (Nat.gcd_le_left (val b) (bMB c1)) (bMB hg0)
   omega
  have e:(kU neg (val a) (val b)).rf=⟨neg,aG (val a/bJY (val a) (val b)),aG (val b/bJY (val a) (val b))⟩:=by
   unfold kU FV.rf
   simp only[hq,ne_eq,not_false_eq_true,decide_true,bLT]
  rw[e]
  refine aX (vs:=[.agg (dY neg (aG (val a/bJY (val a) (val b))) (aG (val b/bJY (val a) (val b))))]) (.inr rfl) .nil ?_ PH.nil_le ⟨.refl _,rfl⟩
  simp only[go_sem,δ,γ,f6]
 simp only[aC.wp,go_sem] at fin
 have hd:=fun x (hx:nl x≤512)=>L.div (aG x) (aG (bJY (val a) (val b))) (aU _) (aU _) (qW hx) (qW ng)
 simp only[aS,kZ] at hd
 have tail:bJY (val a) (val b)≠1→∀ (F:PF) (H:PH),F 0=some (.bool neg)→F 1=some (aF (aG (val a)))→F 2=some (aF (aG (val b)))→F 6=some (.ptr o 3 0 0)→F 7=some (aF (aG (bJY (val a) (val b))))→H o=some (.rows 3 [[.bool false,.aB,.aB]]) →
   aC.wp C (.seq (.seq (.region JG) (.region JH)) (.seq (.region uZ) .ret)) (aT [.cell 6 (some 3)] (bY (.agg (kU neg (val a) (val b)).rf.cells))) F H:=by
  intro _ F H f0 f1 f2 f6 f7 hH
  have d1:=hd (val a) na
  have d2:=hd (val b) nb
  rw[gG na ng,if_neg hg0] at d1
  rw[gG nb ng,if_neg hg0] at d2
  simp only[go_sem,γ,JG,f1,f7]
  refine aA d1 rfl ?_
  simp only[go_sem,γ,bMU,JH,f2,f7]
  refine aA d2 rfl ?_
  simp only[go_sem,γ,bMU]
  exact fin _ _ rfl rfl _ _ (by simp only[go_sem,reduceCtorEq,f0]) rfl rfl (by simp only[go_sem,γ,f6]) hH
 simp only[aC.wp,go_sem] at tail
 simp only[go_sem,γ,bMU,ahO,bJT,aZ]
 by_cases c2:nl (bJY (val a) (val b))>1
 ·have c2':((nl (bJY (val a) (val b)):Nat):Int)>1:=by omega
  simp only[go_sem,γ,c2']
  exact tail ((wU hg0).1 (.inl c2)) _ _ rfl rfl rfl rfl rfl Sq
 ·have c2':¬ ((nl (bJY (val a) (val b)):Nat):Int)>1:=by omega
  simp only[go_sem,ν,γ,reduceCtorEq,c2',adE hg0]
  by_cases c3:bJY (val a) (val b)%4294967296>1
  ·have c3':((bJY (val a) (val b)%4294967296:Nat):Int)>1:=by omega
   simp only[go_sem,c3']
   exact tail ((wU hg0).1 (.inr c3)) _ _ rfl rfl rfl rfl (by simp only[go_sem,γ,adE hg0]) Sq
  ·have c3':¬ ((bJY (val a) (val b)%4294967296:Nat):Int)>1:=by omega
   have h1:bJY (val a) (val b)=1:=by
    rcases Decidable.em (bJY (val a) (val b)=1) with h | h
    ·exact h
    ·rcases (wU hg0).2 h with h | h
     ·exact absurd h c2
     ·exact absurd h c3
   simp only[go_sem,c3']
   exact fin (val a) (val b) (by rw[h1,Nat.div_one]) (by rw[h1,Nat.div_one]) _ _ rfl rfl rfl rfl Sq
theorem bjT {C:Ctx} (v:Int) (h1:-9223372036854775808≤v) (h2:v≤9223372036854775807) :
  JN.wp C (aT aiB.res (aD (.int .u64 (v.natAbs:Nat)))) (PF.args [.int .i64 v]) .nil:=by
 simp only[go_sem,γ,reduceCtorEq,JN,aMC,aMD,aiB]
 by_cases c:v<0
 ·have e1:IntKind.i64.wrap (v+1)=v+1:=wrap_i64 Om Om
  have e2:IntKind.i64.wrap (0-(v+1))=-(v+1):=by rw[wrap_i64 Om Om]; omega
  have e3:IntKind.u64.wrap (IntKind.u64.wrap (-(v+1))+1)=((v.natAbs:Nat):Int):=by
   rw[fB,fB]; omega
  simp only[go_sem,γ,reduceCtorEq,c,aME,e1,e2,e3]
  refine aM (.inr rfl) rfl ?_
  rfl
 ·have e:IntKind.u64.wrap v=((v.natAbs:Nat):Int):=by
   rw[fB]; omega
  simp only[go_sem,γ,reduceCtorEq,c,aMF,e]
  refine aM (.inr rfl) rfl ?_
  rfl
structure aZA (C:Ctx):Prop extends axB C where
 lowest:∀ neg a b,Lim a→Lim b→a.length≤35184372087808→b.length≤35184372087808→nl (val a)≤512→nl (val b)≤512→val b≠0→aE C 58 [.bool neg,aF a,aF b] .nil (aD (.agg (kU neg (val a) (val b)).rf.cells))
 size:∀ v:Int,cU v→aE C 59 [.int .i64 v] .nil (aD (.int .u64 (v.natAbs:Nat)))
def mkT (n d:Int):RF:=(kU (decide (n<0) != decide (d<0)) n.natAbs d.natAbs).rf
def DY (n d:Int):PV:=if d=0 then yK 3 else .tup [.agg (mkT n d).cells,.int .i64 0]
theorem bjN {C:Ctx} (L:aZA C) (n d:Int) (h1:cU n) (h2:cU d) :
  JI.wp C (aT SZ.res (bY (DY n d))) (PF.args [.int .i64 n,.int .i64 d]) .nil:=by
 simp only[go_sem,δ,JI,aLQ,aLR]
 refine aR fun o ho=>?_
 unfold DY
 by_cases c:d=0
 ·subst c
  simp only[go_sem,ρ,δ,γ,aLS]
  refine gI ?_
  simp only[go_sem,δ,γ,SZ]
 ·rw[if_neg c]
  simp only[go_sem,γ,reduceCtorEq,bB c,aLT]
  refine aA (L.size n h1) rfl ?_
  simp only[go_sem]
  refine aA (L.make n.natAbs Om) rfl ?_
  simp only[go_sem,γ]
  refine aA (L.size d h2) rfl ?_
  simp only[go_sem]
  refine aA (L.make d.natAbs Om) rfl ?_
  simp only[go_sem]
  have n1:nl n.natAbs≤2:=lP Om
  have n2:nl d.natAbs≤2:=lP Om
  have low:=L.lowest (decide (n<0) != decide (d<0)) (aG n.natAbs) (aG d.natAbs) (aU _) (aU _) (by rw[aZ]; omega) (by rw[aZ]; omega)
  rw[aS,aS] at low
  have low:=low Om Om Om
  refine aA low rfl ?_
  simp only[go_sem,δ,γ]
  exact aX (.inr rfl) .nil (vs:=[.agg (mkT n d).cells,.int .i64 0]) (by simp only[go_sem,δ,γ,SZ]; rfl) PH.nil_le ⟨.refl _,rfl⟩
structure axC (C:Ctx):Prop extends aZA C where
 fmk:∀ n d:Int,cU n→cU d→aE C 50 [.int .i64 n,.int .i64 d] .nil (aD (DY n d))
theorem bpX {C:Ctx} (L:axC C) (n:Int) (h1:cU n) :
  QP.wp C (aT aLN.res (bY (.agg (mkT n 1).cells))) (PF.args [.int .i64 n]) .nil:=by
 simp only[go_sem,δ,QP,aXR,aXS,aLN]
 refine aR fun o ho=>?_
 simp only[go_sem,reduceCtorEq]
 refine aA (L.fmk n 1 h1 (by unfold cU; omega)) rfl ?_
 unfold DY
 rw[if_neg (by decide)]
 simp only[go_sem,δ,γ]
 refine aR fun p hp=>?_
 have hne:o≠p:=by
  rintro rfl
  simp only[bS,if_true] at hp
  cases hp
 have bIU:p≠o:=fun h=>hne h.symm
 simp only[go_sem,δ,γ,hne,aXT]
 refine aX (vs:=[.agg (mkT n 1).cells]) (.inr rfl) .nil ?_ PH.nil_le ⟨.refl _,rfl⟩
 simp only[go_sem,δ,γ,bIU]
def eZ (l:List Nat) (n a:Nat):Nat × Nat:=if l.length≤a∨n<2 then (0,a) else (l.getD a 0%n,a+1)
def awL (l:List Nat) (a:Nat):RF × Nat :=
 let x:=eZ l 6 a
 let y:=eZ l 8 x.2
 (mkT ((1+x.1:Nat):Int) ((1+y.1:Nat):Int),y.2)
abbrev oF:RF:=mkT 0 1
def buU (l:List Nat) (i j a:Nat):RF × Nat :=
 if j=i+1 then awL l a
 else if j=i then (oF,a)
 else let t:=eZ l 3 a
  if t.1=0 then awL l t.2 else (oF,t.2)
def bsN (l:List Nat) (i a:Nat):Nat→List RF × Nat
 | 0=>([],a)
 | j+1=>let s:=bsN l i a j
  let z:=buU l i j s.2
  (s.1++[z.1],z.2)
structure bqS where
 start:List RF
 exit:List RF
 bHU:List (List RF)
 left:Nat
 a:Nat
def bvN (l:List Nat) (n i:Nat) (s:bqS):Nat × Nat:=if i+1<n then eZ l (s.left+1) s.a else (s.left,s.a)
def bvH (l:List Nat) (n i a:Nat):RF × Nat :=
 let e:=awL l a
 if i+1<n then (let t:=eZ l 3 e.2; (if t.1=0 then oF else e.1,t.2)) else e
def brH (l:List Nat) (n a:Nat):Nat→bqS
 | 0=>⟨[],[],[],8,a⟩
 | i+1=>let s:=brH l n a i
  let k:=bvN l n i s
  let e:=bvH l n i k.2
  let r:=bsN l i e.2 n
  ⟨s.start++[mkT (k.1:Nat) 8],s.exit++[e.1],s.bHU++[r.1],s.left-k.1,r.2⟩
def bBY (l:List Nat) (brY a:Nat):cJ × Nat :=
 let t:=eZ l brY a
 let s:=brH l (1+t.1) t.2 (1+t.1)
 (⟨[],s.start,s.bHU,s.exit⟩,s.a)
def bsI (l:List Nat) (a:Nat):Nat→List RF × Nat
 | 0=>([],a)
 | k+1=>let s:=bsI l a k
  let z:=awL l s.2
  (s.1++[z.1],z.2)
abbrev yQ (n:Nat):List UInt8:=Lib.decDigits n
def bkK (l:List Nat) (a:Nat):Nat→List cJ × Nat
 | 0=>([],a)
 | k+1=>let s:=bkK l a k
  let z:=bBY l 2 s.2
  (s.1++[{ z.1 with name:=[108,97,119]++yQ k }],z.2)
def aSE (l:List Nat) (bHY a:Nat):Nat→List cS × Nat
 | 0=>([],a)
 | k+1=>let s:=aSE l bHY a k
  let x:=eZ l 4 s.2
  let y:=eZ l 8 x.2
  let z:=eZ l bHY y.2
  (s.1++[⟨[109]++yQ k,(1+x.1:Nat),(1+y.1:Nat),(z.1:Nat)⟩],z.2)
structure GS where
 bIA:List bQ
 bIO:List cB
 a:Nat
def bkF (l:List Nat) (mc bHP domain:Nat) (s:GS):Nat→GS
 | 0=>s
 | i+1=>let s:=bkF l mc bHP domain s i
  if s.bIO.length<bHP then
   let t:=eZ l mc s.a
   { s with bIO:=s.bIO++[⟨[100]++yQ s.bIO.length,(t.1:Nat),(domain:Nat)⟩],a:=t.2 }
  else s
def aSB (level:Nat):UInt8:=match level with
 | 0=>45
 | 1=>115
 | 2=>114
 | 3=>107
 | _=>109
def bBQ (l:List Nat) (level domain:Nat) (s:GS):GS :=
 let u:=eZ l 16 s.a
 let t:=eZ l 3 u.2
 let k:=eZ l 6 t.2
 let sh:RF × Nat:=if t.1=0 then (mkT 1 ((2+k.1:Nat):Int),k.2) else (oF,t.2)
 { s with bIA:=s.bIA++[⟨[aSB level]++yQ s.bIA.length,(level:Nat),(domain:Nat),(1+u.1:Nat),sh.1⟩],a:=sh.2 }
def bvJ (bHP:Nat) (s:GS):Bool:=decide (bHP≤s.bIO.length)||decide (35≤s.bIA.length)
def bkG (l:List Nat) (level bHP domain:Nat) (rec:Nat→GS→GS) (s:GS):Nat→GS
 | 0=>s
 | i+1=>let s:=bkG l level bHP domain rec s i
  if bvJ bHP s then s else (let s':=bBQ l level domain s; rec (s'.bIA.length-1) s')
def bkI (l:List Nat) (mc bHP:Nat):Nat→Nat→GS→GS
 | 0,domain,s=>let t:=eZ l 2 s.a
  bkF l mc bHP domain { s with a:=t.2 } (1+t.1)
 | k+1,domain,s=>let t:=eZ l 2 s.a
  bkG l (4-k) bHP domain (bkI l mc bHP k) { s with a:=t.2 } (if 4-k=2 then 1 else 1+t.1)
def jC:bQ:=⟨[],0,-1,0,oF⟩
def SR (l:List Nat) (a:Nat):Int × Nat :=
 let t:=eZ l 3 a
 let k:=eZ l 3 t.2
 if t.1=0 then ((1+k.1:Nat),k.2) else (0,t.2)
def boN (l:List Nat) (bHQ i a:Nat):cZ × Nat :=
 let k:=eZ l 2 a
 let m:=eZ l 3 k.2
 let h:=eZ l 4 m.2
 let q:=eZ l (m.1+1) h.2
 let r:=bsI l q.2 (max m.1 1)
 let g:=eZ l 9 r.2
 let s1:=SR l g.2
 let s2:=SR l s1.2
 let s3:=SR l s2.2
 let s4:=SR l s3.2
 let f:=eZ l bHQ s4.2
 let b:=eZ l 2 f.2
 let ms:List Int × Nat:=if 1<bHQ then (if b.1=0 then ([(f.1:Int),1-(f.1:Int)],b.2) else ([(f.1:Int)],b.2)) else ([(f.1:Int)],f.2)
 (⟨[112]++yQ i,(1+k.1:Nat),(m.1:Nat),(1+k.1+q.1:Nat),0,s1.1,s2.1,s3.1,s4.1,ms.1,r.1,mkT (g.1:Nat) 8,mkT ((1+h.1:Nat):Int) 1⟩,ms.2)
def arM (l:List Nat) (bHQ a:Nat):Nat→List cZ × Nat
 | 0=>([],a)
 | k+1=>let s:=arM l bHQ a k
  let z:=boN l bHQ k s.2
  (s.1++[z.1],z.2)
def aLX (l:List Nat) (pols a:Nat):Nat→List eC × Nat
 | 0=>([],a)
 | k+1=>let s:=aLX l pols a k
  let z:=eZ l pols s.2
  (s.1++[⟨[118]++yQ k,(z.1:Nat)⟩],z.2)
def acH (l:List Nat) (bHP bHR a:Nat):aK × Nat :=
 let e:=eZ l 2 a
 let lw:=eZ l 2 e.2
 let bHY:=bkK l lw.2 (1+lw.1)
 let md:=eZ l 2 bHY.2
 let bHQ:=aSE l (1+lw.1) md.2 (1+md.1)
 let g:=bkI l (1+md.1) bHP 4 0 ⟨[jC],[],bHQ.2⟩
 let pl:=eZ l 2 g.a
 let pols:=arM l (1+md.1) pl.2 (1+pl.1)
 let vo:=eZ l (bHR+1) pols.2
 let vols:=aLX l (1+pl.1) vo.2 vo.1
 (⟨(1+e.1:Nat),bHY.1,bHQ.1,g.bIA,g.bIO,pols.1,vols.1⟩,vols.2)
def nxM (l:List Int) (n a:Nat):Nat:=if n=0 then 0 else ((l.getD a ((a%3:Nat):Int))%(n:Int)).toNat
theorem cK (l:List Int) {n:Nat} (h:0<n) (a:Nat):nxM l n a<n:=by
 unfold nxM
 rw[if_neg Om]
 have h1:=Int.emod_lt_of_pos (l.getD a ((a%3:Nat):Int)) (Om:(0:Int)<n)
 have h2:=Int.emod_nonneg (l.getD a ((a%3:Nat):Int)) (Om:(n:Int)≠0)
 omega
def dM (c:UInt8) (n:Nat):List UInt8:=[c,UInt8.ofNat (97+n/26%26),UInt8.ofNat (97+n%26)]
def dJ (ds:List bQ) (level parent bIP:Nat):List bQ:=ds++[⟨dM 110 ds.length,(level:Nat),(parent:Nat),(bIP:Nat),oF⟩]
structure MS where
 bIA:List bQ
 bIO:List cB
 site:Nat
 room:Nat
 rack:Nat
 a:Nat
def eK (l:List Int) (i:Nat) (s:MS):MS :=
 let new (a:Nat):MS :=
  let d1:=dJ s.bIA 1 0 (16+nxM l 17 a)
  let d2:=dJ d1 2 s.bIA.length (16+nxM l 17 (a+1))
  let d3:=dJ d2 3 d1.length (8+nxM l 9 (a+2))
  ⟨d3,s.bIO,s.bIA.length,d1.length,d2.length,a+3⟩
 if i=0 then new s.a
 else if nxM l 4 s.a=0 then new (s.a+1)
 else if nxM l 2 (s.a+1)=0 then ⟨dJ s.bIA 3 s.room (8+nxM l 9 (s.a+2)),s.bIO,s.site,s.room,s.bIA.length,s.a+3⟩
 else { s with a:=s.a+2 }
def iY (l:List Int) (m:Nat):Nat→List cB × Nat→List cB × Nat
 | 0,s=>s
 | k+1,s=>if s.1.length<9 then iY l m k (s.1++[⟨dM 100 s.1.length,((if nxM l 4 s.2=0 then 1 else 0:Nat):Int),(m:Nat)⟩],s.2+1) else s
def yT (l:List Int) (i:Nat) (s:MS):MS :=
 let p:=eK l i s
 let ds:=dJ p.bIA 4 p.rack (8+nxM l 9 p.a)
 let d:=iY l p.bIA.length (1+nxM l 2 (p.a+1)) (p.bIO,p.a+2)
 { p with bIA:=ds,bIO:=d.1,a:=d.2 }
def eH (l:List Int) (s:MS):Nat→MS
 | 0=>s
 | i+1=>yT l i (eH l s i)
def oI (l:List Int) (n a:Nat):cZ :=
 let k:=1+nxM l 2 a
 let m:=nxM l 3 (a+1)
 ⟨dM 112 n,(k:Nat),(m:Nat),(k+nxM l (m+1) (a+2):Nat),0,0,0,(nxM l 4 (a+3):Nat),(nxM l 3 (a+4):Nat),if nxM l 5 (a+5)=0 then [0] else [0,1],bJW (max m 1) (mkT 1 2),mkT 1 1000,mkT 30 1⟩
def gZ (l:List Int):Nat→Nat→List cZ
 | 0,_=>[]
 | n+1,a=>oI l (n+1) a::gZ l n (a+6)
def kP (l:List Int) (pols:Nat):Nat→Nat→List eC
 | 0,_=>[]
 | n+1,a=>⟨dM 118 (n+1),(nxM l pols a:Nat)⟩::kP l pols n (a+1)
def dD (l:List Int) (bHR a:Nat):aK × Nat :=
 let law:cJ:=⟨[100,105,115,107],[mkT 1 1],[[mkT 0 1]],[mkT 1 ((100+nxM l 100 (a+1):Nat):Int)]⟩
 let m1:cS:=⟨[98,105,103],(3+nxM l 2 (a+2):Nat),(8+nxM l 9 (a+3):Nat),0⟩
 let m2:cS:=⟨[111,108,100],(1+nxM l 3 (a+4):Nat),(4+nxM l 9 (a+5):Nat),0⟩
 let s:=eH l ⟨[jC],[],0,0,0,a+7⟩ (3+nxM l 3 (a+6))
 let np:=1+nxM l 2 s.a
 let nv:=1+nxM l bHR (s.a+1+6*np)
 (⟨(1+nxM l 2 a:Nat),[law],[m1,m2],s.bIA,s.bIO,gZ l np (s.a+1),kP l np nv (s.a+2+6*np)⟩,s.a+2+6*np+nv)
def oW (row:List Int) (n:Nat):Nat→Nat→Nat
 | 0,d=>d
 | k+1,d=>if row.contains (d:Int) then oW row n k ((d+1)%n) else d
def uR (l:List Int) (row:List Int) (n a:Nat):Int × Nat :=
 let d:=oW row n n (nxM l n a)
 if row.contains (d:Int) then (-1,a+1) else if nxM l 12 (a+1)=0 then (-1,a+2) else ((d:Int),a+2)
def jP (l:List Int) (n a:Nat):Nat→List Int × Nat
 | 0=>([],a)
 | i+1=>let s:=jP l n a i
  let z:=uR l s.1 n s.2
  (s.1++[z.1],z.2)
def cY (l:List Int) (f:aK) (a:Nat):Nat→List (List Int) × Nat
 | 0=>([],a)
 | v+1=>let s:=cY l f a v
  let r:=jP l f.bHP.length s.2 (fC f v).toNat
  (s.1++[r.1],r.2)
def wN (l:List Int) (x:Int) (a:Nat):Int × Nat :=
 if nxM l 9 a=0 then (0,a+1) else if nxM l 9 a=1 then ((nxM l (x+1).toNat (a+1):Nat),a+2) else (x,a+1)
def eY (l:List Int):List Int→Nat→List Int × Nat
 | [],a=>([],a)
 | x::xs,a=>let z:=wN l x a
  let r:=eY l xs z.2
  (z.1::r.1,r.2)
theorem aPJ (l:List Int) (m:Nat):∀ (k:Nat) (s:List cB × Nat),s.1.length≤9→(iY l m k s).1.length≤9∧s.2≤(iY l m k s).2∧(iY l m k s).2≤s.2+k
 | 0,s,h=>⟨h,bJV _,bJV _⟩
 | k+1,s,h=>by
  rw[iY]
  split
  ·have:=aPJ l m k (s.1++[⟨dM 100 s.1.length,((if nxM l 4 s.2=0 then 1 else 0:Nat):Int),(m:Nat)⟩],s.2+1) (by simp; omega)
   simp only at this
   omega
  ·exact⟨h,bJV _,by omega⟩
theorem aSD (a b:Nat):mkT (a:Int) (b:Int)=⟨false,aG (a/bJY a b),aG (b/bJY a b)⟩:=by
 have h1:decide ((a:Int)<0)=false:=decide_eq_false Om
 have h2:decide ((b:Int)<0)=false:=decide_eq_false Om
 unfold mkT kU FV.rf
 rw[h1,h2,Int.natAbs_natCast,Int.natAbs_natCast]
 rfl
structure SmF (x:RF) (p q:Nat):Prop where
 eq:x=⟨false,aG (p/bJY p q),aG (q/bJY p q)⟩
 a:p≤64
 b:q≤64
 pos:0<q
theorem SmF.mk' {a b:Nat} (ha:a≤64) (hb:b≤64) (h:0<b):SmF (mkT (a:Int) (b:Int)) a b:=⟨aSD a b,ha,hb,h⟩
theorem SmF.num {x:RF} {a b:Nat} (h:SmF x a b):val x.num=a/bJY a b:=by rw[h.eq,aS]
theorem SmF.den {x:RF} {a b:Nat} (h:SmF x a b):val x.den=b/bJY a b:=by rw[h.eq,aS]
theorem SmF.v {x:RF} {a b:Nat} (h:SmF x a b):x.v=(false,a/bJY a b,b/bJY a b):=by
 unfold RF.v
 rw[h.num,h.den,h.eq]
theorem SmF.aFX {x:RF} {a b:Nat} (_:SmF x a b):a/bJY a b≤a:=Nat.div_le_self ..
theorem SmF.ayH {x:RF} {a b:Nat} (_:SmF x a b):b/bJY a b≤b:=Nat.div_le_self ..
theorem SmF.den_pos {x:RF} {a b:Nat} (h:SmF x a b):0<b/bJY a b:=Nat.div_pos (Nat.le_of_dvd h.pos (Nat.gcd_dvd_right a b)) (Nat.gcd_pos_of_pos_right a h.pos)
theorem vM {n:Nat} (h:n≤4096):cC n≤32:=(kG n 32).2 Om
theorem aNG {n:Nat} (h:0<n):0<cC n:=by
 rcases bMT (cC n) with e | e
 ·rw[jE] at e; omega
 ·exact e
theorem QO {a b:Nat} (ha:a≤4096) (hb:b≤4096) (h:0<b):cM a b=true:=by
 have h1:=vM ha
 have h2:=vM hb
 have h3:=aNG h
 unfold cM
 rw[decide_eq_true h3,decide_eq_true (Om:cC b≤4096),decide_eq_true (Om:cC a≤4096)]
 rfl
theorem bnN {n:Bool} {a b:Nat} (ha:a≤4096) (hb:b≤4096):gP n a b=.ok (n&&decide (a/bJY a b≠0),a/bJY a b,b/bJY a b):=by
 have h1:=vM (bMQ (Nat.div_le_self a (bJY a b)) ha)
 have h2:=vM (bMQ (Nat.div_le_self b (bJY a b)) hb)
 unfold gP
 rw[if_neg Om]
theorem SmF.lim {x:RF} {a b:Nat} (h:SmF x a b):cG x=true:=by
 have h1:=h.aFX
 have h2:=h.ayH
 have h3:=h.den_pos
 have:=h.a
 have:=h.b
 have hn:x.neg=false:=by rw[h.eq]
 unfold cG mG
 rw[h.num,h.den,hn,QO Om Om h3,if_pos rfl,bnN Om Om]
 have e1:=Nat.div_le_self (a/bJY a b) (bJY (a/bJY a b) (b/bJY a b))
 have e2:=Nat.div_le_self (b/bJY a b) (bJY (a/bJY a b) (b/bJY a b))
 simp only[bJZ,bKI,bKE,bKR,decide_eq_true_eq]
 exact⟨vM Om,vM Om⟩
theorem SmF.uF {x:RF} {a b:Nat} (h:SmF x a b) (ha:0<a):bZ x=true:=by
 unfold bZ
 rw[h.num]
 exact decide_eq_true (Nat.ne_of_gt (Nat.div_pos (Nat.le_of_dvd ha (Nat.gcd_dvd_left a b)) (Nat.gcd_pos_of_pos_right a h.pos)))
theorem SmF.zero {x:RF} {b:Nat} (h:SmF x 0 b):bZ x=false:=by
 unfold bZ
 rw[h.num,Nat.zero_div]
 rfl
theorem SmF.one {x:RF} {a b:Nat} (h:SmF x a b) (hab:a≤b):rW x=true:=by
 have h1:=h.aFX
 have h2:=h.ayH
 have h3:=h.den_pos
 have:=h.a
 have:=h.b
 have hn:x.neg=false:=by rw[h.eq]
 unfold rW
 rw[h.num,h.den,hn,QO Om Om h3]
 have:a/bJY a b≤b/bJY a b:=Nat.div_le_div_right hab
 show (true&&decide (dB (a/bJY a b*1) (1*(b/bJY a b))≤0))=true
 rw[Nat.mul_one,Nat.one_mul,bKE]
 refine decide_eq_true ?_
 unfold dB
 split
 ·decide
 ·split
  ·omega
  ·decide
theorem SmF.ok {x:RF} {a b:Nat} (h:SmF x a b):x.Ok:=by
 have h1:=h.aFX
 have h2:=h.ayH
 have:=h.a
 have:=h.b
 have k1:nl (a/bJY a b)≤1:=(gT _ _).2 Om
 have k2:nl (b/bJY a b)≤1:=(gT _ _).2 Om
 rw[h.eq]
 refine⟨aU _,aU _,?_,?_⟩
 ·show (aG _).length≤_
  rw[aZ]; omega
 ·show (aG _).length≤_
  rw[aZ]; omega
theorem TE {l:List (List UInt8)} (h1:∀ x∈l,isName x=true) (h2:l.Nodup):distinct l=true:=by
 unfold distinct
 rw[bKQ]
 intro i hi
 rw[bLI] at hi
 have e:l.getD i []=l[i]:=by simp[bKO,hi]
 rw[e,h1 _ (bJX hi),bKE]
 have:¬ l[i]∈l.take i:=by
  intro hm
  obtain⟨j,hj,e⟩:=bMA hm
  rw[bKL] at hj
  rw[List.getElem_take] at e
  have:=(List.nodup_iff_pairwise_ne.1 h2)
  rw[List.pairwise_iff_getElem] at this
  exact this j i Om hi Om e
 simp[this]
theorem NR {l:List (List UInt8)} {g:List UInt8→Nat} (h:∀ i (hi:i<l.length),g l[i]=i):l.Nodup:=by
 rw[List.nodup_iff_pairwise_ne,List.pairwise_iff_getElem]
 intro i j hi hj hlt e
 have h1:=h i hi
 have h2:=h j hj
 rw[e] at h1
 omega
theorem mX (a b:Nat) (ha:a<4294967296) (hb:b<4294967296):(mkT (a:Int) (b:Int)).Ok:=by
 rw[aSD]
 have h1:=Nat.div_le_self a (bJY a b)
 have h2:=Nat.div_le_self b (bJY a b)
 have k1:nl (a/bJY a b)≤1:=(gT _ _).2 Om
 have k2:nl (b/bJY a b)≤1:=(gT _ _).2 Om
 refine⟨aU _,aU _,?_,?_⟩
 ·show (aG _).length≤_
  rw[aZ]; omega
 ·show (aG _).length≤_
  rw[aZ]; omega
theorem jX {n:Nat} (h:n≤1000000):cU (n:Int):=by unfold cU; omega
def LE (ds:List bQ):Prop:=∀ x∈ds,x.bIH.Ok∧cU x.level∧cU x.parent
def ZU (ds:List cB):Prop:=∀ x∈ds,cU x.model∧cU x.machine
theorem LE.dom {ds:List bQ} (h:LE ds) {level parent bIP:Nat} (h1:level≤1000) (h2:parent≤1000):LE (dJ ds level parent bIP):=fun x hx=>by
 unfold dJ at hx
 rw[bLH,bLD] at hx
 rcases hx with hx | rfl
 ·exact h x hx
 ·exact⟨mX 0 1 (by decide) (by decide),jX Om,jX Om⟩
structure MOk (k:Nat) (a0:Nat) (s:MS):Prop where
 len:s.bIA.length≤1+4*k
 bIA:LE s.bIA
 dlen:s.bIO.length≤9
 bIO:ZU s.bIO
 room:s.room≤4*k
 rack:s.rack≤4*k
 lo:a0≤s.a
 hi:s.a≤a0+8*k
structure POk (k:Nat) (a0:Nat) (s:MS):Prop where
 len:s.bIA.length≤4+4*k
 bIA:LE s.bIA
 dlen:s.bIO.length≤9
 bIO:ZU s.bIO
 room:s.room≤3+4*k
 rack:s.rack≤3+4*k
 lo:a0≤s.a
 hi:s.a≤a0+8*k+4
theorem mW (ds:List bQ) (a b c:Nat):(dJ ds a b c).length=ds.length+1:=by simp[dJ]
theorem VG (l:List Int) (i:Nat) {k a0:Nat} {s:MS} (hk:k≤100) (h:MOk k a0 s):POk k a0 (eK l i s):=by
 obtain⟨h1,h2,h3,h4,h5,h6,h7,h8⟩:=h
 have key:∀ a,s.a≤a→a≤s.a+1→POk k a0 ⟨dJ (dJ (dJ s.bIA 1 0 (16+nxM l 17 a)) 2 s.bIA.length (16+nxM l 17 (a+1))) 3 (dJ s.bIA 1 0 (16+nxM l 17 a)).length (8+nxM l 9 (a+2)),s.bIO,s.bIA.length,(dJ s.bIA 1 0 (16+nxM l 17 a)).length,(dJ (dJ s.bIA 1 0 (16+nxM l 17 a)) 2 s.bIA.length (16+nxM l 17 (a+1))).length,a+3⟩:=fun a g1 g2 =>
  ⟨by simp only[mW]; omega,((h2.dom Om Om).dom Om Om).dom Om (by rw[mW]; omega),h3,h4,by simp only[mW]; omega,by simp only[mW]; omega,by simp only; omega,by simp only; omega⟩
 unfold eK
 simp only
 split
 ·exact key _ (bJV _) Om
 ·split
  ·exact key _ Om (bJV _)
  ·split
   ·exact⟨by simp only[mW]; omega,h2.dom Om Om,h3,h4,by simp only; omega,by simp only; omega,by simp only; omega,by simp only; omega⟩
   ·exact⟨by simp only; omega,h2,h3,h4,by simp only; omega,by simp only; omega,by simp only; omega,by simp only; omega⟩
theorem aoR (l:List Int) {m:Nat} (hm:m≤1000):∀ (k:Nat) (s:List cB × Nat),ZU s.1→ZU (iY l m k s).1
 | 0,s,h=>h
 | k+1,s,h=>by
  rw[iY]
  split
  ·refine aoR l hm k _ fun x hx=>?_
   rw[bLH,bLD] at hx
   rcases hx with hx | rfl
   ·exact h x hx
   ·refine⟨jX ?_,jX Om⟩
    split<;>omega
  ·exact h
theorem a1K (l:List Int) (i:Nat) {k a0:Nat} {s:MS} (hk:k≤100) (h:MOk k a0 s):MOk (k+1) a0 (yT l i s):=by
 obtain⟨h1,h2,h3,h4,h5,h6,h7,h8⟩:=VG l i hk h
 have n2:=cK l (show 0<2 by decide) ((eK l i s).a+1)
 unfold yT
 simp only
 obtain⟨g1,g2,g3⟩:=aPJ l (eK l i s).bIA.length (1+nxM l 2 ((eK l i s).a+1)) ((eK l i s).bIO,(eK l i s).a+2) h3
 have g4:=aoR l (m:=(eK l i s).bIA.length) Om (1+nxM l 2 ((eK l i s).a+1)) ((eK l i s).bIO,(eK l i s).a+2) h4
 simp only at g2 g3
 exact⟨by simp only[mW]; omega,h2.dom Om Om,g1,g4,by simp only; omega,by simp only; omega,by simp only; omega,by simp only; omega⟩
theorem oQ (l:List Int) {a0:Nat} {s:MS} (h:MOk 0 a0 s):∀ k,k≤100→MOk k a0 (eH l s k)
 | 0,_=>h
 | k+1,hk=>a1K l k Om (oQ l h k Om)
theorem aeF (a:Nat):MOk 0 a ⟨[jC],[],0,0,0,a⟩ :=
 ⟨by simp,fun x hx=>by
  rw[bLD] at hx
  subst hx
  exact⟨mX 0 1 (by decide) (by decide),by unfold cU jC; simp,by unfold cU jC; simp⟩,by simp,(fun x hx=>by cases hx),by simp,by simp,bJV _,by simp only; omega⟩
theorem pU (l:List Int):∀ n a,(gZ l n a).length=n
 | 0,_=>rfl
 | n+1,a=>by rw[gZ,bLU,pU l n]
theorem zJ (l:List Int) (p:Nat):∀ n a,(kP l p n a).length=n
 | 0,_=>rfl
 | n+1,a=>by rw[kP,bLU,zJ l p n]
theorem bmV:(mkT 1 2).Ok:=mX 1 2 (by decide) (by decide)
theorem boK (l:List Int) (n a:Nat):(oI l n a).Ok:=by
 have n1:=cK l (show 0<2 by decide) a
 have n2:=cK l (show 0<3 by decide) (a+1)
 have n3:=cK l (Om:0<nxM l 3 (a+1)+1) (a+2)
 unfold oI
 refine⟨jX Om,jX Om,jX Om,?_,?_,⟨?_,?_⟩,mX 1 1000 (by decide) (by decide),mX 30 1 (by decide) (by decide)⟩
 ·simp only; split<;>decide
 ·simp only
  intro m hm
  split at hm
  ·rw[bLD] at hm; subst hm; exact jX (n:=0) (by decide)
  ·rw[bKJ,bLD] at hm
   rcases hm with rfl | rfl
   ·exact jX (n:=0) (by decide)
   ·exact jX (n:=1) (by decide)
 ·show (bJW _ _).length≤_
  rw[bNI]; omega
 ·intro x hx
  rw[List.eq_of_mem_replicate hx]; exact bmV
theorem aGU (l:List Int):∀ n a,∀ p∈gZ l n a,p.Ok
 | 0,_,p,h=>by cases h
 | n+1,a,p,h=>by
  rw[gZ,bKJ] at h
  rcases h with rfl | h
  ·exact boK l _ _
  ·exact aGU l n _ p h
theorem aLW (l:List Int) {p:Nat} (hp:0<p) (hp2:p≤1000):∀ n a,∀ x∈kP l p n a,0≤x.bID∧x.bID<p∧cU x.bID
 | 0,_,x,h=>by cases h
 | n+1,a,x,h=>by
  rw[kP,bKJ] at h
  rcases h with rfl | h
  ·have:=cK l hp a
   exact⟨by simp only; omega,by simp only; omega,jX Om⟩
  ·exact aLW l hp hp2 n _ x h
theorem aGT (l:List Int):∀ n a,∀ p∈gZ l n a,1≤p.k∧p.k≤2∧0≤p.m∧p.m≤2
 | 0,_,p,h=>by cases h
 | n+1,a,p,h=>by
  rw[gZ,bKJ] at h
  rcases h with rfl | h
  ·have n1:=cK l (show 0<2 by decide) a
   have n2:=cK l (show 0<3 by decide) (a+1)
   unfold oI
   simp only
   omega
  ·exact aGT l n _ p h
structure FM (f:aK):Prop where
 ok:f.Ok
 km:∀ p∈f.bHT,1≤p.k∧p.k≤2∧0≤p.m∧p.m≤2
 bHP:f.bHP.length≤9
 pols:1≤f.bHT.length∧f.bHT.length≤2
 vols:∀ x∈f.bHR,0≤x.bID∧x.bID<f.bHT.length
theorem yJ (l:List Int) {bHR:Nat} (hv:bHR≤1000) (a:Nat):FM (dD l bHR a).1∧(dD l bHR a).1.bHR.length≤1+bHR∧a≤(dD l bHR a).2∧(dD l bHR a).2≤a+100+bHR:=by
 have n3:=cK l (show 0<3 by decide) (a+6)
 obtain⟨h1,h2,h3,h4,-,-,h7,h8⟩:=oQ l (aeF (a+7)) (3+nxM l 3 (a+6)) Om
 unfold dD
 simp only
 generalize eH l ⟨[jC],[],0,0,0,a+7⟩ (3+nxM l 3 (a+6))=s at *
 have n2:=cK l (show 0<2 by decide) s.a
 have nv:nxM l bHR (s.a+1+6*(1+nxM l 2 s.a))≤bHR:=by
  rcases bMT bHR with e | e
  ·subst e; unfold nxM; simp
  ·exact Nat.le_of_lt (cK l e _)
 have n100:=cK l (show 0<100 by decide) (a+1)
 have hvo:=aLW l (p:=1+nxM l 2 s.a) Om Om (1+nxM l bHR (s.a+1+6*(1+nxM l 2 s.a))) (s.a+2+6*(1+nxM l 2 s.a))
 refine⟨⟨⟨by simp,by simp,by unfold Fits; simp only; omega,by unfold Fits; simp only; omega,by unfold Fits; rw[pU]; omega,by unfold Fits; rw[zJ]; omega,?_,h2,h4,fun p hp=>aGU l _ _ p hp,fun x hx=>(hvo x hx).2.2⟩,fun p hp=>aGT l _ _ p hp,h3,by rw[pU]; omega,fun x hx=>by rw[pU]; exact⟨(hvo x hx).1,by have:=(hvo x hx).2.1; omega⟩⟩,by rw[zJ]; omega,by omega,by omega⟩
 intro x hx
 rw[bLD] at hx
 subst hx
 refine⟨⟨by simp,fun x hx=>?_⟩,⟨by simp,fun x hx=>?_⟩,by simp,fun r hr=>?_⟩
 ·rw[bLD] at hx; subst hx; exact mX 1 1 (by decide) (by decide)
 ·rw[bLD] at hx; subst hx; exact mX 1 _ (by decide) Om
 ·rw[bLD] at hr
  subst hr
  refine⟨by simp,fun x hx=>?_⟩
  rw[bLD] at hx; subst hx; exact mX 0 1 (by decide) (by decide)
theorem FM.pol {f:aK} (h:FM f) {v:Nat} (hv:v<f.bHR.length):uD f v<f.bHT.length∧fE f v∈f.bHT:=by
 have h1:=h.vols _ (bJX hv)
 have h2:uD f v=(f.bHR[v]).bID.toNat:=by rw[uD,nK hv]
 have h3:uD f v<f.bHT.length:=by omega
 refine⟨h3,?_⟩
 unfold fE
 rw[bKO,bKD h3,bMJ]
 exact bJX h3
theorem FM.WY {f:aK} (h:FM f) {v:Nat} (hv:v<f.bHR.length):1≤fC f v∧fC f v≤4:=by
 have:=h.km _ (h.pol hv).2
 unfold fC
 omega
theorem DP (l:List Int) (n a:Nat):∀ k,(jP l n a k).1.length=k∧a≤(jP l n a k).2∧(jP l n a k).2≤a+2*k
 | 0=>⟨rfl,bJV _,bJV _⟩
 | k+1=>by
  obtain⟨h1,h2,h3⟩:=DP l n a k
  rw[jP]
  simp only[bKA,bKH,h1,true_and]
  unfold uR
  simp only
  split
  ·simp only; omega
  ·split<;>simp only<;>omega
theorem qR (l:List Int) {f:aK} (hf:FM f) (a:Nat):∀ k,k≤f.bHR.length→(cY l f a k).1.length=k∧(∀ r∈(cY l f a k).1,r.length≤4)∧a≤(cY l f a k).2∧(cY l f a k).2≤a+8*k
 | 0,_=>⟨rfl,(fun r h=>by cases h),bJV _,bJV _⟩
 | k+1,hk=>by
  obtain⟨h1,h2,h3,h4⟩:=qR l hf a k Om
  have hfr:=hf.WY (v:=k) Om
  obtain⟨r1,r2,r3⟩:=DP l f.bHP.length (cY l f a k).2 (fC f k).toNat
  rw[cY]
  simp only[bKA,bKH,h1,true_and]
  refine⟨fun r hr=>?_,by omega,by omega⟩
  rw[bLH,bLD] at hr
  rcases hr with hr | rfl
  ·exact h2 r hr
  ·rw[r1]; omega
def aIA:Rg:=[iA 2 (.box true (Tm 0)),iI 4 0]
def aIB:Rd:=[(iF 6 5 2,false),(iL 7 6,false),(iF 8 6 2,false),(iL 9 8,false),(iM 10 1,false),(iX 11 2 9 10,false),(iF 12 1 11,false),(iL 13 12,false),(iX 14 17 7 13,false),(iO 15 17 14,false),(iA 5 (.alloc [(.str []),(.int .i64 0),(.int .i64 0),(.int .i64 0),(.int .i64 0),(.int .i64 0),(.int .i64 0),(.int .i64 0),(.int .i64 0),.aB,.aB,(.bool false),.aB,.aB,(.bool false),.aB,.aB]),true),(iS 17 5 15,true)]
def aIC:Rg:=[iF 16 1 5,iL 17 16,iF 18 2 5,iL 19 18,iB 20 .add 17 19,iM 4 20]
def IC:aC:=(sq aIA (dq aIB (sq aIC .ret)))
def biH:List Nat:=[2]
def afR:aW:=⟨2,21,IC,[.tmp 4]⟩
abbrev bwB (l:List Nat):List (List PV):=l.map fun (n:Nat)=>[PV.int .u8 (n:Int)]
abbrev awN (v:PV) (a:Nat):cP:=.rows 2 [[v,.int .i64 a]]
structure Tp (l:List Nat) (v:PV):Prop where
 seen:Seen 1 v (bwB l)
 byte:∀ x∈l,x<256
 len:l.length≤400
section
variable {C:Ctx} {F:PF} {H:PH} {l:List Nat} {v:PV} {o a:Nat}
end
abbrev SG (l:List RF):List (List PV):=l.map RF.cells
theorem a0L (l:List RF) (x:RF):SG l++[x.cells]=SG (l++[x]):=by simp[SG]
theorem MP (l:List RF):(SG l).length=l.length:=by simp[SG]
theorem Tp.frz {l:List Nat} {v:PV} (T:Tp l v) (q s:Nat) (rs:List (List PV)):PV.dC q s rs v=v:=by
 rcases T.seen with ⟨_,rfl⟩ | rfl<;>rfl



section
variable {C:Ctx} {F:PF} {H Hs:PH} {l:List Nat} {v:PV} {o a:Nat}
end
theorem bL.uA {H:PH} {s:Nat} {v:PV} {rows:List (List PV)} (h:bL H s v rows):PV.uA v=some (.int .i64 (rows.length:Nat)):=by
 rcases h with ⟨rfl,rfl⟩ | ⟨q,rs,rfl,_⟩<;>rfl
abbrev dK (l:List bQ):List (List PV):=l.map bQ.cells
abbrev eD (l:List cB):List (List PV):=l.map cB.cells
abbrev flB (ext wl wm wd wr wp wv:PV):cP:=.rows 7 [[ext,wl,wm,wd,wr,wp,wv]]
structure GE where
 o:Nat
 fo:Nat
 qm:Nat
 ext:PV
 wl:PV
 wp:PV
 wv:PV
abbrev GE.boxes (G:GE) (v:PV) (mc:Nat) (wd wr:PV) (a:Nat):List BX:=[(G.o,awN v a),(G.fo,flB G.ext G.wl (.osl G.qm 4 0 mc) wd wr G.wp G.wv)]
theorem bL.one {H:PH} {s:Nat} {v:PV} {rows:List (List PV)} (h:bL H s v rows) (hn:0<rows.length):∃ q,v=.osl q s 0 rows.length:=by
 rcases h with ⟨rfl,_⟩ | ⟨q,rs,rfl,_⟩
 ·simp at hn
 ·exact⟨q,rfl⟩


structure FE where
 o:Nat
 o6:Nat
 o7:Nat
 bHP:Nat
 bHR:Nat
abbrev flZ:cP:=flB (.int .i64 0) .aB .aB .aB .aB .aB .aB
abbrev FE.boxes (E:FE) (v ext w1 w2 w3 w4 w5 w6:PV) (a:Nat):List BX:=[(E.o,awN v a),(E.o7,flB ext w1 w2 w3 w4 w5 w6),(E.o6,flZ)]
abbrev aDO (l:List cJ):List (List PV):=l.map cJ.cells
abbrev a7W (l:List cS):List (List PV):=l.map cS.cells


abbrev FE.lists (w1 w2 w3 w4 w5:PV) (lw:List cJ) (md:List cS) (dm:List bQ) (dv:List cB) (pr:List (List PV)):List LI:=[(w1,4,aDO lw),(w2,4,a7W md),(w3,7,dK dm),(w4,3,eD dv),(w5,17,pr)]
abbrev lC (l:List cZ):List (List PV):=l.map cZ.cells
abbrev oS (l:List eC):List (List PV):=l.map eC.cells
theorem qZ {rows:List (List PV)} (h:∀ r∈rows,∀ c∈r,c.oid=none):Flat rows:=Flat.of fun r hr c hc q s rs=>uQ (h r hr c hc) q s rs
theorem aPI (l:List bQ):Flat (dK l):=qZ fun r hr c hc=>by
 obtain⟨x,_,rfl⟩:=bKX.1 hr
 simp only[bQ.cells,bKJ,bLB,or_false] at hc
 rcases hc with rfl | rfl | rfl | rfl | rfl | rfl | rfl<;>rfl
theorem aPK (l:List cB):Flat (eD l):=qZ fun r hr c hc=>by
 obtain⟨x,_,rfl⟩:=bKX.1 hr
 simp only[cB.cells,bKJ,bLB,or_false] at hc
 rcases hc with rfl | rfl | rfl<;>rfl
theorem bpZ (l:List eC):Flat (oS l):=qZ fun r hr c hc=>by
 obtain⟨x,_,rfl⟩:=bKX.1 hr
 simp only[eC.cells,bKJ,bLB,or_false] at hc
 rcases hc with rfl | rfl<;>rfl
theorem aTZ (l:List cZ):Flat (lC l):=qZ fun r hr c hc=>by
 obtain⟨x,_,rfl⟩:=bKX.1 hr
 simp only[cZ.cells,bKJ,bLB,or_false] at hc
 rcases hc with rfl | rfl | rfl | rfl | rfl | rfl | rfl | rfl | rfl | rfl | rfl | rfl | rfl | rfl | rfl | rfl | rfl<;>rfl
def a5R (l:List Nat) (v:PV) (o bHP bHR a:Nat) (r:PV) (H:PH):Prop:=Co r (.agg (acH l bHP bHR a).1.cells)∧H=PH.nil.set o (awN v (acH l bHP bHR a).2)
theorem a5R.exact {C:Ctx} {name:Nat} {args:List PV} {H:PH} {l:List Nat} {v:PV} {o bHP bHR a:Nat} (h:aE C name args H (a5R l v o bHP bHR a)):aE C name args H (fun r H=>r=.agg (acH l bHP bHR a).1.cells∧H=PH.nil.set o (awN v (acH l bHP bHR a).2)) :=
 h.post fun r H' hr=>⟨_,hr.1,rfl,hr.2⟩
theorem bvZ (x:Int) {n:Int} (h:0<n):(if Int.tmod x n<0 then Int.tmod x n+n else Int.tmod x n)=x%n:=by
 rcases Int.le_total 0 x with c | c
 ·have e:=Int.tmod_eq_emod_of_nonneg c (b:=n)
  have h1:=Int.emod_nonneg x (Om:n≠0)
  rw[e,if_neg Om]
 ·have e:Int.tmod x n=-((-x)%n):=by rw[← Int.tmod_eq_emod_of_nonneg (Om:0≤-x),Int.neg_tmod,Int.neg_neg]
  have h1:=Int.emod_nonneg (-x) (Om:n≠0)
  have h2:=Int.neg_emod (a:=-x) (b:=n)
  rw[Int.neg_neg] at h2
  rw[e,h2]
  by_cases d:n ∣ -x
  ·rw[if_pos d,Int.emod_eq_zero_of_dvd d]
   simp
  ·have h3:(-x)%n≠0:=fun h=>d (Int.dvd_of_emod_eq_zero h)
   rw[if_neg d,if_pos Om]
   omega
abbrev bG (l:List Int) (a:Nat):cP:=.rows 2 [[ints l,.int .i64 (a:Nat)]]
def ZY (l:List Int) (o n a:Nat) (r:PV) (H:PH):Prop:=r=.int .i64 (nxM l n a:Nat)∧H=PH.nil.set o (bG l (a+1))
theorem beW {C:Ctx} (l:List Int) (hl:l.length≤9223372036854775807) (h64:∀ x∈l,cU x) (o n a:Nat) (hn:n≤1000000) (ha:a≤1000000):FQ.wp C (aT FP.res (ZY l o n a)) (PF.args [.ptr o 2 0 0,.int .i64 n]) (PH.nil.set o (bG l a)):=by
 have ew:IntKind.i64.wrap ((a:Int)+1)=((a+1:Nat):Int):=dH Om
 have e3:Int.tmod ((a:Nat):Int) 3=((a%3:Nat):Int):=rfl
 have rest:∀ (x:Int) (F:PF),cU x→x=l.getD a ((a%3:Nat):Int)→F 0=some (.ptr o 2 0 0)→F 1=some (.int .i64 n)→F 5=some (.int .i64 x) →
   aC.wp C (.seq (.region WP) (.seq (.seq (.region WQ) (.cond (.tmp 40) (.seq (.region WR) .ret) .skip)) (.seq (.region WS) (.seq (.seq (.region WT) (.cond (.tmp 45) (.seq (.region WU) .ret) .skip)) (.seq (.region LZ) .ret))))) (aT FP.res (ZY l o n a)) F (PH.nil.set o (bG l a)):=by
  intro x F hx he f0 f1 f5
  simp only[go_sem,γ,δ,ε,ζ,η,θ,ι,κ,μ,ν,ξ,ο,ρ,σ,τ,υ,reduceIte,reduceCtorEq,WP,f0,ew,WQ,f1,FP]
  by_cases c:n=0
  ·have c':((n:Nat):Int)<1:=by omega
   simp only[go_sem,γ,δ,ε,ζ,η,θ,ι,κ,μ,ν,ξ,ο,ρ,σ,τ,υ,reduceIte,reduceCtorEq,c',WR]
   refine aX (vs:=[.int .i64 0]) (.inr rfl) _ rfl PH.le_refl ⟨?_,rfl⟩
   unfold nxM
   rw[if_pos c]; rfl
  ·have c':¬ ((n:Nat):Int)<1:=by omega
   have hn0:¬ ((n:Nat):Int)=0:=by omega
   have hm:=bvZ x (Om:(0:Int)<n)
   have h1:=Int.emod_nonneg x (Om:(n:Int)≠0)
   have h2:=Int.emod_lt_of_pos x (Om:(0:Int)<n)
   have hT:nxM l n a=(x%(n:Int)).toNat:=by unfold nxM; rw[if_neg c,he]
   simp only[go_sem,γ,δ,ε,ζ,η,θ,ι,κ,μ,ν,ξ,ο,ρ,σ,τ,υ,reduceIte,reduceCtorEq,c',WS,f5,f1,hn0,WT]
   by_cases d:Int.tmod x n<0
   ·rw[if_pos d] at hm
    have e4:IntKind.i64.wrap (Int.tmod x n+n)=((nxM l n a:Nat):Int):=by rw[hm,wrap_i64 Om Om,hT]; omega
    simp only[go_sem,γ,δ,ε,ζ,η,θ,ι,κ,μ,ν,ξ,ο,ρ,σ,τ,υ,reduceIte,reduceCtorEq,d,WU,f1,e4]
    exact aX (vs:=[.int .i64 (nxM l n a:Nat)]) (.inr rfl) _ rfl PH.le_refl ⟨rfl,rfl⟩
   ·rw[if_neg d] at hm
    have e4:Int.tmod x n=((nxM l n a:Nat):Int):=by rw[hm,hT]; omega
    have d':¬ ((nxM l n a:Nat):Int)<0:=by omega
    simp only[go_sem,γ,δ,ε,ζ,η,θ,ι,κ,μ,ν,ξ,ο,ρ,σ,τ,υ,reduceIte,reduceCtorEq,e4,d',LZ]
    exact aX (vs:=[.int .i64 (nxM l n a:Nat)]) (.inr rfl) _ rfl PH.le_refl ⟨rfl,rfl⟩
 simp only[aC.wp,go_sem] at rest
 simp only[go_sem,γ,δ,ε,ζ,η,θ,ι,κ,μ,ν,ξ,ο,ρ,σ,τ,υ,reduceIte,reduceCtorEq,FQ,ayV,ayW,FP,e3]
 refine bR .nil eG PH.nil_le ?_
 simp only[go_sem,γ,δ,ε,ζ,η,θ,ι,κ,μ,ν,ξ,ο,ρ,σ,τ,υ,reduceIte,reduceCtorEq,ayX,bJT]
 by_cases c:a<l.length
 ·have c':(a:Int)<(l.length:Nat):=by omega
  have hat:(l.map fun n=>[PV.int .i64 n])[a]?=some [.int .i64 l[a]]:=by simp[c]
  simp only[go_sem,γ,δ,ε,ζ,η,θ,ι,κ,μ,ν,ξ,ο,ρ,σ,τ,υ,reduceIte,reduceCtorEq,c']
  refine bR .nil eG PH.nil_le ?_
  simp only[go_sem,γ,δ,ε,ζ,η,θ,ι,κ,μ,ν,ξ,ο,ρ,σ,τ,υ,reduceIte,reduceCtorEq,ayY,hat]
  refine rest l[a] _ (h64 _ (bJX c)) (by simp[bKO,c]) ?_ ?_ ?_
  all_goals exact rfl
 ·have c':¬ (a:Int)<(l.length:Nat):=by omega
  simp only[go_sem,γ,δ,ε,ζ,η,θ,ι,κ,μ,ν,ξ,ο,ρ,σ,τ,υ,reduceIte,reduceCtorEq,c']
  refine rest ((a%3:Nat):Int) _ (by unfold cU; omega) (by simp[bKO,bLG (Om:l.length≤a)]) ?_ ?_ ?_
  all_goals exact rfl
def TpM (l:List Int):Prop:=l.length≤9223372036854775807∧∀ x∈l,cU x
structure EF (C:Ctx):Prop where
 fmk:∀ n d:Int,cU n→cU d→aE C 50 [.int .i64 n,.int .i64 d] .nil (aD (DY n d))
 next:∀ l:List Int,TpM l→∀ o n a:Nat,n≤1000000→a≤1000000→aE C 240 [.ptr o 2 0 0,.int .i64 n] (PH.nil.set o (bG l a)) (ZY l o n a)
theorem cD {C:Ctx} {F:PF} {H:PH} {l:List Int} {o a:Nat} (Lb:EF C) (T:TpM l) {n:Nat} {args:List aP} {d:Option Nat} {K:PF→PH→Prop} (hn:n≤1000000) (ha:a≤1000000) (bJI:aP.evs F args=some [.ptr o 2 0 0,.int .i64 n]) (ho:H o=some (bG l a))
  (hk:K (F.put d (.int .i64 (nxM l n a:Nat))) (H.set o (bG l (a+1)))):fP C 240 args [] d K F H :=
 CH (Lb.next l T o n a hn ha) ho bJI hk
theorem beN {C:Ctx} (Lb:EF C) (n d:Int) (h1:cU n) (h2:cU d) (hd:d≠0):FK.wp C (aT abM.res (aD (.agg (mkT n d).cells))) (PF.args [.int .i64 n,.int .i64 d]) .nil:=by
 simp only[go_sem,γ,δ,ε,ζ,η,θ,ι,κ,μ,ν,ξ,ο,ρ,σ,τ,υ,reduceIte,reduceCtorEq,FK,ayI,abM]
 refine aR fun p hp=>?_
 simp only[go_sem,γ,δ,ε,ζ,η,θ,ι,κ,μ,ν,ξ,ο,ρ,σ,τ,υ,reduceIte,reduceCtorEq,ayJ]
 refine aA (Lb.fmk n d h1 h2) rfl ?_
 unfold DY
 rw[if_neg hd]
 simp only[go_sem,γ,δ,ε,ζ,η,θ,ι,κ,μ,ν,ξ,ο,ρ,σ,τ,υ,reduceIte,reduceCtorEq]
 refine aR fun q hq=>?_
 have n3:¬ q=p:=(cW.1 hq).1
 have n3':¬ p=q:=fun h=>n3 h.symm
 simp only[go_sem,γ,δ,ε,ζ,η,θ,ι,κ,μ,ν,ξ,ο,ρ,σ,τ,υ,reduceIte,reduceCtorEq,ayK,n3,n3']
 refine aM (vs:=[.agg (mkT n d).cells]) (.inr rfl) ?_ rfl
 simp only[go_sem,γ,δ,ε,ζ,η,θ,ι,κ,μ,ν,ξ,ο,ρ,σ,τ,υ,reduceIte,reduceCtorEq]
theorem beU {C:Ctx} (c:UInt8) (n:Nat) (hn:n<100):FO.wp C (aT abY.res (aD (.str (dM c n)))) (PF.args [.int .u8 c.toNat,.int .i64 n]) .nil:=by
 have e1:Int.tdiv ((n:Nat):Int) 26=((n/26:Nat):Int):=rfl
 have e2:Int.tmod ((n/26:Nat):Int) 26=((n/26%26:Nat):Int):=rfl
 have e3:Int.tmod ((n:Nat):Int) 26=((n%26:Nat):Int):=rfl
 have w1:IntKind.i64.wrap (97+((n/26%26:Nat):Int))=((97+n/26%26:Nat):Int):=by rw[wrap_i64 Om Om]; omega
 have w2:IntKind.i64.wrap (97+((n%26:Nat):Int))=((97+n%26:Nat):Int):=by rw[wrap_i64 Om Om]; omega
 have w3:IntKind.u8.wrap ((97+n/26%26:Nat):Int)=((97+n/26%26:Nat):Int):=wrap_u8 Om Om
 have w4:IntKind.u8.wrap ((97+n%26:Nat):Int)=((97+n%26:Nat):Int):=wrap_u8 Om Om
 have w0:IntKind.i64.wrap ((n/26:Nat):Int)=((n/26:Nat):Int):=sH Om
 have hbr:pB [[PV.int .u8 ((c.toNat:Nat):Int)],[PV.int .u8 ((97+n/26%26:Nat):Int)],[PV.int .u8 ((97+n%26:Nat):Int)]]=some (dM c n):=by
  show some [UInt8.ofNat c.toNat,_,_]=_
  rw[UInt8.ofNat_toNat]
  rfl
 have h13:(1:Nat)*3≤16777216:=by decide
 simp only[go_sem,γ,δ,ε,ζ,η,θ,ι,κ,μ,ν,ξ,ο,ρ,σ,τ,υ,reduceIte,reduceCtorEq,FO,ayT,ayU,abY,e1,w0,e2,e3,w1,w2,w3,w4,h13,hbr]
 refine aM (.inr rfl) rfl ?_
 rfl
structure oJ (C:Ctx):Prop extends EF C where
 frac:∀ n d:Int,cU n→cU d→d≠0→aE C 241 [.int .i64 n,.int .i64 d] .nil (aD (.agg (mkT n d).cells))
 name:∀ (c:UInt8) (n:Nat),n<100→aE C 242 [.int .u8 c.toNat,.int .i64 n] .nil (aD (.str (dM c n)))
def mdS (l:List Int):Spec:=fun name vs=>match name,vs with
 | 242,[.int _ c,.int _ i]=>some ([],fun _=>aD (.str (dM (UInt8.ofNat c.toNat) i.toNat)))
 | 241,[.int _ n,.int _ d]=>some ([],fun _=>aD (.agg (mkT n d).cells))
 | 240,[.ptr o _ _ _,.int _ n]=>some ([o],fun H0 r H'=>∀ a,H0 o=some (bG l a)→ZY l o n.toNat a r H')
 | _,_=>none
section
variable {C:Ctx} {F:PF} {H Hs:PH} {l:List Int} {o a:Nat}
theorem a6G (Lb:EF C) (T:TpM l) {n:Nat} {st:Bool} {args:List aP} {d:Option Nat} {K:PF→PH→Prop} (hn:n≤1000000) (ha:a≤1000000) (bJI:aP.evs F args=some [.ptr o 2 0 0,.int .i64 n]) (ho:H o=some (bG l a))
  (hle:Hs.le (H.set o (bG l (a+1)))) (hk:K (F.put d (.int .i64 (nxM l n a:Nat))) (H.set o (bG l (a+1)))):dOp C Hs (mdS l) st (.call 240 args) d K F H:=by
 refine ayF (x:=bG l a) (y:=bG l (a+1)) (r:=.int .i64 (nxM l n a:Nat)) (R:=fun H0 r H'=>∀ a,H0 o=some (bG l a)→ZY l o n a r H') rfl ho (Lb.next l T o n a hn ha) ?_ ?_ bJI hle hk
 ·intro b hb
  rw[fN] at hb
  injection hb with hb
  injection hb with _ hb
  injection hb with hb _
  injection hb with _ hb
  injection hb with hb _
  injection hb with _ hb
  have:a=b:=by omega
  subst this
  exact⟨rfl,rfl⟩
 ·intro r' H' hr
  exact hr a (by rw[fN])
theorem LP (Lb:oJ C) {c:UInt8} {n:Nat} {st:Bool} {args:List aP} {d:Option Nat} {K:PF→PH→Prop} (hn:n<100) (bJI:aP.evs F args=some [.int .u8 c.toNat,.int .i64 n]) (hle:Hs.le H) (hk:K (F.put d (.str (dM c n))) H):dOp C Hs (mdS l) st (.call 242 args) d K F H :=
 bJ (v:=.str (dM c n)) (by show some _=_; rw[bMX,UInt8.ofNat_toNat]; rfl) (Lb.name c n hn) bJI hle hk
theorem anW (Lb:oJ C) {n m:Int} {st:Bool} {args:List aP} {d:Option Nat} {K:PF→PH→Prop} (hn:cU n) (hm:cU m) (h0:m≠0) (bJI:aP.evs F args=some [.int .i64 n,.int .i64 m]) (hle:Hs.le H) (hk:K (F.put d (.agg (mkT n m).cells)) H):dOp C Hs (mdS l) st (.call 241 args) d K F H :=
 bJ (v:=.agg (mkT n m).cells) rfl (Lb.frac n m hn hm h0) bJI hle hk
end
def bqR (o7:Nat) (ext w1 w2 w4 w5 w6:PV) (ds:List bQ) (lev par up:Nat) (r:PV) (B':List BX) (L':List LI):Prop:=r=.int .i64 (ds.length:Nat)∧∃ w',B'=[(o7,flB ext w1 w2 w' w4 w5 w6)]∧L'=[(w',7,dK (dJ ds lev par up))]
theorem blF {C:Ctx} (Lb:oJ C) (o7:Nat) (ext w1 w2 wd w4 w5 w6:PV) (ds:List bQ) (hds:ds.length≤90) (lev par up:Nat) (H0:PH) (hH:aQ H0 [(o7,flB ext w1 w2 wd w4 w5 w6)] [(wd,7,dK ds)]) :
  LS.wp C (aT ayG.res (fun r H'=>∃ B' L',bqR o7 ext w1 w2 w4 w5 w6 ds lev par up r B' L'∧aQ H' B' L')) (PF.args [.ptr o7 7 0 0,.int .i64 lev,.int .i64 par,.int .i64 up]) H0:=by
 have b:=hH.at 0 rfl
 have lw:=(hH.own 0 rfl).uA
 rw[bJT] at lw
 simp only[go_sem,γ,δ,ε,ζ,η,θ,ι,κ,μ,ν,ξ,ο,ρ,σ,τ,υ,reduceIte,reduceCtorEq,LS,aPB,aPC,ayG,b,lw]
 refine bR (PH.nil.set o7 (flB ext w1 w2 wd w4 w5 w6)) (mdS []) (PH.aI PH.nil_le b) ?_
 simp only[go_sem,γ,δ,ε,ζ,η,θ,ι,κ,μ,ν,ξ,ο,ρ,σ,τ,υ,reduceIte,reduceCtorEq,aPD]
 refine LP Lb (c:=110) (n:=ds.length) Om rfl (PH.aI PH.nil_le b) ?_
 simp only[go_sem,γ,δ,ε,ζ,η,θ,ι,κ,μ,ν,ξ,ο,ρ,σ,τ,υ,reduceIte,reduceCtorEq]
 refine anW Lb (n:=0) (m:=1) (by unfold cU; omega) (by unfold cU; omega) (by decide) rfl (PH.aI PH.nil_le b) ?_
 have h17:(1:Nat)*7≤16777216:=by decide
 simp only[go_sem,γ,δ,ε,ζ,η,θ,ι,κ,μ,ν,ξ,ο,ρ,σ,τ,υ,reduceIte,reduceCtorEq,h17]
 refine hH.append 0 (src:=[(⟨dM 110 ds.length,(lev:Nat),(par:Nat),(up:Nat),oF⟩:bQ).cells]) rfl rfl (by unfold roomFor; rw[bJT]; simp only[bKH,maxLen]; omega) fun w' H2 h5 hw=>?_
 obtain⟨q,rfl⟩:=hw (by simp)
 have b2:=h5.at 0 rfl
 refine⟨PH.aI PH.nil_le b2,?_⟩
 refine bR .nil eG PH.nil_le ?_
 simp only[go_sem,γ,δ,ε,ζ,η,θ,ι,κ,μ,ν,ξ,ο,ρ,σ,τ,υ,reduceIte,reduceCtorEq,aPE,b2,bKJ,bLB,or_false,forall_eq]
 have h6:=h5.set 0 rfl (flB ext w1 w2 (.osl q 7 0 (dK ds++[(⟨dM 110 ds.length,(lev:Nat),(par:Nat),(up:Nat),oF⟩:bQ).cells]).length) w4 w5 w6)
 refine⟨PH.nil_le,?_⟩
 simp only[go_sem,γ,δ,ε,ζ,η,θ,ι,κ,μ,ν,ξ,ο,ρ,σ,τ,υ,reduceIte,reduceCtorEq,aPF]
 have e:dK (dJ ds lev par up)=dK ds++[(⟨dM 110 ds.length,(lev:Nat),(par:Nat),(up:Nat),oF⟩:bQ).cells]:=by simp[dK,dJ]
 refine aX (vs:=[.int .i64 (ds.length:Nat)]) (.inr rfl) _ rfl PH.le_refl ⟨_,_,⟨rfl,.osl q 7 0 (dK ds++[(⟨dM 110 ds.length,(lev:Nat),(par:Nat),(up:Nat),oF⟩:bQ).cells]).length,rfl,rfl⟩,?_⟩
 rw[e]
 exact h6
structure CP (C:Ctx):Prop extends oJ C where
 dom:∀ (o7:Nat) (ext w1 w2 wd w4 w5 w6:PV) (ds:List bQ),ds.length≤90→∀ (lev par up:Nat) (H0:PH),aQ H0 [(o7,flB ext w1 w2 wd w4 w5 w6)] [(wd,7,dK ds)] →
  aE C 243 [.ptr o7 7 0 0,.int .i64 lev,.int .i64 par,.int .i64 up] H0 (fun r H'=>∃ B' L',bqR o7 ext w1 w2 w4 w5 w6 ds lev par up r B' L'∧aQ H' B' L')
theorem rF {C:Ctx} {F:PF} {H:PH} (Lb:CP C) {o7:Nat} {ext w1 w2 wd w4 w5 w6:PV} {ds:List bQ} {B2:List BX} {L2:List LI} {lev par up:Nat} {args:List aP} {d:Option Nat} {K:PF→PH→Prop}
  (h:aQ H ((o7,flB ext w1 w2 wd w4 w5 w6)::B2) ((wd,7,dK ds)::L2)) (hds:ds.length≤90) (bJI:aP.evs F args=some [.ptr o7 7 0 0,.int .i64 lev,.int .i64 par,.int .i64 up])
  (hk:∀ wd' H',aQ H' ((o7,flB ext w1 w2 wd' w4 w5 w6)::B2) ((wd',7,dK (dJ ds lev par up))::L2)→K (F.put d (.int .i64 (ds.length:Nat))) H'):fP C 243 args [] d K F H:=by
 refine CF (B1:=[(o7,flB ext w1 w2 wd w4 w5 w6)]) (L1:=[(wd,7,dK ds)]) h (fun H0 hH0=>Lb.dom o7 ext w1 w2 wd w4 w5 w6 ds hds lev par up H0 hH0) bJI ?_
 rintro r B' L' H' ⟨rfl,wd',rfl,rfl⟩ h'
 exact hk wd' H' h'
structure ME where
 o:Nat
 o4:Nat
 o5:Nat
 vols:Nat
abbrev ME.boxes (E:ME) (l:List Int) (ext w1 w2 wd wr wp wv:PV) (a:Nat):List BX:=[(E.o5,flB ext w1 w2 wd wr wp wv),(E.o,bG l a),(E.o4,flZ)]
def tV (E:ME):PF:=((((PF.nil.set 0 (.ptr E.o 2 0 0)).set 1 (.int .i64 E.vols)).set 4 (.ptr E.o4 7 0 0)).set 5 (.ptr E.o5 7 0 0))
def eS (E:ME) (n room rack i:Nat):PF:=((((((((PF.nil.set 0 (.ptr E.o 2 0 0)).set 1 (.int .i64 E.vols)).set 4 (.ptr E.o4 7 0 0)).set 5 (.ptr E.o5 7 0 0)).set 6 (.int .i64 n)).set 8 (.int .i64 room)).set 9 (.int .i64 rack)).set 10 (.int .i64 i))
def jM (E:ME) (n room rack i m k:Nat):PF:=((((((((((PF.nil.set 0 (.ptr E.o 2 0 0)).set 1 (.int .i64 E.vols)).set 4 (.ptr E.o4 7 0 0)).set 5 (.ptr E.o5 7 0 0)).set 6 (.int .i64 n)).set 8 (.int .i64 room)).set 9 (.int .i64 rack)).set 10 (.int .i64 i)).set 11 (.int .i64 m)).set 12 (.int .i64 k))
theorem blH {C:Ctx} (Lb:oJ C) {l:List Int} (T:TpM l) (E:ME) (n room rack i m:Nat) (ext w1 w2 wd:PV) (ds:List bQ) (k0:Nat) (s0:List cB × Nat) (wr0:PV) (h0:s0.1.length≤9) (ha:s0.2+k0≤100000) (K:cN) (F:PF) (H:PH)
  (hF:(jM E n room rack i m k0).le F) (hH:aQ H (E.boxes l ext w1 w2 wd wr0 .aB .aB s0.2) [(wd,7,dK ds),(wr0,3,eD s0.1)])
  (hK:∀ wr F' H',(eS E n room rack i).le F'→aQ H' (E.boxes l ext w1 w2 wd wr .aB .aB (iY l m k0 s0).2) [(wd,7,dK ds),(wr,3,eD (iY l m k0 s0).1)]→K (.exit 2) F' H') :
  aC.wp C (.loop qM) K F H:=by
 refine wp_loop (α:=Nat × (List cB × Nat) × PV × PH) (fun t=>jM E n room rack i m t.1) (fun t=>t.2.2.2)
  (fun t=>iY l m t.1 t.2.1=iY l m k0 s0∧t.2.1.1.length≤9∧t.2.1.2+t.1≤100000∧aQ t.2.2.2 (E.boxes l ext w1 w2 wd t.2.2.1 .aB .aB t.2.1.2) [(wd,7,dK ds),(t.2.2.1,3,eD t.2.1.1)]) (fun t=>t.1) (k0,s0,wr0,H) ⟨rfl,h0,ha,hH⟩ hF PH.le_refl ?_
 rintro⟨k,s,wr,H0⟩ ⟨hE,hl,hb,hH⟩
 simp only at hE hl hb hH ⊢
 have b5:=hH.at 0 rfl
 have lw:=(hH.own 1 rfl).uA
 rw[bJT] at lw
 simp only[go_sem,γ,δ,ε,ζ,η,θ,ι,κ,μ,ν,ξ,ο,ρ,σ,τ,υ,reduceIte,reduceCtorEq,qM,aaT,jM]
 have out:∀ F',(jM E n room rack i m k).le F'→iY l m k s=s→K (.exit 2) F' H0:=fun F' hF' e=>by
  refine hK wr F' H0 ?_ (by rw[← hE,e]; exact hH)
  have h1:(eS E n room rack i).le (jM E n room rack i m k):=by
   unfold eS jM
   exact Lq
  exact fun j u hj=>hF' j u (h1 j u hj)
 cases k with
 | zero =>
  have hc:¬ (((0:Nat):Int)>0):=by omega
  simp only[go_sem,γ,δ,ε,ζ,η,θ,ι,κ,μ,ν,ξ,ο,ρ,σ,τ,υ,reduceIte,reduceCtorEq,hc]
  refine out _ ?_ rfl
  unfold jM
  exact Lq
 | succ k =>
  have hc:(((k+1:Nat):Int)>0):=by omega
  by_cases c:s.1.length<9
  ·have c':((s.1.length:Nat):Int)<9:=by omega
   have e1:IntKind.i64.wrap (((k+1:Nat):Int)-1)=((k:Nat):Int):=by rw[wrap_i64 Om Om]; omega
   simp only[go_sem,γ,δ,ε,ζ,η,θ,ι,κ,μ,ν,ξ,ο,ρ,σ,τ,υ,reduceIte,reduceCtorEq,hc,b5,lw,c',aaU,aaV]
   refine cD Lb.toEF T (o:=E.o) (n:=4) (a:=s.2) (by decide) Om rfl (hH.at 1 rfl) ?_
   have h1:=hH.set 1 rfl (bG l (s.2+1))
   have b1:=h1.at 0 rfl
   have go:∀ (x:Nat) (F':PF),x=(if nxM l 4 s.2=0 then 1 else 0)→(jM E n room rack i m (k+1)).le F'→F' 13=some (.int .i64 x) →
     aC.wp C (.seq (.seq (.draw EY) (.draw EZ)) (.region FA)) (eE (fun t:Nat × (List cB × Nat) × PV × PH=>jM E n room rack i m t.1) (fun t=>t.2.2.2)
      (fun t=>iY l m t.1 t.2.1=iY l m k0 s0∧t.2.1.1.length≤9∧t.2.1.2+t.1≤100000∧aQ t.2.2.2 (E.boxes l ext w1 w2 wd t.2.2.1 .aB .aB t.2.1.2) [(wd,7,dK ds),(t.2.2.1,3,eD t.2.1.1)]) (fun t=>t.1) (k+1) K) F' (H0.set E.o (bG l (s.2+1))):=by
    intro x F' hx hF' f13
    have f0:F' 0=some (.ptr E.o 2 0 0):=hF' 0 _ (by unfold jM; simp only[go_sem,γ,δ,ε,ζ,η,θ,ι,κ,μ,ν,ξ,ο,ρ,σ,τ,υ,reduceIte,reduceCtorEq])
    have f1:F' 1=some (.int .i64 E.vols):=hF' 1 _ (by unfold jM; simp only[go_sem,γ,δ,ε,ζ,η,θ,ι,κ,μ,ν,ξ,ο,ρ,σ,τ,υ,reduceIte,reduceCtorEq])
    have f4:F' 4=some (.ptr E.o4 7 0 0):=hF' 4 _ (by unfold jM; simp only[go_sem,γ,δ,ε,ζ,η,θ,ι,κ,μ,ν,ξ,ο,ρ,σ,τ,υ,reduceIte,reduceCtorEq])
    have f5:F' 5=some (.ptr E.o5 7 0 0):=hF' 5 _ (by unfold jM; simp only[go_sem,γ,δ,ε,ζ,η,θ,ι,κ,μ,ν,ξ,ο,ρ,σ,τ,υ,reduceIte,reduceCtorEq])
    have f6:F' 6=some (.int .i64 n):=hF' 6 _ (by unfold jM; simp only[go_sem,γ,δ,ε,ζ,η,θ,ι,κ,μ,ν,ξ,ο,ρ,σ,τ,υ,reduceIte,reduceCtorEq])
    have f8:F' 8=some (.int .i64 room):=hF' 8 _ (by unfold jM; simp only[go_sem,γ,δ,ε,ζ,η,θ,ι,κ,μ,ν,ξ,ο,ρ,σ,τ,υ,reduceIte,reduceCtorEq])
    have f9:F' 9=some (.int .i64 rack):=hF' 9 _ (by unfold jM; simp only[go_sem,γ,δ,ε,ζ,η,θ,ι,κ,μ,ν,ξ,ο,ρ,σ,τ,υ,reduceIte,reduceCtorEq])
    have f10:F' 10=some (.int .i64 i):=hF' 10 _ (by unfold jM; simp only[go_sem,γ,δ,ε,ζ,η,θ,ι,κ,μ,ν,ξ,ο,ρ,σ,τ,υ,reduceIte,reduceCtorEq])
    have f11:F' 11=some (.int .i64 m):=hF' 11 _ (by unfold jM; simp only[go_sem,γ,δ,ε,ζ,η,θ,ι,κ,μ,ν,ξ,ο,ρ,σ,τ,υ,reduceIte,reduceCtorEq])
    have f12:F' 12=some (.int .i64 (k+1:Nat)):=hF' 12 _ (by unfold jM; simp only[go_sem,γ,δ,ε,ζ,η,θ,ι,κ,μ,ν,ξ,ο,ρ,σ,τ,υ,reduceIte,reduceCtorEq])
    simp only[go_sem,γ,δ,ε,ζ,η,θ,ι,κ,μ,ν,ξ,ο,ρ,σ,τ,υ,reduceIte,reduceCtorEq]
    refine bR (PH.nil.set E.o5 (flB ext w1 w2 wd wr .aB .aB)) (mdS l) (PH.aI PH.nil_le b1) ?_
    have h13:(1:Nat)*3≤16777216:=by decide
    simp only[go_sem,γ,δ,ε,ζ,η,θ,ι,κ,μ,ν,ξ,ο,ρ,σ,τ,υ,reduceIte,reduceCtorEq,EY,f5,b1,lw]
    refine LP Lb (c:=100) (n:=s.1.length) Om rfl (PH.aI PH.nil_le b1) ?_
    simp only[go_sem,γ,δ,ε,ζ,η,θ,ι,κ,μ,ν,ξ,ο,ρ,σ,τ,υ,reduceIte,reduceCtorEq,f13,f11,h13]
    refine h1.append 1 (src:=[(⟨dM 100 s.1.length,(x:Nat),(m:Nat)⟩:cB).cells]) rfl rfl (by unfold roomFor; rw[bJT]; simp only[bKH,maxLen]; omega) fun w' H2 h5 hw=>?_
    obtain⟨q,rfl⟩:=hw (by simp)
    have b2:=h5.at 0 rfl
    simp only[go_sem,γ,δ,ε,ζ,η,θ,ι,κ,μ,ν,ξ,ο,ρ,σ,τ,υ,reduceIte,reduceCtorEq,f5]
    refine⟨PH.aI PH.nil_le b2,?_⟩
    refine bR .nil eG PH.nil_le ?_
    simp only[go_sem,γ,δ,ε,ζ,η,θ,ι,κ,μ,ν,ξ,ο,ρ,σ,τ,υ,reduceIte,reduceCtorEq,EZ,f5,b2,bKJ,bLB,or_false,forall_eq]
    have h6:=h5.set 0 rfl (flB ext w1 w2 wd (.osl q 3 0 (eD s.1++[(⟨dM 100 s.1.length,(x:Nat),(m:Nat)⟩:cB).cells]).length) .aB .aB)
    refine⟨PH.nil_le,?_⟩
    simp only[go_sem,γ,δ,ε,ζ,η,θ,ι,κ,μ,ν,ξ,ο,ρ,σ,τ,υ,reduceIte,reduceCtorEq,FA,f12,e1]
    refine aH (k,(s.1++[⟨dM 100 s.1.length,(x:Nat),(m:Nat)⟩],s.2+1),.osl q 3 0 (eD s.1++[(⟨dM 100 s.1.length,(x:Nat),(m:Nat)⟩:cB).cells]).length,_) ⟨?_,by simp only[bKA,bKH]; omega,by simp only; omega,?_⟩ (by simp only; omega) ?_ PH.le_refl
    ·simp only
     rw[← hE,iY,if_pos c,hx]
    ·have e:eD (s.1++[⟨dM 100 s.1.length,(x:Nat),(m:Nat)⟩])=eD s.1++[(⟨dM 100 s.1.length,(x:Nat),(m:Nat)⟩:cB).cells]:=by simp[eD]
     simp only
     rw[e]
     exact h6
    ·unfold jM
     exact Lq
   simp only[aC.wp,go_sem] at go
   by_cases d:nxM l 4 s.2=0
   ·simp only[go_sem,γ,δ,ε,ζ,η,θ,ι,κ,μ,ν,ξ,ο,ρ,σ,τ,υ,reduceIte,reduceCtorEq,bO (Om:((nxM l 4 s.2:Nat):Int)=0),aaW]
    refine go 1 _ (by rw[if_pos d]) ?_ rfl
    unfold jM
    exact Lq
   ·simp only[go_sem,γ,δ,ε,ζ,η,θ,ι,κ,μ,ν,ξ,ο,ρ,σ,τ,υ,reduceIte,reduceCtorEq,bB (Om:((nxM l 4 s.2:Nat):Int)≠0)]
    refine go 0 _ (by rw[if_neg d]) ?_ rfl
    unfold jM
    exact Lq
  ·have c':¬ ((s.1.length:Nat):Int)<9:=by omega
   simp only[go_sem,γ,δ,ε,ζ,η,θ,ι,κ,μ,ν,ξ,ο,ρ,σ,τ,υ,reduceIte,reduceCtorEq,hc,b5,lw,c']
   refine out _ ?_ (by rw[iY,if_neg c])
   unfold jM
   exact Lq
theorem gR {a b:Nat} (h:a+b≤1000000):IntKind.i64.wrap ((a:Int)+(b:Int))=((a+b:Nat):Int):=sH Om
theorem aPG {C:Ctx} (Lb:CP C) {l:List Int} (T:TpM l) (E:ME) (n room rack i a:Nat) (ha:a≤100000) (ext w1 w2 wd wr:PV) (ds:List bQ) (hds:ds.length≤60) (L2:List LI) (K:cN) (F:PF) (H:PH)
  (hF:(eS E n room rack i).le F) (hH:aQ H (E.boxes l ext w1 w2 wd wr .aB .aB a) ((wd,7,dK ds)::L2))
  (hK:∀ wd' F' H',(eS E n (dJ ds 1 0 (16+nxM l 17 a)).length (dJ (dJ ds 1 0 (16+nxM l 17 a)) 2 ds.length (16+nxM l 17 (a+1))).length i).le F' →
   aQ H' (E.boxes l ext w1 w2 wd' wr .aB .aB (a+3)) ((wd',7,dK (dJ (dJ (dJ ds 1 0 (16+nxM l 17 a)) 2 ds.length (16+nxM l 17 (a+1))) 3 (dJ ds 1 0 (16+nxM l 17 a)).length (8+nxM l 9 (a+2))))::L2)→K .normal F' H') :
  aC.wp C (.seq (.region EV) (.seq (.region EW) (.region EX))) K F H:=by
 have f0:F 0=some (.ptr E.o 2 0 0):=hF 0 _ (by unfold eS; simp only[go_sem,γ,δ,ε,ζ,η,θ,ι,κ,μ,ν,ξ,ο,ρ,σ,τ,υ,reduceIte,reduceCtorEq])
 have f1:F 1=some (.int .i64 E.vols):=hF 1 _ (by unfold eS; simp only[go_sem,γ,δ,ε,ζ,η,θ,ι,κ,μ,ν,ξ,ο,ρ,σ,τ,υ,reduceIte,reduceCtorEq])
 have f4:F 4=some (.ptr E.o4 7 0 0):=hF 4 _ (by unfold eS; simp only[go_sem,γ,δ,ε,ζ,η,θ,ι,κ,μ,ν,ξ,ο,ρ,σ,τ,υ,reduceIte,reduceCtorEq])
 have f5:F 5=some (.ptr E.o5 7 0 0):=hF 5 _ (by unfold eS; simp only[go_sem,γ,δ,ε,ζ,η,θ,ι,κ,μ,ν,ξ,ο,ρ,σ,τ,υ,reduceIte,reduceCtorEq])
 have f6:F 6=some (.int .i64 n):=hF 6 _ (by unfold eS; simp only[go_sem,γ,δ,ε,ζ,η,θ,ι,κ,μ,ν,ξ,ο,ρ,σ,τ,υ,reduceIte,reduceCtorEq])
 have f10:F 10=some (.int .i64 i):=hF 10 _ (by unfold eS; simp only[go_sem,γ,δ,ε,ζ,η,θ,ι,κ,μ,ν,ξ,ο,ρ,σ,τ,υ,reduceIte,reduceCtorEq])
 have n1:=cK l (show 0<17 by decide) a
 have n2:=cK l (show 0<17 by decide) (a+1)
 have n3:=cK l (show 0<9 by decide) (a+2)
 have e1:IntKind.i64.wrap (16+((nxM l 17 a:Nat):Int))=((16+nxM l 17 a:Nat):Int):=gR (a:=16) Om
 have e2:IntKind.i64.wrap (16+((nxM l 17 (a+1):Nat):Int))=((16+nxM l 17 (a+1):Nat):Int):=gR (a:=16) Om
 have e3:IntKind.i64.wrap (8+((nxM l 9 (a+2):Nat):Int))=((8+nxM l 9 (a+2):Nat):Int):=gR (a:=8) Om
 have c1:=mW ds 1 0 (16+nxM l 17 a)
 have c2:=mW (dJ ds 1 0 (16+nxM l 17 a)) 2 ds.length (16+nxM l 17 (a+1))
 simp only[go_sem,γ,δ,ε,ζ,η,θ,ι,κ,μ,ν,ξ,ο,ρ,σ,τ,υ,reduceIte,reduceCtorEq,EV,f0]
 refine cD Lb.toEF T (o:=E.o) (n:=17) (a:=a) (by decide) Om rfl (hH.at 1 rfl) ?_
 have h1:=hH.set 1 rfl (bG l (a+1))
 simp only[go_sem,γ,δ,ε,ζ,η,θ,ι,κ,μ,ν,ξ,ο,ρ,σ,τ,υ,reduceIte,reduceCtorEq,e1,f5]
 refine rF Lb (lev:=1) (par:=0) (up:=16+nxM l 17 a) h1 Om (by simp only[go_sem,γ,δ,ε,ζ,η,θ,ι,κ,μ,ν,ξ,ο,ρ,σ,τ,υ,reduceIte,reduceCtorEq,f5]; rfl) fun wd1 H1 h2=>?_
 simp only[go_sem,γ,δ,ε,ζ,η,θ,ι,κ,μ,ν,ξ,ο,ρ,σ,τ,υ,reduceIte,reduceCtorEq,EW,f0]
 refine cD Lb.toEF T (o:=E.o) (n:=17) (a:=a+1) (by decide) Om rfl (h2.at 1 rfl) ?_
 have h3:=h2.set 1 rfl (bG l (a+1+1))
 simp only[go_sem,γ,δ,ε,ζ,η,θ,ι,κ,μ,ν,ξ,ο,ρ,σ,τ,υ,reduceIte,reduceCtorEq,e2,f5]
 refine rF Lb (lev:=2) (par:=ds.length) (up:=16+nxM l 17 (a+1)) h3 Om (by simp only[go_sem,γ,δ,ε,ζ,η,θ,ι,κ,μ,ν,ξ,ο,ρ,σ,τ,υ,reduceIte,reduceCtorEq,f5]; rfl) fun wd2 H2 h4=>?_
 simp only[go_sem,γ,δ,ε,ζ,η,θ,ι,κ,μ,ν,ξ,ο,ρ,σ,τ,υ,reduceIte,reduceCtorEq,EX,f0]
 refine cD Lb.toEF T (o:=E.o) (n:=9) (a:=a+2) (by decide) Om rfl (h4.at 1 rfl) ?_
 have h5:=h4.set 1 rfl (bG l (a+2+1))
 simp only[go_sem,γ,δ,ε,ζ,η,θ,ι,κ,μ,ν,ξ,ο,ρ,σ,τ,υ,reduceIte,reduceCtorEq,e3,f5]
 refine rF Lb (lev:=3) (par:=(dJ ds 1 0 (16+nxM l 17 a)).length) (up:=8+nxM l 9 (a+2)) h5 Om (by simp only[go_sem,γ,δ,ε,ζ,η,θ,ι,κ,μ,ν,ξ,ο,ρ,σ,τ,υ,reduceIte,reduceCtorEq,f5]; rfl) fun wd3 H3 h6=>?_
 simp only[go_sem,γ,δ,ε,ζ,η,θ,ι,κ,μ,ν,ξ,ο,ρ,σ,τ,υ,reduceIte,reduceCtorEq]
 refine hK wd3 _ _ ?_ h6
 unfold eS
 exact Lq
theorem beL {C:Ctx} (Lb:CP C) {l:List Int} (T:TpM l) (E:ME) (n i:Nat) (p:MS) (hp:p.a≤50000) (hl:p.bIA.length≤60) (hd:p.bIO.length≤9) (ext w1 w2 wd wr:PV) (K:cN) (F:PF) (H:PH)
  (hF:(eS E n p.room p.rack i).le F) (hH:aQ H (E.boxes l ext w1 w2 wd wr .aB .aB p.a) [(wd,7,dK p.bIA),(wr,3,eD p.bIO)])
  (hK:∀ wd' wr' F' H',(eS E n p.room p.rack i).le F'→aQ H' (E.boxes l ext w1 w2 wd' wr' .aB .aB (iY l p.bIA.length (1+nxM l 2 (p.a+1)) (p.bIO,p.a+2)).2) [(wd',7,dK (dJ p.bIA 4 p.rack (8+nxM l 9 p.a))),(wr',3,eD (iY l p.bIA.length (1+nxM l 2 (p.a+1)) (p.bIO,p.a+2)).1)]→K .normal F' H') :
  aC.wp C (.seq (.region uI) (.seq (.region uJ) (.block 2 (.loop qM)))) K F H:=by
 have f0:F 0=some (.ptr E.o 2 0 0):=hF 0 _ (by unfold eS; simp only[go_sem,γ,δ,ε,ζ,η,θ,ι,κ,μ,ν,ξ,ο,ρ,σ,τ,υ,reduceIte,reduceCtorEq])
 have f1:F 1=some (.int .i64 E.vols):=hF 1 _ (by unfold eS; simp only[go_sem,γ,δ,ε,ζ,η,θ,ι,κ,μ,ν,ξ,ο,ρ,σ,τ,υ,reduceIte,reduceCtorEq])
 have f4:F 4=some (.ptr E.o4 7 0 0):=hF 4 _ (by unfold eS; simp only[go_sem,γ,δ,ε,ζ,η,θ,ι,κ,μ,ν,ξ,ο,ρ,σ,τ,υ,reduceIte,reduceCtorEq])
 have f5:F 5=some (.ptr E.o5 7 0 0):=hF 5 _ (by unfold eS; simp only[go_sem,γ,δ,ε,ζ,η,θ,ι,κ,μ,ν,ξ,ο,ρ,σ,τ,υ,reduceIte,reduceCtorEq])
 have f6:F 6=some (.int .i64 n):=hF 6 _ (by unfold eS; simp only[go_sem,γ,δ,ε,ζ,η,θ,ι,κ,μ,ν,ξ,ο,ρ,σ,τ,υ,reduceIte,reduceCtorEq])
 have f8:F 8=some (.int .i64 p.room):=hF 8 _ (by unfold eS; simp only[go_sem,γ,δ,ε,ζ,η,θ,ι,κ,μ,ν,ξ,ο,ρ,σ,τ,υ,reduceIte,reduceCtorEq])
 have f9:F 9=some (.int .i64 p.rack):=hF 9 _ (by unfold eS; simp only[go_sem,γ,δ,ε,ζ,η,θ,ι,κ,μ,ν,ξ,ο,ρ,σ,τ,υ,reduceIte,reduceCtorEq])
 have f10:F 10=some (.int .i64 i):=hF 10 _ (by unfold eS; simp only[go_sem,γ,δ,ε,ζ,η,θ,ι,κ,μ,ν,ξ,ο,ρ,σ,τ,υ,reduceIte,reduceCtorEq])
 have n1:=cK l (show 0<9 by decide) p.a
 have n2:=cK l (show 0<2 by decide) (p.a+1)
 have e1:IntKind.i64.wrap (8+((nxM l 9 p.a:Nat):Int))=((8+nxM l 9 p.a:Nat):Int):=gR (a:=8) Om
 have e2:IntKind.i64.wrap (1+((nxM l 2 (p.a+1):Nat):Int))=((1+nxM l 2 (p.a+1):Nat):Int):=gR (a:=1) Om
 simp only[go_sem,γ,δ,ε,ζ,η,θ,ι,κ,μ,ν,ξ,ο,ρ,σ,τ,υ,reduceIte,reduceCtorEq,uI,f0,f9]
 refine cD Lb.toEF T (o:=E.o) (n:=9) (a:=p.a) (by decide) Om rfl (hH.at 1 rfl) ?_
 have h1:=hH.set 1 rfl (bG l (p.a+1))
 simp only[go_sem,γ,δ,ε,ζ,η,θ,ι,κ,μ,ν,ξ,ο,ρ,σ,τ,υ,reduceIte,reduceCtorEq,e1,f5,f9]
 refine rF Lb (lev:=4) (par:=p.rack) (up:=8+nxM l 9 p.a) h1 Om (by simp only[go_sem,γ,δ,ε,ζ,η,θ,ι,κ,μ,ν,ξ,ο,ρ,σ,τ,υ,reduceIte,reduceCtorEq,f5,f9]; rfl) fun wd1 H1 h2=>?_
 simp only[go_sem,γ,δ,ε,ζ,η,θ,ι,κ,μ,ν,ξ,ο,ρ,σ,τ,υ,reduceIte,reduceCtorEq,uJ,f0]
 refine cD Lb.toEF T (o:=E.o) (n:=2) (a:=p.a+1) (by decide) Om rfl (h2.at 1 rfl) ?_
 have h3:=h2.set 1 rfl (bG l (p.a+1+1))
 simp only[go_sem,γ,δ,ε,ζ,η,θ,ι,κ,μ,ν,ξ,ο,ρ,σ,τ,υ,reduceIte,reduceCtorEq,e2]
 refine blH Lb.tooJ T E n p.room p.rack i p.bIA.length ext w1 w2 wd1 _ (1+nxM l 2 (p.a+1)) (p.bIO,p.a+2) wr hd (by simp only; omega) _ _ _ ?_ h3 ?_
 ·unfold jM
  exact Lq
 ·intro wr' F' H' hF' h'
  exact hK wd1 wr' F' H' hF' h'
theorem a6H {C:Ctx} (Lb:CP C) {l:List Int} (T:TpM l) (E:ME) (n a0:Nat) (hn:n≤10) (ha:a0≤10000) (ext w1 w2 wd0:PV) (K:cN) (F:PF) (H:PH)
  (hF:(eS E n 0 0 0).le F) (hH:aQ H (E.boxes l ext w1 w2 wd0 .aB .aB .aB a0) [(wd0,7,dK [jC]),(.aB,3,eD [])])
  (hK:∀ wd wr F' H',(tV E).le F'→aQ H' (E.boxes l ext w1 w2 wd wr .aB .aB (eH l ⟨[jC],[],0,0,0,a0⟩ n).a) [(wd,7,dK (eH l ⟨[jC],[],0,0,0,a0⟩ n).bIA),(wr,3,eD (eH l ⟨[jC],[],0,0,0,a0⟩ n).bIO)]→K (.exit 0) F' H') :
  aC.wp C (.loop ER) K F H:=by
 generalize hs0:(⟨[jC],[],0,0,0,a0⟩:MS)=s0 at *
 have hM0:MOk 0 a0 s0:=by rw[← hs0]; exact aeF a0
 refine wp_loop (α:=Nat × PV × PV × PH) (fun t=>eS E n (eH l s0 t.1).room (eH l s0 t.1).rack t.1) (fun t=>t.2.2.2)
  (fun t=>t.1≤n∧aQ t.2.2.2 (E.boxes l ext w1 w2 t.2.1 t.2.2.1 .aB .aB (eH l s0 t.1).a) [(t.2.1,7,dK (eH l s0 t.1).bIA),(t.2.2.1,3,eD (eH l s0 t.1).bIO)]) (fun t=>n-t.1) (0,wd0,.aB,H) ⟨bKF _,by rw[← hs0]; exact hH⟩ (by rw[← hs0]; exact hF) PH.le_refl ?_
 rintro⟨i,wd,wr,H0⟩ ⟨hi,hH⟩
 simp only at hi hH ⊢
 have hM:=oQ l hM0 i Om
 have bHX:eH l s0 (i+1)=yT l i (eH l s0 i):=rfl
 generalize hs:eH l s0 i=s at *
 obtain⟨m1,m2,m3,m4,m5,m6,m7,m8⟩:=hM
 simp only[go_sem,γ,δ,ε,ζ,η,θ,ι,κ,μ,ν,ξ,ο,ρ,σ,τ,υ,reduceIte,reduceCtorEq,ER,aoF,eS]
 by_cases hlt:i<n
 ·have bHW:(i:Int)<(n:Nat):=by omega
  have rest:∀ (p:MS) (wd':PV) (F':PF) (H':PH),eK l i s=p→(eS E n p.room p.rack i).le F'→aQ H' (E.boxes l ext w1 w2 wd' wr .aB .aB p.a) [(wd',7,dK p.bIA),(wr,3,eD p.bIO)] →
    aC.wp C (.seq (.region uI) (.seq (.region uJ) (.block 2 (.loop qM)))) (dW 1 (iD C (aC.wp C (.region FB)) (eE (fun t:Nat × PV × PV × PH=>eS E n (eH l s0 t.1).room (eH l s0 t.1).rack t.1) (fun t=>t.2.2.2)
     (fun t=>t.1≤n∧aQ t.2.2.2 (E.boxes l ext w1 w2 t.2.1 t.2.2.1 .aB .aB (eH l s0 t.1).a) [(t.2.1,7,dK (eH l s0 t.1).bIA),(t.2.2.1,3,eD (eH l s0 t.1).bIO)]) (fun t=>n-t.1) (n-i) K))) F' H':=by
   intro p wd' F' H' hp hF' h'
   obtain⟨p1,p2,p3,p4,p5,p6,p7,p8⟩:=VG l i (k:=i) (a0:=a0) Om (⟨m1,m2,m3,m4,m5,m6,m7,m8⟩:MOk i a0 s)
   rw[hp] at p1 p3 p7 p8
   refine beL Lb T E n i p Om Om p3 ext w1 w2 wd' wr _ _ _ hF' h' ?_
   intro wd2 wr2 F2 H2 hF2 h2
   have f0:F2 0=some (.ptr E.o 2 0 0):=hF2 0 _ (by unfold eS; simp only[go_sem,γ,δ,ε,ζ,η,θ,ι,κ,μ,ν,ξ,ο,ρ,σ,τ,υ,reduceIte,reduceCtorEq])
   have f1:F2 1=some (.int .i64 E.vols):=hF2 1 _ (by unfold eS; simp only[go_sem,γ,δ,ε,ζ,η,θ,ι,κ,μ,ν,ξ,ο,ρ,σ,τ,υ,reduceIte,reduceCtorEq])
   have f4:F2 4=some (.ptr E.o4 7 0 0):=hF2 4 _ (by unfold eS; simp only[go_sem,γ,δ,ε,ζ,η,θ,ι,κ,μ,ν,ξ,ο,ρ,σ,τ,υ,reduceIte,reduceCtorEq])
   have f5:F2 5=some (.ptr E.o5 7 0 0):=hF2 5 _ (by unfold eS; simp only[go_sem,γ,δ,ε,ζ,η,θ,ι,κ,μ,ν,ξ,ο,ρ,σ,τ,υ,reduceIte,reduceCtorEq])
   have f6:F2 6=some (.int .i64 n):=hF2 6 _ (by unfold eS; simp only[go_sem,γ,δ,ε,ζ,η,θ,ι,κ,μ,ν,ξ,ο,ρ,σ,τ,υ,reduceIte,reduceCtorEq])
   have f8:F2 8=some (.int .i64 p.room):=hF2 8 _ (by unfold eS; simp only[go_sem,γ,δ,ε,ζ,η,θ,ι,κ,μ,ν,ξ,ο,ρ,σ,τ,υ,reduceIte,reduceCtorEq])
   have f9:F2 9=some (.int .i64 p.rack):=hF2 9 _ (by unfold eS; simp only[go_sem,γ,δ,ε,ζ,η,θ,ι,κ,μ,ν,ξ,ο,ρ,σ,τ,υ,reduceIte,reduceCtorEq])
   have f10:F2 10=some (.int .i64 i):=hF2 10 _ (by unfold eS; simp only[go_sem,γ,δ,ε,ζ,η,θ,ι,κ,μ,ν,ξ,ο,ρ,σ,τ,υ,reduceIte,reduceCtorEq])
   have hnew:eH l s0 (i+1)={ p with bIA:=dJ p.bIA 4 p.rack (8+nxM l 9 p.a),bIO:=(iY l p.bIA.length (1+nxM l 2 (p.a+1)) (p.bIO,p.a+2)).1,a:=(iY l p.bIA.length (1+nxM l 2 (p.a+1)) (p.bIO,p.a+2)).2 }:=by
    rw[bHX]; unfold yT; rw[hp]
   simp only[go_sem,γ,δ,ε,ζ,η,θ,ι,κ,μ,ν,ξ,ο,ρ,σ,τ,υ,reduceIte,reduceCtorEq,FB,f10,wZz i]
   refine aH (i+1,wd2,wr2,H2) ⟨hlt,?_⟩ (by simp only; omega) ?_ PH.le_refl
   ·simp only
    rw[hnew]
    exact h2
   ·simp only
    rw[hnew]
    unfold eS
    exact Lq
  have hp0:=fun p (h:eK l i s=p)=>h
  simp only[go_sem,γ,δ,ε,ζ,η,θ,ι,κ,μ,ν,ξ,ο,ρ,σ,τ,υ,reduceIte,reduceCtorEq,bHW,aoG]
  by_cases c0:i=0
  ·simp only[go_sem,γ,δ,ε,ζ,η,θ,ι,κ,μ,ν,ξ,ο,ρ,σ,τ,υ,reduceIte,reduceCtorEq,bO (Om:((i:Nat):Int)=0)]
   refine aPG Lb T E n s.room s.rack i s.a Om ext w1 w2 wd wr s.bIA Om [(wr,3,eD s.bIO)] _ _ _ (by unfold eS; exact Lq) hH ?_
   intro wd' F' H' hF' h'
   have hp:eK l i s=⟨dJ (dJ (dJ s.bIA 1 0 (16+nxM l 17 s.a)) 2 s.bIA.length (16+nxM l 17 (s.a+1))) 3 (dJ s.bIA 1 0 (16+nxM l 17 s.a)).length (8+nxM l 9 (s.a+2)),s.bIO,s.bIA.length,(dJ s.bIA 1 0 (16+nxM l 17 s.a)).length,(dJ (dJ s.bIA 1 0 (16+nxM l 17 s.a)) 2 s.bIA.length (16+nxM l 17 (s.a+1))).length,s.a+3⟩:=by
    unfold eK
    simp only
    rw[if_pos c0]
   exact rest _ wd' F' H' hp hF' h'
  simp only[go_sem,γ,δ,ε,ζ,η,θ,ι,κ,μ,ν,ξ,ο,ρ,σ,τ,υ,reduceIte,reduceCtorEq,bB (Om:((i:Nat):Int)≠0)]
  refine cD Lb.toEF T (o:=E.o) (n:=4) (a:=s.a) (by decide) Om rfl (hH.at 1 rfl) ?_
  have h1:=hH.set 1 rfl (bG l (s.a+1))
  by_cases c1:nxM l 4 s.a=0
  ·simp only[go_sem,γ,δ,ε,ζ,η,θ,ι,κ,μ,ν,ξ,ο,ρ,σ,τ,υ,reduceIte,reduceCtorEq,bO (Om:((nxM l 4 s.a:Nat):Int)=0)]
   refine aPG Lb T E n s.room s.rack i (s.a+1) Om ext w1 w2 wd wr s.bIA Om [(wr,3,eD s.bIO)] _ _ _ (by unfold eS; exact Lq) h1 ?_
   intro wd' F' H' hF' h'
   have hp:eK l i s=⟨dJ (dJ (dJ s.bIA 1 0 (16+nxM l 17 (s.a+1))) 2 s.bIA.length (16+nxM l 17 (s.a+1+1))) 3 (dJ s.bIA 1 0 (16+nxM l 17 (s.a+1))).length (8+nxM l 9 (s.a+1+2)),s.bIO,s.bIA.length,(dJ s.bIA 1 0 (16+nxM l 17 (s.a+1))).length,(dJ (dJ s.bIA 1 0 (16+nxM l 17 (s.a+1))) 2 s.bIA.length (16+nxM l 17 (s.a+1+1))).length,s.a+1+3⟩:=by
    unfold eK
    simp only
    rw[if_neg c0,if_pos c1]
   exact rest _ wd' F' H' hp hF' h'
  simp only[go_sem,γ,δ,ε,ζ,η,θ,ι,κ,μ,ν,ξ,ο,ρ,σ,τ,υ,reduceIte,reduceCtorEq,bB (Om:((nxM l 4 s.a:Nat):Int)≠0),aaR]
  refine cD Lb.toEF T (o:=E.o) (n:=2) (a:=s.a+1) (by decide) Om rfl (h1.at 1 rfl) ?_
  have h2:=h1.set 1 rfl (bG l (s.a+1+1))
  rw[PH.set_set] at h2
  by_cases c2:nxM l 2 (s.a+1)=0
  ·have n3:=cK l (show 0<9 by decide) (s.a+2)
   have e3:IntKind.i64.wrap (8+((nxM l 9 (s.a+2):Nat):Int))=((8+nxM l 9 (s.a+2):Nat):Int):=gR (a:=8) Om
   simp only[go_sem,γ,δ,ε,ζ,η,θ,ι,κ,μ,ν,ξ,ο,ρ,σ,τ,υ,reduceIte,reduceCtorEq,bO (show ((nxM l 2 (s.a+1):Nat):Int)=0 by omega),aaS]
   refine cD Lb.toEF T (o:=E.o) (n:=9) (a:=s.a+2) (by decide) Om rfl (h2.at 1 rfl) ?_
   have h3:=h2.set 1 rfl (bG l (s.a+2+1))
   rw[PH.set_set] at h3
   simp only[go_sem,γ,δ,ε,ζ,η,θ,ι,κ,μ,ν,ξ,ο,ρ,σ,τ,υ,reduceIte,reduceCtorEq,e3]
   refine rF Lb (lev:=3) (par:=s.room) (up:=8+nxM l 9 (s.a+2)) h3 Om rfl fun wd3 H3 h4=>?_
   have hp:eK l i s=⟨dJ s.bIA 3 s.room (8+nxM l 9 (s.a+2)),s.bIO,s.site,s.room,s.bIA.length,s.a+3⟩:=by
    unfold eK
    simp only
    rw[if_neg c0,if_neg c1,if_pos c2]
   simp only[go_sem,γ,δ,ε,ζ,η,θ,ι,κ,μ,ν,ξ,ο,ρ,σ,τ,υ,reduceIte,reduceCtorEq]
   exact rest _ wd3 _ _ hp (by unfold eS; exact Lq) h4
  ·have hp:eK l i s={ s with a:=s.a+2 }:=by
    unfold eK
    simp only
    rw[if_neg c0,if_neg c1,if_neg c2]
   simp only[go_sem,γ,δ,ε,ζ,η,θ,ι,κ,μ,ν,ξ,ο,ρ,σ,τ,υ,reduceIte,reduceCtorEq,bB (show ((nxM l 2 (s.a+1):Nat):Int)≠0 by omega)]
   exact rest _ wd _ _ hp (by unfold eS; exact Lq) h2
 ·have bHW:¬ (i:Int)<(n:Nat):=by omega
  have:i=n:=by omega
  subst this
  simp only[go_sem,γ,δ,ε,ζ,η,θ,ι,κ,μ,ν,ξ,ο,ρ,σ,τ,υ,reduceIte,reduceCtorEq,bHW]
  refine hK wd wr _ _ ?_ ?_
  ·unfold tV
   exact Lq
  ·rw[hs]; exact hH
abbrev lS (P:cZ) (w:PV):List PV:=[.str P.name,.int .i64 P.k,.int .i64 P.m,.int .i64 P.bIT,.int .i64 P.s0,.int .i64 P.s1,.int .i64 P.s2,.int .i64 P.s3,.int .i64 P.s4,ints P.bHQ,w,
 .bool P.target.neg,aF P.target.num,aF P.target.den,.bool P.bIB.neg,aF P.bIB.num,aF P.bIB.den]
def tW (E:ME) (t m q j:Nat):PF:=((((((((PF.nil.set 0 (.ptr E.o 2 0 0)).set 1 (.int .i64 E.vols)).set 4 (.ptr E.o4 7 0 0)).set 5 (.ptr E.o5 7 0 0)).set 14 (.int .i64 t)).set 16 (.int .i64 m)).set 17 (.ptr q 17 0 0)).set 18 (.int .i64 j))
def zP (E:ME) (t m q:Nat):PF:=(((((((PF.nil.set 0 (.ptr E.o 2 0 0)).set 1 (.int .i64 E.vols)).set 4 (.ptr E.o4 7 0 0)).set 5 (.ptr E.o5 7 0 0)).set 14 (.int .i64 t)).set 16 (.int .i64 m)).set 17 (.ptr q 17 0 0))
abbrev tF (n:Nat):List (List PV):=SG (bJW n (mkT 1 2))
theorem aNO (n:Nat):tF n++[(mkT 1 2).cells]=tF (n+1):=by
 unfold tF
 rw[List.replicate_succ',a0L]
theorem blJ {C:Ctx} (Lb:oJ C) (E:ME) (t m q:Nat) (P:cZ) (B:List BX) (L:List LI) (hm:m≤100) (K:cN) (F:PF) (H:PH)
  (hF:(tW E t m q 0).le F) (hH:aQ H ((q,.rows 17 [lS P .aB])::B) L)
  (hK:∀ w F' H',(tW E t m q (max m 1)).le F'→aQ H' ((q,.rows 17 [lS P w])::B) (L++[(w,3,tF (max m 1))])→K (.exit 6) F' H') :
  aC.wp C (.loop ES) K F H:=by
 refine wp_loop (α:=Nat × PV × PH) (fun s=>tW E t m q s.1) (fun s=>s.2.2) (fun s=>s.1≤max m 1∧aQ s.2.2 ((q,.rows 17 [lS P s.2.1])::B) (L++[(s.2.1,3,tF s.1)])) (fun s=>max m 1-s.1) (0,.aB,H) ⟨bKF _,hH.mF 3⟩ hF PH.le_refl ?_
 rintro⟨j,w,H0⟩ ⟨hj,hH⟩
 simp only at hj hH ⊢
 have emax:max ((m:Nat):Int) 1=((max m 1:Nat):Int):=by omega
 simp only[go_sem,γ,δ,ε,ζ,η,θ,ι,κ,μ,ν,ξ,ο,ρ,σ,τ,υ,reduceIte,reduceCtorEq,ES,abA,tW,max_eq,emax]
 by_cases hlt:j<max m 1
 ·have bHW:(j:Int)<((max m 1:Nat):Int):=by omega
  have b:=hH.at 0 rfl
  simp only[go_sem,γ,δ,ε,ζ,η,θ,ι,κ,μ,ν,ξ,ο,ρ,σ,τ,υ,reduceIte,reduceCtorEq,bHW]
  refine bR (PH.nil.set q (.rows 17 [lS P w])) (mdS []) (PH.aI PH.nil_le b) ?_
  simp only[go_sem,γ,δ,ε,ζ,η,θ,ι,κ,μ,ν,ξ,ο,ρ,σ,τ,υ,reduceIte,reduceCtorEq,abB,b]
  refine anW Lb (n:=1) (m:=2) (by unfold cU; omega) (by unfold cU; omega) (by decide) rfl (PH.aI PH.nil_le b) ?_
  have h13:(1:Nat)*3≤16777216:=by decide
  simp only[go_sem,γ,δ,ε,ζ,η,θ,ι,κ,μ,ν,ξ,ο,ρ,σ,τ,υ,reduceIte,reduceCtorEq,h13]
  refine hH.append (v:=w) (s:=3) (rows:=tF j) L.length (src:=[(mkT 1 2).cells]) (by simp) rfl (by unfold roomFor; rw[MP,bNI]; simp only[bKH,maxLen]; omega) fun w' H2 h5 hw=>?_
  obtain⟨z,rfl⟩:=hw (by simp)
  rw[bMZ _ _ (bJV _),bMI] at h5
  have b2:=h5.at 0 rfl
  refine⟨PH.aI PH.nil_le b2,?_⟩
  refine bR .nil eG PH.nil_le ?_
  simp only[go_sem,γ,δ,ε,ζ,η,θ,ι,κ,μ,ν,ξ,ο,ρ,σ,τ,υ,reduceIte,reduceCtorEq,abC,b2,bKJ,bLB,or_false,forall_eq]
  have h6:=h5.set 0 rfl (.rows 17 [lS P (.osl z 3 0 (tF j++[(mkT 1 2).cells]).length)])
  refine⟨PH.nil_le,?_⟩
  simp only[go_sem,γ,δ,ε,ζ,η,θ,ι,κ,μ,ν,ξ,ο,ρ,σ,τ,υ,reduceIte,reduceCtorEq,abD,wZz j]
  refine aH (j+1,.osl z 3 0 (tF j++[(mkT 1 2).cells]).length,_) ⟨hlt,?_⟩ (by simp only; omega) ?_ PH.le_refl
  ·simp only
   rw[← aNO]
   exact h6
  ·exact Lq
 ·have bHW:¬ (j:Int)<((max m 1:Nat):Int):=by omega
  have:j=max m 1:=by omega
  subst this
  simp only[go_sem,γ,δ,ε,ζ,η,θ,ι,κ,μ,ν,ξ,ο,ρ,σ,τ,υ,reduceIte,reduceCtorEq,bHW]
  refine hK w _ _ ?_ hH
  unfold tW
  exact Lq
theorem blI {C:Ctx} (Lb:oJ C) {l:List Int} (T:TpM l) (E:ME) (t a:Nat) (ht:t<100) (ha:a≤50000) (ext w1 w2 wd wr wp:PV) (L:List LI) (X:aC) (K:cN) (F:PF) (H:PH)
  (f0:F 0=some (.ptr E.o 2 0 0)) (f1:F 1=some (.int .i64 E.vols)) (f4:F 4=some (.ptr E.o4 7 0 0)) (f5:F 5=some (.ptr E.o5 7 0 0)) (f14:F 14=some (.int .i64 t))
  (hH:aQ H (E.boxes l ext w1 w2 wd wr wp .aB a) L)
  (hK:∀ q F' H',(zP E t (nxM l 3 (a+1)) q).le F'→aQ H' ((q,.rows 17 [lS (oI l t a) .aB])::E.boxes l ext w1 w2 wd wr wp .aB (a+6)) L→aC.wp C X K F' H') :
  aC.wp C (.seq (.region FC) (.seq (.region FD) (.seq (.region FF) (.seq (.region FG) (.seq (.region FH) (.seq (.seq (.region FI) (.cond (.tmp 163) (.region FJ) .skip)) X)))))) K F H:=by
 have n1:=cK l (show 0<2 by decide) a
 have n2:=cK l (show 0<3 by decide) (a+1)
 have n3:=cK l (Om:0<nxM l 3 (a+1)+1) (a+2)
 have e1:IntKind.i64.wrap (1+((nxM l 2 a:Nat):Int))=((1+nxM l 2 a:Nat):Int):=gR (a:=1) Om
 have e2:IntKind.i64.wrap (((nxM l 3 (a+1):Nat):Int)+1)=((nxM l 3 (a+1)+1:Nat):Int):=dH Om
 have e3:IntKind.i64.wrap (((1+nxM l 2 a:Nat):Int)+((nxM l (nxM l 3 (a+1)+1) (a+2):Nat):Int))=((1+nxM l 2 a+nxM l (nxM l 3 (a+1)+1) (a+2):Nat):Int):=gR Om
 have h12:(2:Nat)*1≤16777216:=by decide
 have h35:(3:Int)<((5:Nat):Int):=by decide
 have h45:(4:Int)<((5:Nat):Int):=by decide
 have h11:(1:Nat)*1≤16777216:=by decide
 simp only[go_sem,γ,δ,ε,ζ,η,θ,ι,κ,μ,ν,ξ,ο,ρ,σ,τ,υ,reduceIte,reduceCtorEq,FC,f0]
 refine cD Lb.toEF T (o:=E.o) (n:=2) (a:=a) (by decide) Om rfl (hH.at 1 rfl) ?_
 have h1:=hH.set 1 rfl (bG l (a+1))
 simp only[go_sem,γ,δ,ε,ζ,η,θ,ι,κ,μ,ν,ξ,ο,ρ,σ,τ,υ,reduceIte,reduceCtorEq,e1,FD,f0]
 refine cD Lb.toEF T (o:=E.o) (n:=3) (a:=a+1) (by decide) Om rfl (h1.at 1 rfl) ?_
 have h2:=h1.set 1 rfl (bG l (a+2))
 rw[PH.set_set] at h2
 simp only[go_sem,γ,δ,ε,ζ,η,θ,ι,κ,μ,ν,ξ,ο,ρ,σ,τ,υ,reduceIte,reduceCtorEq,FF,f14]
 refine aA (Lb.name 112 t ht) rfl ?_
 simp only[go_sem,γ,δ,ε,ζ,η,θ,ι,κ,μ,ν,ξ,ο,ρ,σ,τ,υ,reduceIte,reduceCtorEq,f0,e2]
 refine cD Lb.toEF T (o:=E.o) (n:=nxM l 3 (a+1)+1) (a:=a+2) Om Om rfl (h2.at 1 rfl) ?_
 have h3:=h2.set 1 rfl (bG l (a+3))
 rw[PH.set_set] at h3
 simp only[go_sem,γ,δ,ε,ζ,η,θ,ι,κ,μ,ν,ξ,ο,ρ,σ,τ,υ,reduceIte,reduceCtorEq,e3,h12]
 refine aA (Lb.frac 1 1000 (by unfold cU; omega) (by unfold cU; omega) (by decide)) rfl ?_
 simp only[go_sem,γ,δ,ε,ζ,η,θ,ι,κ,μ,ν,ξ,ο,ρ,σ,τ,υ,reduceIte,reduceCtorEq]
 refine aA (Lb.frac 30 1 (by unfold cU; omega) (by unfold cU; omega) (by decide)) rfl ?_
 simp only[go_sem,γ,δ,ε,ζ,η,θ,ι,κ,μ,ν,ξ,ο,ρ,σ,τ,υ,reduceIte,reduceCtorEq,bKJ,bLB,or_false,forall_eq,forall_eq_or_imp]
 refine aR fun q hq=>?_
 have h4:=h3.new hq (.rows 17 [[.str (dM 112 t),.int .i64 (1+nxM l 2 a:Nat),.int .i64 (nxM l 3 (a+1):Nat),.int .i64 (1+nxM l 2 a+nxM l (nxM l 3 (a+1)+1) (a+2):Nat),.int .i64 0,.int .i64 0,.int .i64 0,.int .i64 0,.int .i64 0,ints [0,1],.aB,.bool (mkT 1 1000).neg,aF (mkT 1 1000).num,aF (mkT 1 1000).den,.bool (mkT 30 1).neg,aF (mkT 30 1).num,aF (mkT 30 1).den]])
 have nq:¬ E.o=q:=h4.ne 1 3 rfl rfl (by decide)
 have nq':¬ q=E.o:=fun h=>nq h.symm
 simp only[go_sem,γ,δ,ε,ζ,η,θ,ι,κ,μ,ν,ξ,ο,ρ,σ,τ,υ,reduceIte,reduceCtorEq,bKJ,bLB,or_false,forall_eq,forall_eq_or_imp,FG,f0]
 refine cD Lb.toEF T (o:=E.o) (n:=4) (a:=a+3) (by decide) Om rfl (h4.at 1 rfl) ?_
 have h5:=h4.set 1 rfl (bG l (a+4))
 have h6:=h5.set 3 rfl (.rows 17 [[.str (dM 112 t),.int .i64 (1+nxM l 2 a:Nat),.int .i64 (nxM l 3 (a+1):Nat),.int .i64 (1+nxM l 2 a+nxM l (nxM l 3 (a+1)+1) (a+2):Nat),.int .i64 0,.int .i64 0,.int .i64 0,.int .i64 (nxM l 4 (a+3):Nat),.int .i64 0,ints [0,1],.aB,.bool (mkT 1 1000).neg,aF (mkT 1 1000).num,aF (mkT 1 1000).den,.bool (mkT 30 1).neg,aF (mkT 30 1).num,aF (mkT 30 1).den]])
 simp only[go_sem,γ,δ,ε,ζ,η,θ,ι,κ,μ,ν,ξ,ο,ρ,σ,τ,υ,reduceIte,reduceCtorEq,h35,nq,nq',bKJ,bLB,or_false,forall_eq,FH,f0]
 refine cD Lb.toEF T (o:=E.o) (n:=3) (a:=a+4) (by decide) Om rfl (h6.at 1 rfl) ?_
 have h7:=h6.set 1 rfl (bG l (a+5))
 have h8:=h7.set 3 rfl (.rows 17 [[.str (dM 112 t),.int .i64 (1+nxM l 2 a:Nat),.int .i64 (nxM l 3 (a+1):Nat),.int .i64 (1+nxM l 2 a+nxM l (nxM l 3 (a+1)+1) (a+2):Nat),.int .i64 0,.int .i64 0,.int .i64 0,.int .i64 (nxM l 4 (a+3):Nat),.int .i64 (nxM l 3 (a+4):Nat),ints [0,1],.aB,.bool (mkT 1 1000).neg,aF (mkT 1 1000).num,aF (mkT 1 1000).den,.bool (mkT 30 1).neg,aF (mkT 30 1).num,aF (mkT 30 1).den]])
 simp only[go_sem,γ,δ,ε,ζ,η,θ,ι,κ,μ,ν,ξ,ο,ρ,σ,τ,υ,reduceIte,reduceCtorEq,h45,nq,nq',bKJ,bLB,or_false,forall_eq,FI,f0]
 refine cD Lb.toEF T (o:=E.o) (n:=5) (a:=a+5) (by decide) Om rfl (h8.at 1 rfl) ?_
 have h9:=h8.set 1 rfl (bG l (a+6))
 by_cases c:nxM l 5 (a+5)=0
 ·have h10:=h9.set 3 rfl (.rows 17 [lS (oI l t a) .aB])
  have eP:lS (oI l t a) .aB=[.str (dM 112 t),.int .i64 (1+nxM l 2 a:Nat),.int .i64 (nxM l 3 (a+1):Nat),.int .i64 (1+nxM l 2 a+nxM l (nxM l 3 (a+1)+1) (a+2):Nat),.int .i64 0,.int .i64 0,.int .i64 0,.int .i64 (nxM l 4 (a+3):Nat),.int .i64 (nxM l 3 (a+4):Nat),ints [0],.aB,.bool (mkT 1 1000).neg,aF (mkT 1 1000).num,aF (mkT 1 1000).den,.bool (mkT 30 1).neg,aF (mkT 30 1).num,aF (mkT 30 1).den]:=by
   unfold oI lS
   simp only[if_pos c]
  have h11':=h10.perm (List.perm_append_comm (l₁:=E.boxes l ext w1 w2 wd wr wp .aB (a+6)) (l₂:=[(q,.rows 17 [lS (oI l t a) .aB])])) (List.Perm.refl _)
  simp only[go_sem,γ,δ,ε,ζ,η,θ,ι,κ,μ,ν,ξ,ο,ρ,σ,τ,υ,reduceIte,reduceCtorEq,bO (show ((nxM l 5 (a+5):Nat):Int)=0 by omega),FJ,h11,nq,nq',bKJ,bLB,or_false,forall_eq]
  rw[eP] at h11'
  refine hK q _ _ ?_ (by rw[eP]; exact h11')
  unfold zP
  exact Lq
 ·have eP:lS (oI l t a) .aB=[.str (dM 112 t),.int .i64 (1+nxM l 2 a:Nat),.int .i64 (nxM l 3 (a+1):Nat),.int .i64 (1+nxM l 2 a+nxM l (nxM l 3 (a+1)+1) (a+2):Nat),.int .i64 0,.int .i64 0,.int .i64 0,.int .i64 (nxM l 4 (a+3):Nat),.int .i64 (nxM l 3 (a+4):Nat),ints [0,1],.aB,.bool (mkT 1 1000).neg,aF (mkT 1 1000).num,aF (mkT 1 1000).den,.bool (mkT 30 1).neg,aF (mkT 30 1).num,aF (mkT 30 1).den]:=by
   unfold oI lS
   simp only[if_neg c]
  simp only[go_sem,γ,δ,ε,ζ,η,θ,ι,κ,μ,ν,ξ,ο,ρ,σ,τ,υ,reduceIte,reduceCtorEq,bB (show ((nxM l 5 (a+5):Nat):Int)≠0 by omega)]
  refine hK q _ _ ?_ ?_
  ·unfold zP
   exact Lq
  ·rw[eP]
   exact h9.perm (List.perm_append_comm (l₁:=E.boxes l ext w1 w2 wd wr wp .aB (a+6)) (l₂:=[(q,.rows 17 [_])])) (List.Perm.refl _)
def aZV (E:ME) (t:Nat):PF:=(((((PF.nil.set 0 (.ptr E.o 2 0 0)).set 1 (.int .i64 E.vols)).set 4 (.ptr E.o4 7 0 0)).set 5 (.ptr E.o5 7 0 0)).set 14 (.int .i64 t))
theorem beK {C:Ctx} (Lb:oJ C) {l:List Int} (T:TpM l) (E:ME) (n a0:Nat) (hn:n≤10) (ha:a0≤10000) (x0:Int) (w1 w2 wd wr:PV) (o1:w1.oid=none) (o2:w2.oid=none) (dm:List bQ) (dv:List cB) (K:cN) (F:PF) (H:PH)
  (hF:(aZV E n).le F) (hH:aQ H (E.boxes l (.int .i64 x0) w1 w2 wd wr .aB .aB a0) [(wd,7,dK dm),(wr,3,eD dv)])
  (hK:∀ wp F' H',(tV E).le F'→aQ H' (E.boxes l (.int .i64 x0) w1 w2 wd wr wp .aB (a0+6*n)) [(wd,7,dK dm),(wr,3,eD dv),(wp,17,lC (gZ l n a0))]→K (.exit 4) F' H') :
  aC.wp C (.loop ET) K F H:=by
 refine wp_loop (α:=Nat × List cZ × PV × PH) (fun s=>aZV E s.1) (fun s=>s.2.2.2)
  (fun s=>s.1≤n∧s.2.1.length=n-s.1∧s.2.1++gZ l s.1 (a0+6*(n-s.1))=gZ l n a0∧aQ s.2.2.2 (E.boxes l (.int .i64 x0) w1 w2 wd wr s.2.2.1 .aB (a0+6*(n-s.1))) [(wd,7,dK dm),(wr,3,eD dv),(s.2.2.1,17,lC s.2.1)]) (fun s=>s.1) (n,[],.aB,H)
  ⟨bJV _,by simp,by simp,by simp only[bMI,Nat.mul_zero,bLL]; exact hH.mF 17⟩ hF PH.le_refl ?_
 rintro⟨t,done,wp,H0⟩ ⟨ht,hdl,hE,hH⟩
 simp only at ht hdl hE hH ⊢
 simp only[go_sem,γ,δ,ε,ζ,η,θ,ι,κ,μ,ν,ξ,ο,ρ,σ,τ,υ,reduceIte,reduceCtorEq,ET,aaY,aZV]
 cases t with
 | zero =>
  have hc:¬ (((0:Nat):Int)>0):=by omega
  have e:done=gZ l n a0:=by rw[← hE,gZ,bLM]
  rw[Nat.sub_zero,e] at hH
  simp only[go_sem,γ,δ,ε,ζ,η,θ,ι,κ,μ,ν,ξ,ο,ρ,σ,τ,υ,reduceIte,reduceCtorEq,hc]
  refine hK wp _ _ ?_ hH
  unfold tV
  exact Lq
 | succ t =>
  have hc:(((t+1:Nat):Int)>0):=by omega
  obtain⟨a,hae⟩:∃ a,a=a0+6*(n-(t+1)):=⟨_,rfl⟩
  have ha6:a0+6*(n-t)=a+6:=by omega
  rw[← hae] at hE hH
  simp only[go_sem,γ,δ,ε,ζ,η,θ,ι,κ,μ,ν,ξ,ο,ρ,σ,τ,υ,reduceIte,reduceCtorEq,hc]
  refine blI Lb T E (t+1) a Om Om (.int .i64 x0) w1 w2 wd wr wp _ _ _ _ _ Ev Ev Ev Ev Ev hH ?_
  intro q F1 H1 hF1 h1
  have f0:F1 0=some (.ptr E.o 2 0 0):=hF1 0 _ (by unfold zP; simp only[go_sem,γ,δ,ε,ζ,η,θ,ι,κ,μ,ν,ξ,ο,ρ,σ,τ,υ,reduceIte,reduceCtorEq])
  have f1:F1 1=some (.int .i64 E.vols):=hF1 1 _ (by unfold zP; simp only[go_sem,γ,δ,ε,ζ,η,θ,ι,κ,μ,ν,ξ,ο,ρ,σ,τ,υ,reduceIte,reduceCtorEq])
  have f4:F1 4=some (.ptr E.o4 7 0 0):=hF1 4 _ (by unfold zP; simp only[go_sem,γ,δ,ε,ζ,η,θ,ι,κ,μ,ν,ξ,ο,ρ,σ,τ,υ,reduceIte,reduceCtorEq])
  have f5:F1 5=some (.ptr E.o5 7 0 0):=hF1 5 _ (by unfold zP; simp only[go_sem,γ,δ,ε,ζ,η,θ,ι,κ,μ,ν,ξ,ο,ρ,σ,τ,υ,reduceIte,reduceCtorEq])
  have f14:F1 14=some (.int .i64 (t+1:Nat)):=hF1 14 _ (by unfold zP; simp only[go_sem,γ,δ,ε,ζ,η,θ,ι,κ,μ,ν,ξ,ο,ρ,σ,τ,υ,reduceIte,reduceCtorEq])
  have f16:F1 16=some (.int .i64 (nxM l 3 (a+1):Nat)):=hF1 16 _ (by unfold zP; simp only[go_sem,γ,δ,ε,ζ,η,θ,ι,κ,μ,ν,ξ,ο,ρ,σ,τ,υ,reduceIte,reduceCtorEq])
  have f17:F1 17=some (.ptr q 17 0 0):=hF1 17 _ (by unfold zP; simp only[go_sem,γ,δ,ε,ζ,η,θ,ι,κ,μ,ν,ξ,ο,ρ,σ,τ,υ,reduceIte,reduceCtorEq])
  have n3:=cK l (show 0<3 by decide) (a+1)
  have hPr:(oI l (t+1) a).repair=bJW (max (nxM l 3 (a+1)) 1) (mkT 1 2):=rfl
  have hE2:(done++[oI l (t+1) a])++gZ l t (a+6)=gZ l n a0:=by rw[← hE,gZ,bKU]; rfl
  generalize oI l (t+1) a=P at *
  simp only[go_sem,γ,δ,ε,ζ,η,θ,ι,κ,μ,ν,ξ,ο,ρ,σ,τ,υ,reduceIte,reduceCtorEq,aaZ]
  refine blJ Lb E (t+1) (nxM l 3 (a+1)) q P _ _ Om _ _ _ (by unfold tW; (repeat' (first|exact PF.nil_le|refine PF.aI ?_ ?_))<;>first|(simp only[go_sem,γ,δ,ε,ζ,η,θ,ι,κ,μ,ν,ξ,ο,ρ,σ,τ,υ,reduceIte,reduceCtorEq,f0,f1,f4,f5,f14,f16,f17]<;>rfl)|rfl) h1 ?_
  intro w F2 H2 hF2 h2
  have g0:F2 0=some (.ptr E.o 2 0 0):=hF2 0 _ (by unfold tW; simp only[go_sem,γ,δ,ε,ζ,η,θ,ι,κ,μ,ν,ξ,ο,ρ,σ,τ,υ,reduceIte,reduceCtorEq])
  have g1:F2 1=some (.int .i64 E.vols):=hF2 1 _ (by unfold tW; simp only[go_sem,γ,δ,ε,ζ,η,θ,ι,κ,μ,ν,ξ,ο,ρ,σ,τ,υ,reduceIte,reduceCtorEq])
  have g4:F2 4=some (.ptr E.o4 7 0 0):=hF2 4 _ (by unfold tW; simp only[go_sem,γ,δ,ε,ζ,η,θ,ι,κ,μ,ν,ξ,ο,ρ,σ,τ,υ,reduceIte,reduceCtorEq])
  have g5:F2 5=some (.ptr E.o5 7 0 0):=hF2 5 _ (by unfold tW; simp only[go_sem,γ,δ,ε,ζ,η,θ,ι,κ,μ,ν,ξ,ο,ρ,σ,τ,υ,reduceIte,reduceCtorEq])
  have g14:F2 14=some (.int .i64 (t+1:Nat)):=hF2 14 _ (by unfold tW; simp only[go_sem,γ,δ,ε,ζ,η,θ,ι,κ,μ,ν,ξ,ο,ρ,σ,τ,υ,reduceIte,reduceCtorEq])
  have g17:F2 17=some (.ptr q 17 0 0):=hF2 17 _ (by unfold tW; simp only[go_sem,γ,δ,ε,ζ,η,θ,ι,κ,μ,ν,ξ,ο,ρ,σ,τ,υ,reduceIte,reduceCtorEq])
  obtain⟨o,hw⟩:=(h2.own 3 rfl).one (by rw[MP,bNI]; omega)
  rw[MP,bNI] at hw
  subst hw
  have bq:=h2.at 0 rfl
  have b5:=h2.at 1 rfl
  have h17:(1:Nat)*17≤16777216:=by decide
  have e1:IntKind.i64.wrap (((t+1:Nat):Int)-1)=((t:Nat):Int):=by rw[wrap_i64 Om Om]; omega
  simp only[go_sem,γ,δ,ε,ζ,η,θ,ι,κ,μ,ν,ξ,ο,ρ,σ,τ,υ,reduceIte,reduceCtorEq,abE,g5,g17,bq,b5,h17]
  refine h2.append (v:=wp) (s:=17) (rows:=lC done) 2 (src:=[lS P (.osl o 3 0 (max (nxM l 3 (a+1)) 1))]) rfl Sq (by unfold roomFor; rw[bJT,hdl]; simp only[bKH,maxLen]; omega) fun wp' H3 h3 hw=>?_
  obtain⟨z,rfl⟩:=hw (by simp)
  have b3:=h3.at 1 rfl
  simp only[go_sem,γ,δ,ε,ζ,η,θ,ι,κ,μ,ν,ξ,ο,ρ,σ,τ,υ,reduceIte,reduceCtorEq,g5,b3,bKJ,bLB,or_false,forall_eq]
  have h4:=h3.set 1 rfl (flB (.int .i64 x0) w1 w2 wd wr (.osl z 17 0 (lC done++[lS P (.osl o 3 0 (max (nxM l 3 (a+1)) 1))]).length) .aB)
  simp only[go_sem,γ,δ,ε,ζ,η,θ,ι,κ,μ,ν,ξ,ο,ρ,σ,τ,υ,reduceIte,reduceCtorEq,abF,g14,e1]
  generalize hwp:(PV.osl z 17 0 (lC done++[lS P (.osl o 3 0 (max (nxM l 3 (a+1)) 1))]).length)=wp' at *
  obtain⟨rs,z1,z2,z3,z4,z5⟩:=h4.frz 3 rfl
  have y1:=z4 0 _ (by decide) rfl
  have y2:=z4 1 _ (by decide) rfl
  have y3:=z4 2 _ (by decide) rfl
  simp only at y1 y2 y3
  have y4:=uQ o1 o 3 rs
  have y5:=uQ o2 o 3 rs
  refine apW (t,done++[P],wp',(H3.set E.o5 (flB (.int .i64 x0) w1 w2 wd wr wp' .aB)).frz o 3 rs) z1 ⟨by omega,by simp only[bKA,bKH,hdl]; omega,by simp only; rw[ha6]; exact hE2,?_⟩ (by simp only; omega) ?_ PH.le_refl
  ·simp only
   rw[ha6]
   have eB:(E.boxes l (.int .i64 x0) w1 w2 wd wr wp' .aB (a+6)).map (fun b=>(b.1,b.2.frz o 3 rs))=E.boxes l (.int .i64 x0) w1 w2 wd wr wp' .aB (a+6):=by
    show [(E.o5,cP.rows 7 [[.int .i64 x0,PV.dC o 3 rs w1,PV.dC o 3 rs w2,PV.dC o 3 rs wd,PV.dC o 3 rs wr,PV.dC o 3 rs wp',.aB]]),(E.o,bG l (a+6)),(E.o4,flZ)]=_
    rw[y1,y2,y3,y4,y5]
   have e5:(lC done++[lS P (.osl o 3 0 (max (nxM l 3 (a+1)) 1))]).map (fun r=>r.map (PV.dC o 3 rs))=lC (done++[P]):=by
    rw[bLW,aTZ]
    have:([lS P (.osl o 3 0 (max (nxM l 3 (a+1)) 1))]:List (List PV)).map (fun r=>r.map (PV.dC o 3 rs))=[P.cells]:=by
     show [[PV.str P.name,.int .i64 P.k,.int .i64 P.m,.int .i64 P.bIT,.int .i64 P.s0,.int .i64 P.s1,.int .i64 P.s2,.int .i64 P.s3,.int .i64 P.s4,ints P.bHQ,PV.dC o 3 rs (.osl o 3 0 (max (nxM l 3 (a+1)) 1)),.bool P.target.neg,aF P.target.num,aF P.target.den,.bool P.bIB.neg,aF P.bIB.num,aF P.bIB.den]]=_
     rw[z2]
     unfold cZ.cells
     rw[hPr]
    rw[this]
    simp[lC]
   have eL:([(wd,7,dK dm),(wr,3,eD dv),(wp',17,lC done++[lS P (.osl o 3 0 (max (nxM l 3 (a+1)) 1))])]:List LI).map (fun x=>(x.1,x.2.1,x.2.2.map fun r=>r.map (PV.dC o 3 rs)))=[(wd,7,dK dm),(wr,3,eD dv),(wp',17,lC (done++[P]))]:=by
    show [(wd,7,(dK dm).map _),(wr,3,(eD dv).map _),(wp',17,(lC done++[lS P (.osl o 3 0 (max (nxM l 3 (a+1)) 1))]).map _)]=_
    rw[aPI,aPK,e5]
   rw[← eB,← eL]
   exact z5.sub (List.sublist_cons_self ..) (bLR.refl _)
  ·(repeat' (first|exact PF.nil_le|refine PF.aI ?_ ?_))<;>first|(simp only[go_sem,γ,δ,ε,ζ,η,θ,ι,κ,μ,ν,ξ,ο,ρ,σ,τ,υ,reduceIte,reduceCtorEq,g0,g1,g4,g5]<;>rfl)|rfl
def aZW (E:ME) (t:Nat):PF:=((((PF.nil.set 0 (.ptr E.o 2 0 0)).set 4 (.ptr E.o4 7 0 0)).set 5 (.ptr E.o5 7 0 0)).set 19 (.int .i64 t))
def aZU (E:ME):PF:=(((PF.nil.set 0 (.ptr E.o 2 0 0)).set 4 (.ptr E.o4 7 0 0)).set 5 (.ptr E.o5 7 0 0))
theorem beM {C:Ctx} (Lb:oJ C) {l:List Int} (T:TpM l) (E:ME) (n a0:Nat) (hn:n≤90) (ha:a0≤10000) (ext w1 w2 wd wr wp:PV) (ps:List cZ) (hps:ps.length≤1000) (dm:List bQ) (dv:List cB) (K:cN) (F:PF) (H:PH)
  (hF:(aZW E n).le F) (hH:aQ H (E.boxes l ext w1 w2 wd wr wp .aB a0) [(wd,7,dK dm),(wr,3,eD dv),(wp,17,lC ps)])
  (hK:∀ wv F' H',(aZU E).le F'→aQ H' (E.boxes l ext w1 w2 wd wr wp wv (a0+n)) [(wd,7,dK dm),(wr,3,eD dv),(wp,17,lC ps),(wv,2,oS (kP l ps.length n a0))]→K (.exit 8) F' H') :
  aC.wp C (.loop EU) K F H:=by
 refine wp_loop (α:=Nat × List eC × PV × PH) (fun s=>aZW E s.1) (fun s=>s.2.2.2)
  (fun s=>s.1≤n∧s.2.1.length=n-s.1∧s.2.1++kP l ps.length s.1 (a0+(n-s.1))=kP l ps.length n a0∧aQ s.2.2.2 (E.boxes l ext w1 w2 wd wr wp s.2.2.1 (a0+(n-s.1))) [(wd,7,dK dm),(wr,3,eD dv),(wp,17,lC ps),(s.2.2.1,2,oS s.2.1)]) (fun s=>s.1) (n,[],.aB,H)
  ⟨bJV _,by simp,by simp,by simp only[bMI,bLL]; exact hH.mF 2⟩ hF PH.le_refl ?_
 rintro⟨t,done,wv,H0⟩ ⟨ht,hdl,hE,hH⟩
 simp only at ht hdl hE hH ⊢
 simp only[go_sem,γ,δ,ε,ζ,η,θ,ι,κ,μ,ν,ξ,ο,ρ,σ,τ,υ,reduceIte,reduceCtorEq,EU,abH,aZW]
 cases t with
 | zero =>
  have hc:¬ (((0:Nat):Int)>0):=by omega
  have e:done=kP l ps.length n a0:=by rw[← hE,kP,bLM]
  rw[Nat.sub_zero,e] at hH
  simp only[go_sem,γ,δ,ε,ζ,η,θ,ι,κ,μ,ν,ξ,ο,ρ,σ,τ,υ,reduceIte,reduceCtorEq,hc]
  refine hK wv _ _ ?_ hH
  unfold aZU
  exact Lq
 | succ t =>
  have hc:(((t+1:Nat):Int)>0):=by omega
  obtain⟨a,hae⟩:∃ a,a=a0+(n-(t+1)):=⟨_,rfl⟩
  have ha6:a0+(n-t)=a+1:=by omega
  rw[← hae] at hE hH
  have b5:=hH.at 0 rfl
  have lw:=(hH.own 2 rfl).uA
  rw[bJT] at lw
  have h1:=hH.set 1 rfl (bG l (a+1))
  have b1:=h1.at 0 rfl
  have e1:IntKind.i64.wrap (((t+1:Nat):Int)-1)=((t:Nat):Int):=by rw[wrap_i64 Om Om]; omega
  have h12:(1:Nat)*2≤16777216:=by decide
  simp only[go_sem,γ,δ,ε,ζ,η,θ,ι,κ,μ,ν,ξ,ο,ρ,σ,τ,υ,reduceIte,reduceCtorEq,hc]
  refine bR (PH.nil.set E.o5 (flB ext w1 w2 wd wr wp wv)) (mdS l) (PH.aI PH.nil_le b5) ?_
  simp only[go_sem,γ,δ,ε,ζ,η,θ,ι,κ,μ,ν,ξ,ο,ρ,σ,τ,υ,reduceIte,reduceCtorEq,abI,b5]
  refine LP Lb (c:=118) (n:=t+1) Om (by simp only[go_sem,γ,δ,ε,ζ,η,θ,ι,κ,μ,ν,ξ,ο,ρ,σ,τ,υ,reduceIte,reduceCtorEq]; rfl) (PH.aI PH.nil_le b5) ?_
  simp only[go_sem,γ,δ,ε,ζ,η,θ,ι,κ,μ,ν,ξ,ο,ρ,σ,τ,υ,reduceIte,reduceCtorEq,b5,lw]
  refine a6G Lb.toEF T (o:=E.o) (n:=ps.length) (a:=a) Om Om Sq (hH.at 1 rfl) (PH.aI PH.nil_le b1) ?_
  simp only[go_sem,γ,δ,ε,ζ,η,θ,ι,κ,μ,ν,ξ,ο,ρ,σ,τ,υ,reduceIte,reduceCtorEq,h12]
  refine h1.append (v:=wv) (s:=2) (rows:=oS done) 3 (src:=[(⟨dM 118 (t+1),(nxM l ps.length a:Nat)⟩:eC).cells]) rfl Sq (by unfold roomFor; rw[bJT,hdl]; simp only[bKH,maxLen]; omega) fun w' H2 h5 hw=>?_
  obtain⟨z,rfl⟩:=hw (by simp)
  have b2:=h5.at 0 rfl
  refine⟨PH.aI PH.nil_le b2,?_⟩
  refine bR .nil eG PH.nil_le ?_
  simp only[go_sem,γ,δ,ε,ζ,η,θ,ι,κ,μ,ν,ξ,ο,ρ,σ,τ,υ,reduceIte,reduceCtorEq,abJ,b2,bKJ,bLB,or_false,forall_eq]
  have h6:=h5.set 0 rfl (flB ext w1 w2 wd wr wp (.osl z 2 0 (oS done++[(⟨dM 118 (t+1),(nxM l ps.length a:Nat)⟩:eC).cells]).length))
  refine⟨PH.nil_le,?_⟩
  simp only[go_sem,γ,δ,ε,ζ,η,θ,ι,κ,μ,ν,ξ,ο,ρ,σ,τ,υ,reduceIte,reduceCtorEq,abK,e1]
  refine aH (t,done++[⟨dM 118 (t+1),(nxM l ps.length a:Nat)⟩],.osl z 2 0 (oS done++[(⟨dM 118 (t+1),(nxM l ps.length a:Nat)⟩:eC).cells]).length,_) ⟨by omega,by simp only[bKA,bKH,hdl]; omega,?_,?_⟩ (by simp only; omega) ?_ PH.le_refl
  ·simp only
   rw[ha6,← hE,kP,bKU]
   rfl
  ·simp only
   rw[ha6]
   have e:oS (done++[⟨dM 118 (t+1),(nxM l ps.length a:Nat)⟩])=oS done++[(⟨dM 118 (t+1),(nxM l ps.length a:Nat)⟩:eC).cells]:=by simp[oS]
   rw[e]
   exact h6
  ·exact Lq
def aOS (l:List Int) (o vols a:Nat) (r:PV) (H:PH):Prop:=Co r (.agg (dD l vols a).1.cells)∧H=PH.nil.set o (bG l (dD l vols a).2)
theorem a6I {C:Ctx} (Lb:CP C) {l:List Int} (T:TpM l) (o vols a:Nat) (hv:vols≤50) (ha:a≤1000) :
  zQ.wp C (aT LT.res (aOS l o vols a)) (PF.args [.ptr o 2 0 0,.int .i64 vols]) (PH.nil.set o (bG l a)):=by
 have hR:∀ r H,aOS l o vols a r H↔Co r (.agg (dD l vols a).1.cells)∧H=PH.nil.set o (bG l (dD l vols a).2):=fun _ _=>Iff.rfl
 have hT:dD l vols a=dD l vols a:=rfl
 conv at hT=>rhs; unfold dD
 dsimp only at hT
 have n1:=cK l (show 0<2 by decide) a
 have n2:=cK l (show 0<100 by decide) (a+1)
 have n3:=cK l (show 0<2 by decide) (a+2)
 have n4:=cK l (show 0<9 by decide) (a+3)
 have n5:=cK l (show 0<3 by decide) (a+4)
 have n6:=cK l (show 0<9 by decide) (a+5)
 have n7:=cK l (show 0<3 by decide) (a+6)
 have e1:IntKind.i64.wrap (1+((nxM l 2 a:Nat):Int))=((1+nxM l 2 a:Nat):Int):=gR (a:=1) Om
 have e2:IntKind.i64.wrap (100+((nxM l 100 (a+1):Nat):Int))=((100+nxM l 100 (a+1):Nat):Int):=gR (a:=100) Om
 have e3:IntKind.i64.wrap (3+((nxM l 2 (a+2):Nat):Int))=((3+nxM l 2 (a+2):Nat):Int):=gR (a:=3) Om
 have e4:IntKind.i64.wrap (8+((nxM l 9 (a+3):Nat):Int))=((8+nxM l 9 (a+3):Nat):Int):=gR (a:=8) Om
 have e5:IntKind.i64.wrap (1+((nxM l 3 (a+4):Nat):Int))=((1+nxM l 3 (a+4):Nat):Int):=gR (a:=1) Om
 have e6:IntKind.i64.wrap (4+((nxM l 9 (a+5):Nat):Int))=((4+nxM l 9 (a+5):Nat):Int):=gR (a:=4) Om
 have e7:IntKind.i64.wrap (3+((nxM l 3 (a+6):Nat):Int))=((3+nxM l 3 (a+6):Nat):Int):=gR (a:=3) Om
 have hM:=oQ l (aeF (a+7)) (3+nxM l 3 (a+6)) Om
 have h0:aQ (PH.nil.set o (bG l a)) [(o,bG l a)] []:=aQ.nil.new (H:=PH.nil) rfl (bG l a)
 have h13:(1:Nat)*3≤16777216:=by decide
 have h11:(1:Nat)*1≤16777216:=by decide
 have h14:(1:Nat)*4≤16777216:=by decide
 have h24:(2:Nat)*4≤16777216:=by decide
 have h17:(1:Nat)*7≤16777216:=by decide
 simp only[go_sem,γ,δ,ε,ζ,η,θ,ι,κ,μ,ν,ξ,ο,ρ,σ,τ,υ,reduceIte,reduceCtorEq,zQ,anX,LT]
 refine aR fun o4 ho4=>?_
 have h1:=h0.new ho4 flZ
 simp only[go_sem,γ,δ,ε,ζ,η,θ,ι,κ,μ,ν,ξ,ο,ρ,σ,τ,υ,reduceIte,reduceCtorEq,anY]
 refine cD Lb.toEF T (o:=o) (n:=2) (a:=a) (by decide) Om rfl (h1.at 0 rfl) ?_
 have h2:=h1.set 0 rfl (bG l (a+1))
 simp only[go_sem,γ,δ,ε,ζ,η,θ,ι,κ,μ,ν,ξ,ο,ρ,σ,τ,υ,reduceIte,reduceCtorEq,e1]
 refine aR fun o5 ho5=>?_
 have h3:=h2.new ho5 (flB (.int .i64 (1+nxM l 2 a:Nat)) .aB .aB .aB .aB .aB .aB)
 have n05:¬ o=o5:=h3.ne 0 2 rfl rfl (by decide)
 have n50:¬ o5=o:=fun h=>n05 h.symm
 simp only[go_sem,γ,δ,ε,ζ,η,θ,ι,κ,μ,ν,ξ,ο,ρ,σ,τ,υ,reduceIte,reduceCtorEq,anZ,bKJ,bLB,or_false,forall_eq,forall_eq_or_imp]
 refine aA (Lb.frac 1 1 (by unfold cU; omega) (by unfold cU; omega) (by decide)) rfl ?_
 simp only[go_sem,γ,δ,ε,ζ,η,θ,ι,κ,μ,ν,ξ,ο,ρ,σ,τ,υ,reduceIte,reduceCtorEq,h13]
 refine aA (Lb.frac 0 1 (by unfold cU; omega) (by unfold cU; omega) (by decide)) rfl ?_
 simp only[go_sem,γ,δ,ε,ζ,η,θ,ι,κ,μ,ν,ξ,ο,ρ,σ,τ,υ,reduceIte,reduceCtorEq,h13,h11]
 refine cD Lb.toEF T (o:=o) (n:=100) (a:=a+1) (by decide) Om rfl (h3.at 0 rfl) ?_
 have h4:=h3.set 0 rfl (bG l (a+2))
 simp only[go_sem,γ,δ,ε,ζ,η,θ,ι,κ,μ,ν,ξ,ο,ρ,σ,τ,υ,reduceIte,reduceCtorEq,e2]
 refine aA (Lb.frac 1 (100+nxM l 100 (a+1):Nat) (by unfold cU; omega) (by unfold cU; omega) Om) rfl ?_
 have h5:=h4.set 2 rfl (flB (.int .i64 (1+nxM l 2 a:Nat)) (.sl 4 (aDO [⟨[100,105,115,107],[mkT 1 1],[[mkT 0 1]],[mkT 1 ((100+nxM l 100 (a+1):Nat):Int)]⟩])) .aB .aB .aB .aB .aB)
 simp only[go_sem,γ,δ,ε,ζ,η,θ,ι,κ,μ,ν,ξ,ο,ρ,σ,τ,υ,reduceIte,reduceCtorEq,h13,h14,n05,n50,bKJ,bLB,or_false,forall_eq,aoA]
 refine cD Lb.toEF T (o:=o) (n:=2) (a:=a+2) (by decide) Om rfl (h5.at 0 rfl) ?_
 have h6:=h5.set 0 rfl (bG l (a+3))
 simp only[go_sem,γ,δ,ε,ζ,η,θ,ι,κ,μ,ν,ξ,ο,ρ,σ,τ,υ,reduceIte,reduceCtorEq,e3]
 refine cD Lb.toEF T (o:=o) (n:=9) (a:=a+3) (by decide) Om rfl (h6.at 0 rfl) ?_
 have h7:=h6.set 0 rfl (bG l (a+4))
 rw[PH.set_set] at h7
 simp only[go_sem,γ,δ,ε,ζ,η,θ,ι,κ,μ,ν,ξ,ο,ρ,σ,τ,υ,reduceIte,reduceCtorEq,e4]
 refine cD Lb.toEF T (o:=o) (n:=3) (a:=a+4) (by decide) Om rfl (h7.at 0 rfl) ?_
 have h8:=h7.set 0 rfl (bG l (a+5))
 rw[PH.set_set] at h8
 simp only[go_sem,γ,δ,ε,ζ,η,θ,ι,κ,μ,ν,ξ,ο,ρ,σ,τ,υ,reduceIte,reduceCtorEq,e5]
 refine cD Lb.toEF T (o:=o) (n:=9) (a:=a+5) (by decide) Om rfl (h8.at 0 rfl) ?_
 have h9:=h8.set 0 rfl (bG l (a+6))
 rw[PH.set_set] at h9
 obtain⟨w1,hw1⟩:∃ w1,w1=PV.sl 4 (aDO [⟨[100,105,115,107],[mkT 1 1],[[mkT 0 1]],[mkT 1 ((100+nxM l 100 (a+1):Nat):Int)]⟩]):=⟨_,rfl⟩
 obtain⟨w2,hw2⟩:∃ w2,w2=PV.sl 4 (a7W [⟨[98,105,103],(3+nxM l 2 (a+2):Nat),(8+nxM l 9 (a+3):Nat),0⟩,⟨[111,108,100],(1+nxM l 3 (a+4):Nat),(4+nxM l 9 (a+5):Nat),0⟩]):=⟨_,rfl⟩
 have h10:=h9.set 2 rfl (flB (.int .i64 (1+nxM l 2 a:Nat)) w1 w2 .aB .aB .aB .aB)
 rw[hw1,hw2] at h10
 simp only[go_sem,γ,δ,ε,ζ,η,θ,ι,κ,μ,ν,ξ,ο,ρ,σ,τ,υ,reduceIte,reduceCtorEq,e6,h24,n05,n50,bKJ,bLB,or_false,forall_eq,aoB]
 refine aA (Lb.frac 0 1 (by unfold cU; omega) (by unfold cU; omega) (by decide)) rfl ?_
 simp only[go_sem,γ,δ,ε,ζ,η,θ,ι,κ,μ,ν,ξ,ο,ρ,σ,τ,υ,reduceIte,reduceCtorEq,h17]
 refine aR fun od hod=>?_
 have h11':=h10.bgR (s:=7) (rows:=dK [jC]) hod
 have n5d:¬ o5=od:=h11'.neL 2 0 rfl rfl rfl
 have nd5:¬ od=o5:=fun h=>n5d h.symm
 have h12:=h11'.set 2 rfl (flB (.int .i64 (1+nxM l 2 a:Nat)) w1 w2 (.osl od 7 0 1) .aB .aB .aB)
 rw[hw1,hw2] at h12
 simp only[go_sem,γ,δ,ε,ζ,η,θ,ι,κ,μ,ν,ξ,ο,ρ,σ,τ,υ,reduceIte,reduceCtorEq,n5d,nd5,bKJ,bLB,or_false,forall_eq,aoC]
 refine cD Lb.toEF T (o:=o) (n:=3) (a:=a+6) (by decide) Om rfl (h12.at 0 rfl) ?_
 have h13':=h12.set 0 rfl (bG l (a+7))
 simp only[go_sem,γ,δ,ε,ζ,η,θ,ι,κ,μ,ν,ξ,ο,ρ,σ,τ,υ,reduceIte,reduceCtorEq,e7,aoD,aoE]
 obtain⟨E,hE⟩:∃ E:ME,E=⟨o,o4,o5,vols⟩:=⟨_,rfl⟩
 have h14':=(h13'.mF 3).perm (B':=E.boxes l (.int .i64 (1+nxM l 2 a:Nat)) w1 w2 (.osl od 7 0 1) .aB .aB .aB (a+7)) (L':=[(.osl od 7 0 1,7,dK [jC]),(.aB,3,eD [])])
  (by rw[hE,hw1,hw2]; exact (List.Perm.cons _ (List.Perm.swap _ _ _)).trans (List.Perm.swap _ _ _)) (List.Perm.refl _)
 refine a6H Lb T E (3+nxM l 3 (a+6)) (a+7) Om Om (.int .i64 (1+nxM l 2 a:Nat)) w1 w2 (.osl od 7 0 1) _ _ _ ?_ h14' ?_
 ·rw[hE]
  unfold eS
  exact Lq
 clear h14' h13' h12 h11' h10 h9 h8 h7 h6 h5 h4 h3 h2 h1 h0 ho4 ho5 hod
 intro wd wr F1 H1 hF1 h1
 have f0:F1 0=some (.ptr o 2 0 0):=hF1 0 _ (by rw[hE]; unfold tV; simp only[go_sem,γ,δ,ε,ζ,η,θ,ι,κ,μ,ν,ξ,ο,ρ,σ,τ,υ,reduceIte,reduceCtorEq])
 have f1:F1 1=some (.int .i64 vols):=hF1 1 _ (by rw[hE]; unfold tV; simp only[go_sem,γ,δ,ε,ζ,η,θ,ι,κ,μ,ν,ξ,ο,ρ,σ,τ,υ,reduceIte,reduceCtorEq])
 have f4:F1 4=some (.ptr o4 7 0 0):=hF1 4 _ (by rw[hE]; unfold tV; simp only[go_sem,γ,δ,ε,ζ,η,θ,ι,κ,μ,ν,ξ,ο,ρ,σ,τ,υ,reduceIte,reduceCtorEq])
 have f5:F1 5=some (.ptr o5 7 0 0):=hF1 5 _ (by rw[hE]; unfold tV; simp only[go_sem,γ,δ,ε,ζ,η,θ,ι,κ,μ,ν,ξ,ο,ρ,σ,τ,υ,reduceIte,reduceCtorEq])
 generalize eH l ⟨[jC],[],0,0,0,a+7⟩ (3+nxM l 3 (a+6))=s at *
 have sa:=hM.hi
 have n8:=cK l (show 0<2 by decide) s.a
 have e8:IntKind.i64.wrap (1+((nxM l 2 s.a:Nat):Int))=((1+nxM l 2 s.a:Nat):Int):=gR (a:=1) Om
 have q1:=h1.at 1 rfl
 rw[hE] at q1
 simp only[go_sem,γ,δ,ε,ζ,η,θ,ι,κ,μ,ν,ξ,ο,ρ,σ,τ,υ,reduceIte,reduceCtorEq,aaX,f0]
 refine cD Lb.toEF T (o:=o) (n:=2) (a:=s.a) (by decide) Om rfl q1 ?_
 have h2:=h1.set 1 rfl (bG l (s.a+1))
 simp only[go_sem,γ,δ,ε,ζ,η,θ,ι,κ,μ,ν,ξ,ο,ρ,σ,τ,υ,reduceIte,reduceCtorEq,e8]
 refine beK Lb.tooJ T E (1+nxM l 2 s.a) (s.a+1) Om Om _ w1 w2 wd wr (by rw[hw1]; rfl) (by rw[hw2]; rfl) _ _ _ _ _ ?_ (by rw[hE] at h2 ⊢; exact h2) ?_
 ·rw[hE]
  unfold aZV
  exact Lq
 clear q1 h2 h1 f0 f1 f4 f5 hF1
 intro wp F2 H2 hF2 h1
 have f0:F2 0=some (.ptr o 2 0 0):=hF2 0 _ (by rw[hE]; unfold tV; simp only[go_sem,γ,δ,ε,ζ,η,θ,ι,κ,μ,ν,ξ,ο,ρ,σ,τ,υ,reduceIte,reduceCtorEq])
 have f1:F2 1=some (.int .i64 vols):=hF2 1 _ (by rw[hE]; unfold tV; simp only[go_sem,γ,δ,ε,ζ,η,θ,ι,κ,μ,ν,ξ,ο,ρ,σ,τ,υ,reduceIte,reduceCtorEq])
 have f4:F2 4=some (.ptr o4 7 0 0):=hF2 4 _ (by rw[hE]; unfold tV; simp only[go_sem,γ,δ,ε,ζ,η,θ,ι,κ,μ,ν,ξ,ο,ρ,σ,τ,υ,reduceIte,reduceCtorEq])
 have f5:F2 5=some (.ptr o5 7 0 0):=hF2 5 _ (by rw[hE]; unfold tV; simp only[go_sem,γ,δ,ε,ζ,η,θ,ι,κ,μ,ν,ξ,ο,ρ,σ,τ,υ,reduceIte,reduceCtorEq])
 obtain⟨b,hb⟩:∃ b,b=s.a+1+6*(1+nxM l 2 s.a):=⟨_,rfl⟩
 rw[← hb] at h1
 have n9:nxM l vols b≤vols:=by
  rcases bMT vols with e | e
  ·subst e; unfold nxM; simp
  ·exact Nat.le_of_lt (cK l e _)
 have e9:IntKind.i64.wrap (1+((nxM l vols b:Nat):Int))=((1+nxM l vols b:Nat):Int):=gR (a:=1) Om
 have q1:=h1.at 1 rfl
 rw[hE] at q1
 simp only[go_sem,γ,δ,ε,ζ,η,θ,ι,κ,μ,ν,ξ,ο,ρ,σ,τ,υ,reduceIte,reduceCtorEq,abG,f0,f1]
 refine cD Lb.toEF T (o:=o) (n:=vols) (a:=b) Om Om rfl q1 ?_
 have h2:=h1.set 1 rfl (bG l (b+1))
 have hpl:=pU l (1+nxM l 2 s.a) (s.a+1)
 simp only[go_sem,γ,δ,ε,ζ,η,θ,ι,κ,μ,ν,ξ,ο,ρ,σ,τ,υ,reduceIte,reduceCtorEq,e9]
 refine beM Lb.tooJ T E (1+nxM l vols b) (b+1) Om Om _ w1 w2 wd wr wp _ (by rw[hpl]; omega) _ _ _ _ _ ?_ (by rw[hE] at h2 ⊢; exact h2) ?_
 ·rw[hE]
  unfold aZW
  exact Lq
 clear q1 h2 h1 f0 f1 f4 f5 hF2
 intro wv F3 H3 hF3 h1
 have f4:F3 4=some (.ptr o4 7 0 0):=hF3 4 _ (by rw[hE]; unfold aZU; simp only[go_sem,γ,δ,ε,ζ,η,θ,ι,κ,μ,ν,ξ,ο,ρ,σ,τ,υ,reduceIte,reduceCtorEq])
 have f5:F3 5=some (.ptr o5 7 0 0):=hF3 5 _ (by rw[hE]; unfold aZU; simp only[go_sem,γ,δ,ε,ζ,η,θ,ι,κ,μ,ν,ξ,ο,ρ,σ,τ,υ,reduceIte,reduceCtorEq])
 rw[hpl] at h1
 rw[hE] at h1
 have b5:=h1.at 0 rfl
 have b4:=h1.at 2 rfl
 have key:∀ {s:Nat} {v:PV} {rows:List (List PV)},bL H3 s v rows→PV.one v=true:=by
  rintro s v rows (⟨_,rfl⟩ | ⟨q,rs,rfl,_⟩)<;>rfl
 have k1:=key (h1.own 0 rfl)
 have k2:=key (h1.own 1 rfl)
 have k3:=key (h1.own 2 rfl)
 have k4:=key (h1.own 3 rfl)
 have k5:PV.one w1=true:=by rw[hw1]; rfl
 have k6:PV.one w2=true:=by rw[hw2]; rfl
 simp only[PV.one] at k1 k2 k3 k4 k5 k6
 simp only[go_sem,γ,δ,ε,ζ,η,θ,ι,κ,μ,ν,ξ,ο,ρ,σ,τ,υ,reduceIte,reduceCtorEq,abL,f4,f5,b5,b4,bKJ,bLB,or_false,forall_eq,forall_eq_or_imp,k1,k2,k3,k4,k5,k6]
 have h2:=h1.set 2 rfl (flB (.int .i64 (1+nxM l 2 a:Nat)) w1 w2 wd wr wp wv)
 have h3:=h2.sub (B':=[(o,bG l (b+1+(1+nxM l vols b)))]) (bLR.cons _ (bLR.cons_cons _ (List.nil_sublist _))) (bLR.refl _)
 obtain⟨φ,H6,z1,z2,z3,z4⟩:=aQ.giveUp _ h3 (fun x hx=>by
  simp only[bKJ,bLB,or_false] at hx
  rcases hx with rfl | rfl | rfl | rfl
  ·exact aPI _
  ·exact aPK _
  ·exact aTZ _
  ·exact bpZ _) (fun b hb q s rs=>by
  simp only[bKJ,bLB,or_false] at hb
  subst hb
  rfl)
 refine amQ (vs:=[.agg [.int .i64 (1+nxM l 2 a:Nat),w1,w2,wd,wr,wp,wv]]) (.inr rfl) (by simp only[go_sem,γ,δ,ε,ζ,η,θ,ι,κ,μ,ν,ξ,ο,ρ,σ,τ,υ,reduceIte,reduceCtorEq,f4]) (z4 _ _ (.done (H2:=PH.nil.set o (bG l (b+1+(1+nxM l vols b)))) ?_ (PH.aI PH.nil_le (z3.at 0 rfl))))
 have hb2:s.a+2+6*(1+nxM l 2 s.a)=b+1:=by omega
 rw[hb2,← hb] at hT
 rw[hR,hT]
 refine⟨CoL.agg ?_,rfl⟩
 have s1:=z1 (wd,7,dK s.bIA) (by simp)
 have s2:=z1 (wr,3,eD s.bIO) (by simp)
 have s3:=z1 (wp,17,lC (gZ l (1+nxM l 2 s.a) (s.a+1))) (by simp)
 have s4:=z1 (wv,2,oS (kP l (1+nxM l 2 s.a) (1+nxM l vols b) (b+1))) (by simp)
 have s0:φ (.int .i64 (1+nxM l 2 a:Nat))=.int .i64 (1+nxM l 2 a:Nat):=z2 _ rfl
 have s5:φ w1=w1:=z2 _ (by rw[hw1]; rfl)
 have s6:φ w2=w2:=z2 _ (by rw[hw2]; rfl)
 show CoL [φ (.int .i64 (1+nxM l 2 a:Nat)),φ w1,φ w2,φ wd,φ wr,φ wp,φ wv] _
 rw[s0,s5,s6,hw1,hw2]
 exact CoL.cons (.refl _) (CoL.cons (.refl _) (CoL.cons (.refl _) (CoL.cons s1.co (CoL.cons s2.co (CoL.cons s3.co (CoL.cons s4.co .nil))))))
structure bqT (x:RF):Prop where
 lim:cG x=true
 ok:x.Ok
theorem SmF.o {x:RF} {a b:Nat} (h:SmF x a b):bqT x:=⟨h.lim,h.ok⟩
theorem ZI:SmF oF 0 1:=SmF.mk' (a:=0) (b:=1) (by decide) (by decide) (by decide)
theorem aIG {α:Type} {P:Nat→α→Prop} {xs:List α} {x:α} (h:∀ i (hi:i<xs.length),P i xs[i]) (hx:P xs.length x):∀ i (hi:i<(xs++[x]).length),P i (xs++[x])[i]:=by
 intro i hi
 by_cases hlt:i<xs.length
 ·rw[List.getElem_append_left hlt]; exact h i hlt
 ·rw[bKA,bKH] at hi
  have:i=xs.length:=by omega
  subst this
  rw[List.getElem_append_right Om]
  simpa using hx
theorem aOU {α:Type} {p:α→Bool} {l:List α} (h:∀ i (hi:i<l.length),p l[i]=true):l.all p=true:=by
 rw[bKQ]
 intro x hx
 obtain⟨i,hi,rfl⟩:=bMA hx
 exact h i hi
theorem eO {n lo hi:Int} (h1:lo≤n) (h2:n≤hi):within n lo hi=true:=within_iff.2 ⟨h1,h2⟩
abbrev lvs (ds:List bQ):List Int:=ds.map bQ.level
def bxW (ds:List bQ) (i:Nat) (d:bQ):Prop:=∃ lev p u:Nat,d.name=[aSB lev]++yQ (i+1)∧d.level=lev∧1≤lev∧lev≤4∧d.parent=p∧p≤i∧(lvs ds)[p]?=some ((lev:Int)-1)∧d.bIP=u∧1≤u∧u≤16∧bqT d.bIH
def bxY (ds:List bQ) (mc i:Nat) (d:cB):Prop:=∃ m c:Nat,d.name=[100]++yQ i∧d.model=m∧m<mc∧d.machine=c∧(lvs ds)[c]?=some 4
structure GV (mc bHP:Nat) (s:GS):Prop where
 len:s.bIA.length≤35
 bIO:s.bIO.length≤bHP
 root:s.bIA[0]?=some jC
 dom:∀ i (hi:i+1<s.bIA.length),bxW s.bIA i s.bIA[i+1]
 drv:∀ i (hi:i<s.bIO.length),bxY s.bIA mc i s.bIO[i]
theorem GV.a {mc bHP:Nat} {s:GS} (h:GV mc bHP s) (x:Nat):GV mc bHP { s with a:=x }:=⟨h.len,h.bIO,h.root,h.dom,h.drv⟩
theorem alS {ds:List bQ} {p:Nat} {x:Int} {t:List bQ} (h:(lvs ds)[p]?=some x):(lvs (ds++t))[p]?=some x:=by
 unfold lvs at *
 rw[bLW,bMH]
 ·exact h
 ·exact (bKV.1 h).1

def unM:List UInt8→Nat
 | [_,a,b]=>(a.toNat-97)*26+(b.toNat-97)
 | _=>0
theorem bkT:∀ k:Fin 100,fD (UInt8.ofNat (97+k.val/26%26)).toNat=true∧fD (UInt8.ofNat (97+k.val%26)).toNat=true∧unM (dM 0 k.val)=k.val:=by decide +kernel
theorem ZC (c:UInt8) {k:Nat} (hk:k<100):unM (dM c k)=k:=(bkT ⟨k,hk⟩).2.2
theorem YD {c:UInt8} (hc:eT c.toNat=true) {k:Nat} (hk:k<100):isName (dM c k)=true:=by
 obtain⟨h1,h2,-⟩:=bkT ⟨k,hk⟩
 simp only at h1 h2
 have hi:fD c.toNat=true:=by unfold fD; rw[hc]; rfl
 unfold dM isName
 simp only[bLU,bMD,List.all_cons,List.all_nil,hc,hi,h1,h2]
 rfl
def bxX (ds:List bQ) (i:Nat) (d:bQ):Prop:=∃ lev p u:Nat,d.name=dM 110 (i+1)∧d.level=lev∧1≤lev∧lev≤4∧d.parent=p∧p≤i∧(lvs ds)[p]?=some ((lev:Int)-1)∧d.bIP=u∧1≤u∧u≤64∧d.bIH=oF
def WK (ds:List bQ) (i:Nat) (d:cB):Prop:=∃ m c:Nat,d.name=dM 100 i∧d.model=m∧m<2∧d.machine=c∧(lvs ds)[c]?=some 4
structure DV (ds:List bQ):Prop where
 root:ds[0]?=some jC
 dom:∀ i (hi:i+1<ds.length),bxX ds i ds[i+1]
theorem DV.new {ds:List bQ} (h:DV ds) {level parent up:Nat} (h1:1≤level) (h4:level≤4) (hp:(lvs ds)[parent]?=some ((level:Int)-1)) (u1:1≤up) (u2:up≤64) :
  DV (dJ ds level parent up)∧(lvs (dJ ds level parent up))[ds.length]?=some (level:Int):=by
 have hpl:parent<ds.length:=by
  have:=(bKV.1 hp).1
  rwa [bJT] at this
 unfold dJ
 refine⟨⟨by rw[bMH Om]; exact h.root,fun i hi=>?_⟩,?_⟩
 ·simp only[bKA,bKH] at hi
  by_cases hlt:i+1<ds.length
  ·rw[List.getElem_append_left hlt]
   obtain⟨lev,p,v,g1,g2,g3,g4,g5,g6,g7,g8⟩:=h.dom i hlt
   exact⟨lev,p,v,g1,g2,g3,g4,g5,g6,alS g7,g8⟩
  ·have:i+1=ds.length:=by omega
   rw[List.getElem_append_right Om]
   simp only[List.getElem_singleton]
   exact⟨level,parent,up,by rw[this],rfl,h1,h4,rfl,by omega,alS hp,rfl,u1,u2,rfl⟩
 ·unfold lvs
  rw[bLW,bLS (by rw[bJT]; exact bJV _),bJT,bMI]
  rfl
theorem lM {ds:List bQ} {a b c p:Nat} {x:Int} (h:(lvs ds)[p]?=some x):(lvs (dJ ds a b c))[p]?=some x:=alS h
structure MV (k:Nat) (s:MS):Prop where
 dv:DV s.bIA
 drv:∀ i (hi:i<s.bIO.length),WK s.bIA i s.bIO[i]
 at_:0<k→(lvs s.bIA)[s.room]?=some 2∧(lvs s.bIA)[s.rack]?=some 3
theorem alA {ds ds':List bQ} {rs:List cB} (h:∀ i (hi:i<rs.length),WK ds i rs[i]) (hk:∀ (p:Nat) (x:Int),(lvs ds)[p]?=some x→(lvs ds')[p]?=some x):∀ i (hi:i<rs.length),WK ds' i rs[i]:=fun i hi=>by
 obtain⟨m,c,h1,h2,h3,h4,h5⟩:=h i hi
 exact⟨m,c,h1,h2,h3,h4,hk _ _ h5⟩
theorem bhH (l:List Int) (i:Nat) {s:MS} (h:MV i s):MV 1 (eK l i s):=by
 obtain⟨h1,h2,h3⟩:=h
 have key:∀ a,MV 1 ⟨dJ (dJ (dJ s.bIA 1 0 (16+nxM l 17 a)) 2 s.bIA.length (16+nxM l 17 (a+1))) 3 (dJ s.bIA 1 0 (16+nxM l 17 a)).length (8+nxM l 9 (a+2)),s.bIO,s.bIA.length,(dJ s.bIA 1 0 (16+nxM l 17 a)).length,(dJ (dJ s.bIA 1 0 (16+nxM l 17 a)) 2 s.bIA.length (16+nxM l 17 (a+1))).length,a+3⟩:=fun a=>by
  have n1:=cK l (show 0<17 by decide) a
  have n2:=cK l (show 0<17 by decide) (a+1)
  have n3:=cK l (show 0<9 by decide) (a+2)
  have r0:(lvs s.bIA)[0]?=some (((1:Nat):Int)-1):=by
   unfold lvs
   rw[bKZ,h1.root]; rfl
  obtain⟨d1,e1⟩:=h1.new (level:=1) (parent:=0) (up:=16+nxM l 17 a) (by decide) (by decide) r0 Om Om
  obtain⟨d2,e2⟩:=d1.new (level:=2) (parent:=s.bIA.length) (up:=16+nxM l 17 (a+1)) (by decide) (by decide) e1 Om Om
  obtain⟨d3,e3⟩:=d2.new (level:=3) (parent:=(dJ s.bIA 1 0 (16+nxM l 17 a)).length) (up:=8+nxM l 9 (a+2)) (by decide) (by decide) e2 Om Om
  exact⟨d3,alA h2 fun p x hx=>lM (lM (lM hx)),fun _=>⟨lM e2,e3⟩⟩
 unfold eK
 simp only
 split
 ·exact key _
 ·rename_i hi
  obtain⟨g1,g2⟩:=h3 Om
  split
  ·exact key _
  ·split
   ·have n3:=cK l (show 0<9 by decide) (s.a+2)
    obtain⟨d3,e3⟩:=h1.new (level:=3) (parent:=s.room) (up:=8+nxM l 9 (s.a+2)) (by decide) (by decide) g1 Om Om
    exact⟨d3,alA h2 fun p x hx=>lM hx,fun _=>⟨lM g1,e3⟩⟩
   ·exact⟨h1,h2,fun _=>⟨g1,g2⟩⟩
theorem a6O (l:List Int) {ds:List bQ} {m:Nat} (hm:(lvs ds)[m]?=some 4):∀ (k:Nat) (s:List cB × Nat),(∀ i (hi:i<s.1.length),WK ds i s.1[i])→∀ i (hi:i<(iY l m k s).1.length),WK ds i (iY l m k s).1[i]
 | 0,s,h=>h
 | k+1,s,h=>by
  rw[iY]
  split
  ·refine a6O l hm k _ (aIG (P:=fun i (x:cB)=>WK ds i x) h ⟨_,m,rfl,rfl,?_,rfl,hm⟩)
   split<;>decide
  ·exact h
theorem bnP (l:List Int) (i:Nat) {s:MS} (h:MV i s):MV (i+1) (yT l i s):=by
 obtain⟨h1,h2,h3⟩:=bhH l i h
 obtain⟨g1,g2⟩:=h3 (by decide)
 have n3:=cK l (show 0<9 by decide) (eK l i s).a
 obtain⟨d3,e3⟩:=h1.new (level:=4) (parent:=(eK l i s).rack) (up:=8+nxM l 9 (eK l i s).a) (by decide) (by decide) g2 Om Om
 unfold yT
 simp only
 exact⟨d3,a6O l e3 _ _ (alA h2 fun p x hx=>lM hx),fun _=>⟨lM g1,lM g2⟩⟩
theorem aDQ (l:List Int) (a:Nat):∀ k,MV k (eH l ⟨[jC],[],0,0,0,a⟩ k)
 | 0=>⟨⟨rfl,fun i hi=>absurd hi (by simp[eH])⟩,fun i hi=>absurd hi (by simp[eH]),fun h=>absurd h Om⟩
 | k+1=>bnP l k (aDQ l a k)
theorem blN {ds:List bQ} (h:DV ds) (hl:ds.length≤100) (f:aK) (hf:f.bHS=ds):mJ f=true:=by
 have hr:=h.root
 have hdom:=h.dom
 unfold mJ
 rw[hf]
 cases hdm:ds with
 | nil=>rw[hdm] at hr; cases hr
 | cons r t =>
  rw[hdm] at hr
  have:r=jC:=by simpa using hr
  subst this
  show yF f jC t=true
  unfold yF
  simp only[bKR]
  refine⟨⟨⟨⟨⟨⟨rfl,rfl⟩,rfl⟩,rfl⟩,ZI.lim⟩,by rw[show jC.bIH=oF from rfl,ZI.zero]; rfl⟩,?_⟩
  rw[bKQ]
  intro i hi
  rw[bLI] at hi
  rw[bKD hi]
  obtain⟨lev,p,u,h1,h2,h3,h4,h5,h6,h7,h8,h9,h10,h11⟩:=hdom i (by rw[hdm]; simp; omega)
  have e:ds[i+1]'(by rw[hdm]; simp; omega)=t[i]:=by simp[hdm]
  rw[e] at h1 h2 h5 h8 h11
  show FS f i t[i]=true
  unfold FS
  simp only[bKR]
  refine⟨⟨⟨⟨?_,?_⟩,?_⟩,?_⟩,by rw[h11]; exact ZI.lim⟩
  ·rw[h5]; exact eO Om Om
  ·rw[h5,h2,hf,bMX,bKO,h7,aiW Om Om]
   exact decide_eq_true rfl
  ·rw[h2]; exact eO Om Om
  ·rw[h8]; exact eO Om Om
theorem bfA {ds:List bQ} {rs:List cB} (h:DV ds) (hr:∀ i (hi:i<rs.length),WK ds i rs[i]) (l1:ds.length≤90) (l2:rs.length≤90):distinct ((ds.drop 1).map bQ.name++rs.map cB.name)=true:=by
 have hA:∀ i (hi:i<((ds.drop 1).map bQ.name).length),((ds.drop 1).map bQ.name)[i]=dM 110 (i+1):=by
  intro i hi
  rw[bJT,bLV] at hi
  obtain⟨lev,p,u,h1,-⟩:=h.dom i Om
  rw[bMC,List.getElem_drop]
  simp only[Nat.add_comm 1 i]
  exact h1
 have hB:∀ i (hi:i<(rs.map cB.name).length),(rs.map cB.name)[i]=dM 100 i:=by
  intro i hi
  rw[bJT] at hi
  obtain⟨m,c,h1,-⟩:=hr i hi
  rw[bMC]; exact h1
 have lA:((ds.drop 1).map bQ.name).length≤90:=by rw[bJT,bLV]; omega
 have lB:(rs.map cB.name).length≤90:=by rw[bJT]; omega
 generalize (ds.drop 1).map bQ.name=A at *
 generalize rs.map cB.name=B at *
 refine TE ?_ ?_
 ·intro x hx
  rcases bLH.1 hx with hx | hx
  ·obtain⟨i,hi,rfl⟩:=bMA hx
   rw[hA i hi]
   exact YD (by decide) Om
  ·obtain⟨i,hi,rfl⟩:=bMA hx
   rw[hB i hi]
   exact YD (by decide) Om
 ·rw[bME]
  refine⟨NR (g:=fun s=>unM s-1) fun i hi=>?_,NR (g:=unM) fun i hi=>?_,fun x hx y hy e=>?_⟩
  ·rw[hA i hi,ZC _ Om]; omega
  ·rw[hB i hi]; exact ZC _ Om
  ·obtain⟨i,hi,rfl⟩:=bMA hx
   obtain⟨j,hj,rfl⟩:=bMA hy
   rw[hA i hi,hB j hj] at e
   exact absurd (List.cons.inj e).1 (by decide)
theorem aCT:cG (mkT 1 2)=true∧bZ (mkT 1 2)=true:=by decide +kernel
theorem XG:cG (mkT 1 1000)=true∧rW (mkT 1 1000)=true∧cG (mkT 30 1)=true:=by decide +kernel
theorem bsE (l:List Int) (n a:Nat):jB 2 (oI l n a)=true:=by
 have n1:=cK l (show 0<2 by decide) a
 have n2:=cK l (show 0<3 by decide) (a+1)
 have n3:=cK l (Om:0<nxM l 3 (a+1)+1) (a+2)
 have n4:=cK l (show 0<4 by decide) (a+3)
 have n5:=cK l (show 0<3 by decide) (a+4)
 unfold oI jB HO yX
 simp only[bKR,List.all_cons,List.all_nil,bLT]
 refine⟨⟨⟨⟨⟨⟨⟨⟨eO Om Om,eO Om Om⟩,decide_eq_true Om⟩,eO Om Om⟩,rfl⟩,eO Om Om,eO Om Om,eO Om Om,eO Om Om,eO Om Om⟩,?_⟩,⟨⟨⟨decide_eq_true (by rw[bNI]; omega),?_⟩,XG.1⟩,XG.2.1⟩,XG.2.2⟩,?_⟩
 ·split<;>rfl
 ·rw[bKQ]
  intro x hx
  rw[List.eq_of_mem_replicate hx,aCT.1,aCT.2]
  rfl
 ·split<;>decide
theorem YT (l:List Int):∀ n a i (hi:i<(gZ l n a).length),(gZ l n a)[i].name=dM 112 (n-i)∧jB 2 (gZ l n a)[i]=true
 | 0,_,i,hi=>by cases hi
 | n+1,a,0,_=>⟨rfl,bsE l _ _⟩
 | n+1,a,i+1,hi=>by
  have:=YT l n (a+6) i (by simpa [gZ] using hi)
  simp only[gZ,List.getElem_cons_succ]
  rw[show n+1-(i+1)=n-i by omega]
  exact this
theorem aLV (l:List Int) (p:Nat):∀ n a i (hi:i<(kP l p n a).length),(kP l p n a)[i].name=dM 118 (n-i)
 | 0,_,i,hi=>by cases hi
 | n+1,a,0,_=>rfl
 | n+1,a,i+1,hi=>by
  have:=aLV l p n (a+1) i (by simpa [kP] using hi)
  simp only[kP,List.getElem_cons_succ]
  rw[show n+1-(i+1)=n-i by omega]
  exact this
theorem KU {l:List (List UInt8)} {c:UInt8} (hc:eT c.toNat=true) (hn:l.length≤90) (h:∀ i (hi:i<l.length),l[i]=dM c (l.length-i)):distinct l=true:=by
 refine TE (fun x hx=>?_) (NR (g:=fun s=>l.length-unM s) fun i hi=>?_)
 ·obtain⟨i,hi,rfl⟩:=bMA hx
  rw[h i hi]; exact YD hc Om
 ·rw[h i hi,ZC _ Om]; omega
theorem brG:∀ x:Fin 100,jZ ⟨[100,105,115,107],[mkT 1 1],[[mkT 0 1]],[mkT 1 ((100+x.val:Nat):Int)]⟩=true:=by decide +kernel
theorem wQ (l:List Int) {bHR:Nat} (hv:bHR≤11) (a:Nat):dL (dD l bHR a).1=true:=by
 obtain⟨F,hvl,-,-⟩:=yJ l (bHR:=bHR) Om a
 have n3:=cK l (show 0<3 by decide) (a+6)
 have hM:=oQ l (aeF (a+7)) (3+nxM l 3 (a+6)) Om
 have hV:=aDQ l (a+7) (3+nxM l 3 (a+6))
 have hd:=F.bHP
 have hvo:=F.vols
 have hp:=F.pols
 unfold dD at hd hvl hvo hp ⊢
 simp only at hd hvl hvo hp ⊢
 generalize eH l ⟨[jC],[],0,0,0,a+7⟩ (3+nxM l 3 (a+6))=s at *
 have e1:=cK l (show 0<2 by decide) a
 have e2:=cK l (show 0<2 by decide) (a+2)
 have e3:=cK l (show 0<9 by decide) (a+3)
 have e4:=cK l (show 0<3 by decide) (a+4)
 have e5:=cK l (show 0<9 by decide) (a+5)
 have e6:=cK l (show 0<100 by decide) (a+1)
 have hlen:=hM.len
 have e7:=cK l (show 0<2 by decide) s.a
 have hdv:=hM.dlen
 unfold dL
 rw[blN hV.dv Om _ rfl]
 simp only[bKR,bLT]
 refine⟨⟨?_,⟨⟨⟨⟨?_,?_⟩,?_⟩,?_⟩,?_⟩⟩,⟨⟨⟨(show distinct [[100,105,115,107]]=true by decide +kernel),(show distinct [[98,105,103],[111,108,100]]=true by decide +kernel)⟩,bfA hV.dv hV.drv Om Om⟩,?_⟩,?_⟩
 ·unfold lH
  simp only[bKR]
  exact⟨⟨⟨⟨⟨⟨eO Om Om,rfl⟩,rfl⟩,decide_eq_true Om⟩,decide_eq_true Om⟩,decide_eq_true Om⟩,decide_eq_true Om⟩
 ·simp only[List.all_cons,List.all_nil,bLT]
  exact brG ⟨_,e6⟩
 ·simp only[List.all_cons,List.all_nil,bLT,bKR,jF]
  exact⟨⟨⟨eO Om Om,eO Om Om⟩,rfl⟩,⟨eO Om Om,eO Om Om⟩,rfl⟩
 ·refine aOU fun i hi=>?_
  obtain⟨m,c,-,h2,h3,h4,h5⟩:=hV.drv i hi
  have hc:=(bKV.1 h5).1
  rw[bJT] at hc
  unfold gQ
  simp only[bKR]
  rw[h2,h4,bMX,bKO,h5]
  exact⟨⟨eO Om (by simp only[bLU,bMD]; omega),eO Om Om⟩,rfl⟩
 ·exact aOU fun i hi=>(YT l _ _ i hi).2
 ·rw[bKQ]
  intro x hx
  have:=hvo x hx
  exact eO this.1 (show x.bID≤((gZ l (1+nxM l 2 s.a) (s.a+1)).length:Int)-1 by omega)
 ·refine KU (c:=112) (by decide) (by rw[bJT]; omega) fun i hi=>?_
  have h1:=(YT l _ _ i (by simpa using hi)).1
  rw[bMC,h1,bJT,pU]
 ·refine KU (c:=118) (by decide) (by rw[bJT]; omega) fun i hi=>?_
  have h1:=aLV l _ _ _ i (by simpa using hi)
  rw[bMC,h1,bJT,zJ]


theorem CoL.brZ:CoL [] []:=⟨rfl,fun j p q h=>by simp at h⟩
theorem CoL.awK {p q:PV} {ps qs:List PV} (h:Co p q) (hs:CoL ps qs):CoL (p::ps) (q::qs):=by
 refine⟨by simp[hs.len],fun j x y a b=>?_⟩
 cases j with
 | zero =>
  simp only[List.getElem?_cons_zero,bMN.injEq] at a b
  subst a; subst b; exact h
 | succ j=>exact hs.at_ j x y (by simpa using a) (by simpa using b)
theorem aE.a2U {C:Ctx} {name:Nat} {R:PV→PH→Prop} {x:PV} {s:Nat} (h:aE C name [x,.sl s []] .nil R):aE C name [x,.aB] .nil R :=
 h.args (.awK (.refl _) (.awK (.nil s) .brZ))
theorem aE.seen {C:Ctx} {name:Nat} {args:List PV} {H:PH} {v:PV} (h:aE C name args H (bY v)):aE C name args H (aD v) :=
 h.post fun r H' hr=>⟨v,hr.1,rfl,hr.2⟩
theorem biG {C:Ctx} (f:aK) (hv:VF f) (v:Nat) (h:v<f.bHR.length) :
  IC.wp C (aT afR.res (bY (.int .i64 (fC f v)))) (PF.args [.agg f.cells,.int .i64 v]) .nil:=by
 obtain⟨hp,he⟩:=sA hv h
 have hpol:=hv.bID _ (bJX hp)
 rw[he] at hpol
 have hw:IntKind.i64.wrap ((fE f v).k+(fE f v).m)=(fE f v).k+(fE f v).m:=wrap_i64 Om Om
 simp only[go_sem,γ,δ,ε,ζ,η,θ,ι,κ,μ,ν,ξ,ο,ρ,σ,τ,υ,reduceIte,reduceCtorEq,IC,aIA,afR]
 refine bR .nil eG PH.nil_le ?_
 simp only[go_sem,γ,δ,ε,ζ,η,θ,ι,κ,μ,ν,ξ,ο,ρ,σ,τ,υ,reduceIte,reduceCtorEq,aIB,vC h,hv.afD h,oR hp,he]
 refine aR fun o ho=>?_
 simp only[go_sem,γ,δ,ε,ζ,η,θ,ι,κ,μ,ν,ξ,ο,ρ,σ,τ,υ,reduceIte,reduceCtorEq,aIC,hw]
 refine⟨PH.nil_le,?_⟩
 exact kW (n:=(fE f v).k+(fE f v).m) Ev rfl
abbrev iiv (l:List Int):List (List PV):=l.map fun x=>[PV.int .i64 x]
abbrev oP (l:List (List Int)):List (List PV):=l.map fun r=>[ints r]
theorem bnO (l:List (List Int)):Flat (oP l):=qZ fun r hr c hc=>by
 obtain⟨x,_,rfl⟩:=bKX.1 hr
 rw[bLD] at hc
 subst hc
 rfl
theorem exactly {C:Ctx} {name:Nat} {args:List PV} {H H2:PH} {v:PV} (h:aE C name args H (fun r H'=>Co r v∧H'=H2)):aE C name args H (fun r H'=>r=v∧H'=H2) :=
 h.post fun r H' hr=>⟨_,hr.1,rfl,hr.2⟩
structure tU (f:aK) (L:List (List Int)):Prop where
 len:L.length=f.bHR.length
 row:∀ v (h:v<L.length),((L[v].length:Nat):Int)=fC f v
 home:∀ r∈L,∀ x∈r,-1≤x∧x<f.bHP.length
theorem tU.bvI {f:aK} {L:List (List Int)} (h:tU f L) (hV:VF f):∀ k,k≤L.length→(L.take k).flatten.length≤k*8:=by
 have hl:=h.len
 intro k
 induction k with
 | zero=>intro _; simp
 | succ k ih =>
  intro hk
  rw[MN L hk,bKA]
  have h1:=ih Om
  have h2:=h.row k hk
  obtain⟨hp,he⟩:=sA hV (Om:k<f.bHR.length)
  have hpol:=hV.bID _ (bJX hp)
  rw[he] at hpol
  unfold fC at h2
  omega
theorem tU.ok {f:aK} (hV:VF f) {L:List (List Int)} (h:tU f L):fI L:=by
 have hv:=hV.small.bHR
 have hl:=h.len
 have:=h.bvI hV L.length (bJV _)
 rw[bKS] at this
 exact⟨by omega,by omega⟩

section
variable {H:PH} {B:List BX} {L:List LI}
end
theorem TO {p:Int→Bool}:∀ {l:List Int} {i:Nat},(∀ x∈l,p x=false)→fV p l i=none
 | [],_,_=>rfl
 | y::t,i,h=>by
  rw[fV,h y (by simp),if_neg (by decide)]
  exact TO fun x hx=>h x (by simp[hx])
theorem tU.shape {f:aK} {L:List (List Int)} (h:tU f L) {v:Nat} (hv:v<L.length):lZ f L v=none:=by
 have e:L.getD v []=L[v]:=by simp[bKO,hv]
 unfold lZ
 rw[e,if_pos (h.row v hv),TO]
 ·rfl
 ·intro x hx
  have:=h.home _ (bJX hv) x hx
  simp[jS]
  omega
theorem aoQ (l:List Int) (m:Nat):∀ (k:Nat) (s:List cB × Nat),s.1.length≤(iY l m k s).1.length
 | 0,s=>bJV _
 | k+1,s=>by
  rw[iY]
  split
  ·have:=aoQ l m k (s.1++[⟨dM 100 s.1.length,((if nxM l 4 s.2=0 then 1 else 0:Nat):Int),(m:Nat)⟩],s.2+1)
   simp only[bKA,bKH] at this
   omega
  ·exact bJV _
theorem beZ (l:List Int) (m k:Nat) (s:List cB × Nat):1≤(iY l m (k+1) s).1.length:=by
 rw[iY]
 split
 ·have:=aoQ l m k (s.1++[⟨dM 100 s.1.length,((if nxM l 4 s.2=0 then 1 else 0:Nat):Int),(m:Nat)⟩],s.2+1)
  simp only[bKA,bKH] at this
  omega
 ·omega
theorem a1L (l:List Int) (s:MS) (k:Nat):1≤(eH l s (k+1)).bIO.length:=by
 rw[eH]
 unfold yT
 simp only
 rw[show 1+nxM l 2 ((eK l k (eH l s k)).a+1)=nxM l 2 ((eK l k (eH l s k)).a+1)+1 by omega]
 exact beZ l _ _ _
theorem acG (l:List Int) (bHR a:Nat):1≤(dD l bHR a).1.bHP.length:=by
 unfold dD
 simp only
 rw[show 3+nxM l 3 (a+6)=(2+nxM l 3 (a+6))+1 by omega]
 exact a1L l _ _
theorem azR (row:List Int) {n:Nat} (hn:0<n):∀ k d,d<n→oW row n k d<n
 | 0,d,h=>h
 | k+1,d,h=>by
  rw[oW]
  split
  ·exact azR row hn k _ (bLJ _ hn)
  ·exact h
theorem bfX (l:List Int) (row:List Int) {n:Nat} (hn:0<n) (a:Nat):-1≤(uR l row n a).1∧(uR l row n a).1<n:=by
 have:=azR row hn n (nxM l n a) (cK l hn a)
 unfold uR
 simp only
 split
 ·simp only; omega
 ·split<;>simp only<;>omega
theorem aUP (l:List Int) {n:Nat} (hn:0<n) (a:Nat):∀ k,∀ x∈(jP l n a k).1,-1≤x∧x<n
 | 0,x,h=>by cases h
 | k+1,x,h=>by
  rw[jP] at h
  simp only[bLH,bLD] at h
  rcases h with h | rfl
  ·exact aUP l hn a k x h
  ·exact bfX l _ hn _
theorem apS (l:List Int) {f:aK} (hf:FM f) (h0:1≤f.bHP.length) (a:Nat):∀ k,k≤f.bHR.length →
  (∀ v (h:v<(cY l f a k).1.length),(((cY l f a k).1[v].length:Nat):Int)=fC f v)∧∀ r∈(cY l f a k).1,∀ x∈r,-1≤x∧x<f.bHP.length
 | 0,_=>⟨fun v h=>absurd h (by simp[cY]),fun r h=>by cases h⟩
 | k+1,hk=>by
  obtain⟨h1,h2⟩:=apS l hf h0 a k Om
  obtain⟨k1,-,-,-⟩:=qR l hf a k Om
  have hfr:=hf.WY (v:=k) Om
  obtain⟨r1,-,-⟩:=DP l f.bHP.length (cY l f a k).2 (fC f k).toNat
  rw[cY]
  simp only
  refine⟨aIG (P:=fun v (r:List Int)=>((r.length:Nat):Int)=fC f v) h1 ?_,fun r hr=>?_⟩
  ·rw[k1,r1]; omega
  ·rw[bLH,bLD] at hr
   rcases hr with hr | rfl
   ·exact h2 r hr
   ·exact aUP l Om _ _
theorem a7M (l:List Int) (bHR a b:Nat) (hv:bHR≤1000):tU (dD l bHR a).1 (cY l (dD l bHR a).1 b (dD l bHR a).1.bHR.length).1:=by
 have hF:=(yJ l hv a).1
 obtain⟨h1,h2⟩:=apS l hF (acG l bHR a) b _ (bJV _)
 obtain⟨k1,-,-,-⟩:=qR l hF b _ (bJV _)
 exact⟨k1,h1,h2⟩
structure CQ (C:Ctx):Prop extends EF C where
 size:∀ (f:aK) (v:Nat),VF f→v<f.bHR.length→aE C 245 [.agg f.cells,.int .i64 v] .nil (aD (.int .i64 (fC f v)))
 has:∀ (l:List Int) (x:Int),l.length≤1000000000000000→aE C 247 [ints l,.int .i64 x] .nil (aD (.bool (l.contains x)))
theorem WA {C:Ctx} {F:PF} {H:PH} (Lb:CQ C) {row:List Int} (bIC:row.length≤1000) {q n:Nat} (hn:n=row.length) {x:Int} {args:List aP} {d:Option Nat} {K:PF→PH→Prop} (hO:bL H 1 (.osl q 1 0 n) (iiv row)) (ha:aP.evs F args=some [.osl q 1 0 n,.int .i64 x])
  (hk:K (F.put d (.bool (row.contains x))) H):fP C 247 args [] d K F H:=by
 obtain⟨rs,h1,h2,h3,h4⟩:=hO.id rfl
 subst hn
 rw[bJT] at h3 h4
 refine CG (.bool _) ?_ h1 ha hk
 rw[bLX,nJ h3,h4]
 exact Lb.has row x Om
def beQ (f:aK) (o:Nat) (w:PV) (v:Nat):PF:=((((PF.nil.set 0 (.ptr o 2 0 0)).set 3 (.bH f.cells)).set 5 (w)).set 6 (.int .i64 v))
def gD (f:aK) (o:Nat) (w:PV) (v q i:Nat):PF:=((((((PF.nil.set 0 (.ptr o 2 0 0)).set 3 (.bH f.cells)).set 5 (w)).set 6 (.int .i64 v)).set 7 (.osl q 1 0 i)).set 8 (.int .i64 i))
def aZZ (f:aK) (o:Nat) (w:PV) (v q i d j:Nat):PF:=((((((((PF.nil.set 0 (.ptr o 2 0 0)).set 3 (.bH f.cells)).set 5 (w)).set 6 (.int .i64 v)).set 7 (.osl q 1 0 i)).set 8 (.int .i64 i)).set 9 (.int .i64 d)).set 10 (.int .i64 j))
theorem beR {C:Ctx} (Lb:CQ C) (f:aK) (hd0:1≤f.bHP.length) (hd:f.bHP.length≤1000) (o:Nat) (w:PV) (v q i d0:Nat) (row:List Int) (hi:i=row.length) (bIC:row.length≤1000) (hdl:d0<f.bHP.length) (K:cN) (F:PF) (H:PH)
  (hF:(aZZ f o w v q i d0 0).le F) (hO:bL H 1 (.osl q 1 0 i) (iiv row))
  (hK:∀ F',(gD f o w v q i).le F'→F' 9=some (.int .i64 (oW row f.bHP.length f.bHP.length d0:Nat))→K (.exit 4) F' H) :
  aC.wp C (.loop zR) K F H:=by
 refine wp_loop (α:=Nat × Nat) (fun s=>aZZ f o w v q i s.2 s.1) (fun _=>H) (fun s=>s.1≤f.bHP.length∧s.2<f.bHP.length∧oW row f.bHP.length (f.bHP.length-s.1) s.2=oW row f.bHP.length f.bHP.length d0) (fun s=>f.bHP.length-s.1) (0,d0) ⟨bKF _,hdl,rfl⟩ hF PH.le_refl ?_
 rintro⟨j,d⟩ ⟨hj,hdd,hE⟩
 simp only at hj hdd hE ⊢
 simp only[go_sem,γ,δ,ε,ζ,η,θ,ι,κ,μ,ν,ξ,ο,ρ,σ,τ,υ,reduceIte,reduceCtorEq,zR,abW,aZZ,bJT]
 by_cases hlt:j<f.bHP.length
 ·have bHW:(j:Int)<(f.bHP.length:Nat):=by omega
  simp only[go_sem,γ,δ,ε,ζ,η,θ,ι,κ,μ,ν,ξ,ο,ρ,σ,τ,υ,reduceIte,reduceCtorEq,bHW]
  refine WA Lb (x:=(d:Nat)) bIC hi hO rfl ?_
  obtain⟨k,hk⟩:∃ k,f.bHP.length-j=k+1:=⟨f.bHP.length-j-1,by omega⟩
  rw[hk,oW] at hE
  cases hc:row.contains ((d:Nat):Int) with
  | true =>
   rw[hc,if_pos rfl] at hE
   have hz:¬ ((f.bHP.length:Nat):Int)=0:=by omega
   have em:Int.tmod ((d+1:Nat):Int) (f.bHP.length:Nat)=(((d+1)%f.bHP.length:Nat):Int):=Int.ofNat_tmod _ _
   simp only[go_sem,γ,δ,ε,ζ,η,θ,ι,κ,μ,ν,ξ,ο,ρ,σ,τ,υ,reduceIte,reduceCtorEq,TG,bJT,wZz d,hz,em,TH,wZz j]
   refine aH (j+1,(d+1)%f.bHP.length) ⟨hlt,bLJ _ Om,?_⟩ (by simp only; omega) Lq PH.le_refl
   simp only
   rw[show f.bHP.length-(j+1)=k by omega]
   exact hE
  | false =>
   rw[hc,if_neg (by simp)] at hE
   simp only[go_sem,γ,δ,ε,ζ,η,θ,ι,κ,μ,ν,ξ,ο,ρ,σ,τ,υ,reduceIte,reduceCtorEq]
   refine hK _ ?_ ?_
   ·unfold gD
    exact Lq
   ·rw[← hE]; simp only[go_sem,γ,δ,ε,ζ,η,θ,ι,κ,μ,ν,ξ,ο,ρ,σ,τ,υ,reduceIte,reduceCtorEq]
 ·have bHW:¬ (j:Int)<(f.bHP.length:Nat):=by omega
  have hz:f.bHP.length-j=0:=by omega
  rw[hz,oW] at hE
  simp only[go_sem,γ,δ,ε,ζ,η,θ,ι,κ,μ,ν,ξ,ο,ρ,σ,τ,υ,reduceIte,reduceCtorEq,bHW]
  refine hK _ ?_ ?_
  ·unfold gD
   exact Lq
  ·rw[← hE]; simp only[go_sem,γ,δ,ε,ζ,η,θ,ι,κ,μ,ν,ξ,ο,ρ,σ,τ,υ,reduceIte,reduceCtorEq]
theorem blL {C:Ctx} (Lb:CQ C) {l:List Int} (T:TpM l) (o:Nat) (f:aK) (hV:VF f) (hd0:1≤f.bHP.length) (v:Nat) (hvl:v<f.bHR.length) (n:Nat) (hn:fC f v=n) (hn8:n≤8) (w:PV) (R:List (List PV)) (q0 a:Nat) (ha:a≤50000) (K:cN) (F:PF) (H:PH)
  (hF:(gD f o w v q0 0).le F) (hH:aQ H [(o,bG l a)] [(w,1,R),(.osl q0 1 0 0,1,iiv [])])
  (hK:∀ q F' H',(gD f o w v q n).le F'→aQ H' [(o,bG l (jP l f.bHP.length a n).2)] [(w,1,R),(.osl q 1 0 n,1,iiv (jP l f.bHP.length a n).1)]→K (.exit 2) F' H') :
  aC.wp C (.loop zS) K F H:=by
 have hd24:=hV.small.bHP
 refine wp_loop (α:=Nat × Nat × PH) (fun s=>gD f o w v s.2.1 s.1) (fun s=>s.2.2) (fun s=>s.1≤n∧aQ s.2.2 [(o,bG l (jP l f.bHP.length a s.1).2)] [(w,1,R),(.osl s.2.1 1 0 s.1,1,iiv (jP l f.bHP.length a s.1).1)]) (fun s=>n-s.1) (0,q0,H) ⟨bKF _,hH⟩ hF PH.le_refl ?_
 rintro⟨i,q,H0⟩ ⟨hi,hH⟩
 simp only at hi hH ⊢
 obtain⟨k1,k2,k3⟩:=DP l f.bHP.length a i
 have bHX:jP l f.bHP.length a (i+1)=((jP l f.bHP.length a i).1++[(uR l (jP l f.bHP.length a i).1 f.bHP.length (jP l f.bHP.length a i).2).1],(uR l (jP l f.bHP.length a i).1 f.bHP.length (jP l f.bHP.length a i).2).2):=rfl
 generalize hs:jP l f.bHP.length a i=s at *
 have hsz:=Lb.size f v hV hvl
 rw[hn] at hsz
 simp only[go_sem,γ,δ,ε,ζ,η,θ,ι,κ,μ,ν,ξ,ο,ρ,σ,τ,υ,reduceIte,reduceCtorEq,zS,abT,gD]
 refine aA hsz rfl ?_
 by_cases hlt:i<n
 ·have bHW:(i:Int)<(n:Nat):=by omega
  have nd:=cK l (Om:0<f.bHP.length) s.2
  have h11:(1:Nat)*1≤16777216:=by decide
  simp only[go_sem,γ,δ,ε,ζ,η,θ,ι,κ,μ,ν,ξ,ο,ρ,σ,τ,υ,reduceIte,reduceCtorEq,bHW,abU,bJT]
  refine cD Lb.toEF T (o:=o) (n:=f.bHP.length) (a:=s.2) Om Om rfl (hH.at 0 rfl) ?_
  have h1:=hH.set 0 rfl (bG l (s.2+1))
  simp only[go_sem,γ,δ,ε,ζ,η,θ,ι,κ,μ,ν,ξ,ο,ρ,σ,τ,υ,reduceIte,reduceCtorEq,abV]
  refine beR Lb f hd0 Om o w v q i (nxM l f.bHP.length s.2) s.1 k1.symm Om nd _ _ _ (by unfold aZZ; exact Lq) (h1.own 1 rfl) ?_
  intro F1 hF1 f9
  have f0:F1 0=some (.ptr o 2 0 0):=hF1 0 _ (by unfold gD; simp only[go_sem,γ,δ,ε,ζ,η,θ,ι,κ,μ,ν,ξ,ο,ρ,σ,τ,υ,reduceIte,reduceCtorEq])
  have f3:F1 3=some (.bH f.cells):=hF1 3 _ (by unfold gD; simp only[go_sem,γ,δ,ε,ζ,η,θ,ι,κ,μ,ν,ξ,ο,ρ,σ,τ,υ,reduceIte,reduceCtorEq])
  have f5:F1 5=some w:=hF1 5 _ (by unfold gD; simp only[go_sem,γ,δ,ε,ζ,η,θ,ι,κ,μ,ν,ξ,ο,ρ,σ,τ,υ,reduceIte,reduceCtorEq])
  have f6:F1 6=some (.int .i64 v):=hF1 6 _ (by unfold gD; simp only[go_sem,γ,δ,ε,ζ,η,θ,ι,κ,μ,ν,ξ,ο,ρ,σ,τ,υ,reduceIte,reduceCtorEq])
  have f7:F1 7=some (.osl q 1 0 i):=hF1 7 _ (by unfold gD; simp only[go_sem,γ,δ,ε,ζ,η,θ,ι,κ,μ,ν,ξ,ο,ρ,σ,τ,υ,reduceIte,reduceCtorEq])
  have f8:F1 8=some (.int .i64 i):=hF1 8 _ (by unfold gD; simp only[go_sem,γ,δ,ε,ζ,η,θ,ι,κ,μ,ν,ξ,ο,ρ,σ,τ,υ,reduceIte,reduceCtorEq])
  have hhome:uR l s.1 f.bHP.length s.2=if s.1.contains ((oW s.1 f.bHP.length f.bHP.length (nxM l f.bHP.length s.2):Nat):Int) then (-1,s.2+1) else if nxM l 12 (s.2+1)=0 then (-1,s.2+2) else (((oW s.1 f.bHP.length f.bHP.length (nxM l f.bHP.length s.2):Nat):Int),s.2+2):=rfl
  generalize oW s.1 f.bHP.length f.bHP.length (nxM l f.bHP.length s.2)=d at *
  have fin:∀ (x:Int) (b:Nat) (F':PF) (H':PH),uR l s.1 f.bHP.length s.2=(x,b)→(gD f o w v q i).le F'→F' 9=some (.int .i64 x)→aQ H' [(o,bG l b)] [(w,1,R),(.osl q 1 0 i,1,iiv s.1)] →
    aC.wp C (.region zU) (dW 3 (iD C (aC.wp C (.region zV)) (eE (fun s:Nat × Nat × PH=>gD f o w v s.2.1 s.1) (fun s=>s.2.2) (fun s=>s.1≤n∧aQ s.2.2 [(o,bG l (jP l f.bHP.length a s.1).2)] [(w,1,R),(.osl s.2.1 1 0 s.1,1,iiv (jP l f.bHP.length a s.1).1)]) (fun s=>n-s.1) (n-i) K))) F' H':=by
   intro x b F' H' hx hF' g9 hH'
   have g0:F' 0=some (.ptr o 2 0 0):=hF' 0 _ (by unfold gD; simp only[go_sem,γ,δ,ε,ζ,η,θ,ι,κ,μ,ν,ξ,ο,ρ,σ,τ,υ,reduceIte,reduceCtorEq])
   have g3:F' 3=some (.bH f.cells):=hF' 3 _ (by unfold gD; simp only[go_sem,γ,δ,ε,ζ,η,θ,ι,κ,μ,ν,ξ,ο,ρ,σ,τ,υ,reduceIte,reduceCtorEq])
   have g5:F' 5=some w:=hF' 5 _ (by unfold gD; simp only[go_sem,γ,δ,ε,ζ,η,θ,ι,κ,μ,ν,ξ,ο,ρ,σ,τ,υ,reduceIte,reduceCtorEq])
   have g6:F' 6=some (.int .i64 v):=hF' 6 _ (by unfold gD; simp only[go_sem,γ,δ,ε,ζ,η,θ,ι,κ,μ,ν,ξ,ο,ρ,σ,τ,υ,reduceIte,reduceCtorEq])
   have g7:F' 7=some (.osl q 1 0 i):=hF' 7 _ (by unfold gD; simp only[go_sem,γ,δ,ε,ζ,η,θ,ι,κ,μ,ν,ξ,ο,ρ,σ,τ,υ,reduceIte,reduceCtorEq])
   have g8:F' 8=some (.int .i64 i):=hF' 8 _ (by unfold gD; simp only[go_sem,γ,δ,ε,ζ,η,θ,ι,κ,μ,ν,ξ,ο,ρ,σ,τ,υ,reduceIte,reduceCtorEq])
   simp only[go_sem,γ,δ,ε,ζ,η,θ,ι,κ,μ,ν,ξ,ο,ρ,σ,τ,υ,reduceIte,reduceCtorEq,zU,g7,g9,h11]
   refine hH'.append 1 (src:=[[.int .i64 x]]) rfl rfl (by unfold roomFor; rw[bJT,k1]; simp only[bKH,maxLen]; omega) fun w' H2 h5 hw=>?_
   obtain⟨z,rfl⟩:=hw (by simp)
   have e:iiv s.1++[[PV.int .i64 x]]=iiv (s.1++[x]):=by simp[iiv]
   have el:(iiv s.1++[[PV.int .i64 x]]).length=i+1:=by simp[k1]
   rw[el] at h5
   rw[el]
   simp only[go_sem,γ,δ,ε,ζ,η,θ,ι,κ,μ,ν,ξ,ο,ρ,σ,τ,υ,reduceIte,reduceCtorEq,zV,g8,wZz i]
   refine aH (i+1,z,H2) ⟨hlt,?_⟩ (by simp only; omega) ?_ PH.le_refl
   ·simp only
    rw[bHX,hx,← e]
    exact h5
   ·unfold gD
    exact Lq
  simp only[aC.wp,go_sem] at fin
  simp only[go_sem,γ,δ,ε,ζ,η,θ,ι,κ,μ,ν,ξ,ο,ρ,σ,τ,υ,reduceIte,reduceCtorEq,TI,f7,f9]
  refine WA Lb (x:=(d:Nat)) Om k1.symm (h1.own 1 rfl) rfl ?_
  cases hc:s.1.contains ((d:Nat):Int) with
  | true =>
   rw[hc,if_pos rfl] at hhome
   simp only[go_sem,γ,δ,ε,ζ,η,θ,ι,κ,μ,ν,ξ,ο,ρ,σ,τ,υ,reduceIte,reduceCtorEq,zT]
   refine fin (-1) (s.2+1) _ _ hhome ?_ rfl h1
   unfold gD
   exact Lq
  | false =>
   rw[hc,if_neg (by simp)] at hhome
   simp only[go_sem,γ,δ,ε,ζ,η,θ,ι,κ,μ,ν,ξ,ο,ρ,σ,τ,υ,reduceIte,reduceCtorEq,f0]
   refine cD Lb.toEF T (o:=o) (n:=12) (a:=s.2+1) (by decide) Om rfl (h1.at 0 rfl) ?_
   have h2:=h1.set 0 rfl (bG l (s.2+2))
   by_cases c:nxM l 12 (s.2+1)=0
   ·rw[if_pos c] at hhome
    simp only[go_sem,γ,δ,ε,ζ,η,θ,ι,κ,μ,ν,ξ,ο,ρ,σ,τ,υ,reduceIte,reduceCtorEq,bO (show ((nxM l 12 (s.2+1):Nat):Int)=0 by omega),zT]
    refine fin (-1) (s.2+2) _ _ hhome ?_ rfl (by rw[PH.set_set] at h2; exact h2)
    unfold gD
    exact Lq
   ·rw[if_neg c] at hhome
    simp only[go_sem,γ,δ,ε,ζ,η,θ,ι,κ,μ,ν,ξ,ο,ρ,σ,τ,υ,reduceIte,reduceCtorEq,bB (show ((nxM l 12 (s.2+1):Nat):Int)≠0 by omega)]
    refine fin d (s.2+2) _ _ hhome ?_ (by simp only[go_sem,γ,δ,ε,ζ,η,θ,ι,κ,μ,ν,ξ,ο,ρ,σ,τ,υ,reduceIte,reduceCtorEq,f9]) (by rw[PH.set_set] at h2; exact h2)
    unfold gD
    exact Lq
 ·have bHW:¬ (i:Int)<(n:Nat):=by omega
  have:i=n:=by omega
  subst this
  simp only[go_sem,γ,δ,ε,ζ,η,θ,ι,κ,μ,ν,ξ,ο,ρ,σ,τ,υ,reduceIte,reduceCtorEq,bHW]
  refine hK q _ _ ?_ (by rw[hs]; exact hH)
  unfold gD
  exact Lq

def bkC (l:List Int) (o a:Nat) (f:aK) (r:PV) (H:PH):Prop:=Co r (lay (cY l f a f.bHR.length).1)∧H=PH.nil.set o (bG l (cY l f a f.bHR.length).2)
theorem aZX {C:Ctx} (Lb:CQ C) {l:List Int} (T:TpM l) (o a:Nat) (ha:a≤10000) (f:aK) (hF:FM f) (hV:VF f) (hd0:1≤f.bHP.length) :
  wO.wp C (aT CY.res (bkC l o a f)) (PF.args [.ptr o 2 0 0,.agg f.cells]) (PH.nil.set o (bG l a)):=by
 have hvl:=hV.small.bHR
 have h0:aQ (PH.nil.set o (bG l a)) [(o,bG l a)] [(.aB,1,oP [])]:=(aQ.nil.new (H:=PH.nil) rfl (bG l a)).mF 1
 have hR:∀ r H,bkC l o a f r H↔Co r (lay (cY l f a f.bHR.length).1)∧H=PH.nil.set o (bG l (cY l f a f.bHR.length).2):=fun _ _=>Iff.rfl
 simp only[go_sem,γ,δ,ε,ζ,η,θ,ι,κ,μ,ν,ξ,ο,ρ,σ,τ,υ,reduceIte,reduceCtorEq,wO,abN,CY,abO,abP]
 refine wp_loop (α:=Nat × PV × PH) (fun s=>beQ f o s.2.1 s.1) (fun s=>s.2.2) (fun s=>s.1≤f.bHR.length∧aQ s.2.2 [(o,bG l (cY l f a s.1).2)] [(s.2.1,1,oP (cY l f a s.1).1)]) (fun s=>f.bHR.length-s.1) (0,.aB,_) ⟨bKF _,h0⟩ ?_ PH.le_refl ?_
 ·unfold beQ
  exact Lq
 rintro⟨i,w,H0⟩ ⟨hi,hH⟩
 simp only at hi hH ⊢
 obtain⟨k1,-,k3,k4⟩:=qR l hF a i hi
 simp only[go_sem,γ,δ,ε,ζ,η,θ,ι,κ,μ,ν,ξ,ο,ρ,σ,τ,υ,reduceIte,reduceCtorEq,TF,abQ,beQ,bJT]
 by_cases hlt:i<f.bHR.length
 ·have bHW:(i:Int)<(f.bHR.length:Nat):=by omega
  have hfr:=hF.WY hlt
  obtain⟨n,hn⟩:∃ n:Nat,fC f i=n:=⟨(fC f i).toNat,by omega⟩
  have bHX:cY l f a (i+1)=((cY l f a i).1++[(jP l f.bHP.length (cY l f a i).2 (fC f i).toNat).1],(jP l f.bHP.length (cY l f a i).2 (fC f i).toNat).2):=rfl
  rw[hn,bMX] at bHX
  generalize hs:cY l f a i=s at *
  have h11:(1:Nat)*1≤16777216:=by decide
  have h01:(0:Nat)*1≤16777216:=by decide
  simp only[go_sem,γ,δ,ε,ζ,η,θ,ι,κ,μ,ν,ξ,ο,ρ,σ,τ,υ,reduceIte,reduceCtorEq,bHW,abR,h01]
  refine aR fun q0 hq0=>?_
  have h1:=hH.bgR (s:=1) (rows:=iiv []) hq0
  obtain⟨r1,-,-⟩:=DP l f.bHP.length s.2 n
  simp only[go_sem,γ,δ,ε,ζ,η,θ,ι,κ,μ,ν,ξ,ο,ρ,σ,τ,υ,reduceIte,reduceCtorEq,abS]
  refine blL Lb T o f hV hd0 i hlt n hn Om w (oP s.1) q0 s.2 Om _ _ _ (by unfold gD; exact Lq) h1 ?_
  intro q F1 H1 hF1 h2
  generalize bIC:jP l f.bHP.length s.2 n=row at *
  have f0:F1 0=some (.ptr o 2 0 0):=hF1 0 _ (by unfold gD; simp only[go_sem,γ,δ,ε,ζ,η,θ,ι,κ,μ,ν,ξ,ο,ρ,σ,τ,υ,reduceIte,reduceCtorEq])
  have f3:F1 3=some (.bH f.cells):=hF1 3 _ (by unfold gD; simp only[go_sem,γ,δ,ε,ζ,η,θ,ι,κ,μ,ν,ξ,ο,ρ,σ,τ,υ,reduceIte,reduceCtorEq])
  have f5:F1 5=some w:=hF1 5 _ (by unfold gD; simp only[go_sem,γ,δ,ε,ζ,η,θ,ι,κ,μ,ν,ξ,ο,ρ,σ,τ,υ,reduceIte,reduceCtorEq])
  have f6:F1 6=some (.int .i64 i):=hF1 6 _ (by unfold gD; simp only[go_sem,γ,δ,ε,ζ,η,θ,ι,κ,μ,ν,ξ,ο,ρ,σ,τ,υ,reduceIte,reduceCtorEq])
  have f7:F1 7=some (.osl q 1 0 n):=hF1 7 _ (by unfold gD; simp only[go_sem,γ,δ,ε,ζ,η,θ,ι,κ,μ,ν,ξ,ο,ρ,σ,τ,υ,reduceIte,reduceCtorEq])
  simp only[go_sem,γ,δ,ε,ζ,η,θ,ι,κ,μ,ν,ξ,ο,ρ,σ,τ,υ,reduceIte,reduceCtorEq,TJ,f5,f7,h11]
  refine h2.append 0 (src:=[[.osl q 1 0 n]]) rfl Sq (by unfold roomFor; rw[bJT,k1]; simp only[bKH,maxLen]; omega) fun w' H' h3 hw=>?_
  obtain⟨q',rfl⟩:=hw (by simp)
  generalize hw':(PV.osl q' 1 0 (oP s.1++[[PV.osl q 1 0 n]]).length)=w' at *
  obtain⟨rs,z1,z2,z3,z4,z5⟩:=h3.frz 1 rfl
  have y1:=z4 0 _ (by decide) rfl
  simp only at y1
  have yf:PV.frz q 1 rs w'=w':=by rw[← hw'] at y1 ⊢; exact y1
  simp only[go_sem,γ,δ,ε,ζ,η,θ,ι,κ,μ,ν,ξ,ο,ρ,σ,τ,υ,reduceIte,reduceCtorEq,TK,f6,wZz i]
  refine apW (i+1,w',H'.frz q 1 rs) z1 ⟨hlt,?_⟩ (by simp only; omega) ?_ PH.le_refl
  ·simp only
   rw[bHX]
   have eB:([(o,bG l row.2)]:List BX).map (fun b=>(b.1,b.2.frz q 1 rs))=[(o,bG l row.2)]:=rfl
   have e5:(oP s.1++[[PV.osl q 1 0 n]]).map (fun r=>r.map (PV.dC q 1 rs))=oP (s.1++[row.1]):=by
    rw[bLW,bnO]
    show oP s.1++[[PV.dC q 1 rs (.osl q 1 0 n)]]=_
    rw[z2]
    simp[oP]
   rw[← eB,← e5]
   exact z5
  ·(repeat' (first|exact PF.nil_le|refine PF.aI ?_ ?_))<;>first|(simp only[go_sem,γ,δ,ε,ζ,η,θ,ι,κ,μ,ν,ξ,ο,ρ,σ,τ,υ,reduceIte,reduceCtorEq,f0,f3,yf]<;>rfl)|rfl
 ·have bHW:¬ (i:Int)<(f.bHR.length:Nat):=by omega
  have:i=f.bHR.length:=by omega
  subst this
  simp only[go_sem,γ,δ,ε,ζ,η,θ,ι,κ,μ,ν,ξ,ο,ρ,σ,τ,υ,reduceIte,reduceCtorEq,bHW,TL]
  rcases hH.own 0 rfl with ⟨h1',rfl⟩ | ⟨q,rs,rfl,_⟩
  ·refine aX (vs:=[.aB]) (.inr rfl) (PH.nil.set o (bG l (cY l f a f.bHR.length).2)) Sq (PH.aI PH.nil_le (hH.at 0 rfl)) ?_
   rw[aV,hR]
   refine⟨?_,rfl⟩
   unfold lay
   rw[show (cY l f a f.bHR.length).1.map (fun r=>[ints r])=[] from h1']
   exact .nil 1
  ·obtain⟨rs,g1,g2,g3,-,g4⟩:=hH.frz 0 rfl
   refine amQ (vs:=[.osl q 1 0 (oP (cY l f a f.bHR.length).1).length]) (.inr rfl) Sq (.step g1 (.done (H2:=PH.nil.set o (bG l (cY l f a f.bHR.length).2)) ?_ (PH.aI PH.nil_le ?_)))
   ·rw[aV,g3,hR]
    exact⟨.refl _,rfl⟩
   ·have:=g4.at 0 rfl
    rw[this]
    rfl
section
variable {H:PH} {B:List BX} {L:List LI} {s:Nat} {rows:List (List PV)}
theorem aQ.bvQ (h:aQ H B L) {r:PV} {H':PH} (m:kK s rows r H') (ha:kJ H .nil H'):aQ (H.eJ .nil H') B (L++[(r,s,rows)]):=by
 obtain⟨hO,hk⟩:=m.eJ ha
 have h1:=h.mF s
 have e:(L++[(PV.aB,s,([]:List (List PV)))]).set L.length (r,s,rows)=L++[(r,s,rows)]:=by
  rw[bMZ _ _ (bJV _),bMI]; rfl
 rw[← e]
 refine h1.zD L.length (v:=.aB) (s:=s) (rows:=[]) (by simp) hO (fun q hq=>.inr ?_) fun q hq _=>?_
 ·rcases m with ⟨-,rfl,-⟩ | ⟨p,rs,rfl,rfl,-⟩
  ·cases hq
  ·cases hq
   exact ha q (.rows s rs) (by rw[fN]) rfl
 ·obtain⟨x,hx⟩:=h1.wE hq
  rw[hx]; exact hk q x hx
theorem kK.some (s:Nat) (rows:List (List PV)) (G:PH):∃ r H',kK s rows r H'∧kJ G .nil H':=by
 obtain⟨o,ho⟩:=G.fresh
 refine⟨.osl o s 0 rows.length,PH.nil.set o (.rows s rows),.inr ⟨o,rows,rfl,rfl,bJV _,bKS⟩,fun q x hx _=>?_⟩
 rw[bS] at hx
 split at hx
 ·rename_i e; rw[e]; exact ho
 ·cases hx
end

section
variable {C:Ctx} {F:PF} {H Hs:PH} {tn a a2:Nat} {raw:List Int} {R:Nat→PV→PH→Prop} {st:Bool} {args:List aP} {d:Option Nat} {K:PF→PH→Prop}
end
section
variable {C:Ctx} {F:PF} {H:PH} {B:List BX} {L:List LI} {args:List aP} {d:Option Nat} {K:PF→PH→Prop}
end
theorem a9P {f:aK} (hV:VF f) (room:List Int) {d:Nat} (hd:d<f.bHP.length):0≤rB f room d∧rB f room d≤ext f d∧1≤ext f d∧ext f d≤16:=by
 obtain⟨hm,he⟩:=hV.a6S hd
 have:=hV.model _ (bJX hm)
 rw[he] at this
 unfold rB
 split
 ·omega
 ·omega
theorem aaQ (l:List Int) (x:Int):∀ (xs:List Int) (a:Nat),eY l (xs++[x]) a=((eY l xs a).1++[(wN l x (eY l xs a).2).1],(wN l x (eY l xs a).2).2)
 | [],a=>rfl
 | y::ys,a=>by
  rw[List.cons_append,eY,aaQ l x ys]
  rfl
theorem ayE (l:List Int):∀ (xs:List Int) (a:Nat),(eY l xs a).1.length=xs.length∧a≤(eY l xs a).2∧(eY l xs a).2≤a+2*xs.length
 | [],a=>⟨rfl,bJV _,bJV _⟩
 | x::xs,a=>by
  obtain⟨h1,h2,h3⟩:=ayE l xs (wN l x a).2
  have h4:a≤(wN l x a).2∧(wN l x a).2≤a+2:=by
   unfold wN
   split
   ·simp
   ·split<;>simp
  rw[eY]
  simp only[bLU,h1,true_and]
  omega
theorem aQ.store {H:PH} {B:List BX} {L:List LI} (h:aQ H B L) (i:Nat) {q s n:Nat} {rows:List (List PV)} (hi:L[i]?=some (.osl q s 0 n,s,rows)) (k:Nat) (c:List PV) :
  ∃ rs,H q=some (.rows s rs)∧n≤rs.length∧rs.take n=rows∧aQ (H.set q (.rows s (rs.set k c))) B (L.set i (.osl q s 0 n,s,rows.set k c)):=by
 obtain⟨rs,h1,h2,h3,h4⟩:=(h.own i hi).id rfl
 injection h2 with _ _ _ hn
 subst hn
 refine⟨rs,h1,h3,h4,h.zD i hi (.inr ⟨q,rs.set k c,by rw[bLQ],by rw[fN],by rw[bLQ,bLQ]; exact h3,by rw[bLQ,List.take_set,h4]⟩) (fun p hp=>.inl hp) fun p _ hp=>?_⟩
 have:p≠q:=hp q rfl
 rw[bS,if_neg this]
def axF (l:List Int) (o a:Nat) (f:aK) (r:PV) (H:PH):Prop:=Co r (ints (eY l (fK f []) a).1)∧H=PH.nil.set o (bG l (eY l (fK f []) a).2)
def tX (o:Nat) (q n i:Nat):PF:=(((PF.nil.set 0 (.ptr o 2 0 0)).set 5 (.osl q 1 0 n)).set 6 (.int .i64 i))
theorem a6L {C:Ctx} (Lb:CQ C) {l:List Int} (T:TpM l) (o a:Nat) (ha:a≤10000) (f:aK) (hv:dL f=true) (hd0:1≤f.bHP.length)
  (hr:aE C 85 [.agg f.cells,ints []] .nil (kK 1 (bD (afO f [])))) :
  zW.wp C (aT MA.res (axF l o a f)) (PF.args [.ptr o 2 0 0,.agg f.cells]) (PH.nil.set o (bG l a)):=by
 have hV:=VF.of hv
 have hd24:=hV.small.bHP
 have hX:afO f []=fK f []:=by unfold afO; rw[hv]; rfl
 rw[hX] at hr
 have hXl:=PA f []
 have hXi:∀ i (h:i<(fK f []).length),0≤(fK f [])[i]∧(fK f [])[i]≤16:=fun i h=>by
  rw[aHP]
  have:=a9P hV [] (Om:i<f.bHP.length)
  omega
 have hR:∀ r H,axF l o a f r H↔Co r (ints (eY l (fK f []) a).1)∧H=PH.nil.set o (bG l (eY l (fK f []) a).2):=fun _ _=>Iff.rfl
 generalize fK f []=X at *
 have h0:aQ (PH.nil.set o (bG l a)) [(o,bG l a)] []:=aQ.nil.new (H:=PH.nil) rfl (bG l a)
 simp only[go_sem,γ,δ,ε,ζ,η,θ,ι,κ,μ,ν,ξ,ο,ρ,σ,τ,υ,reduceIte,reduceCtorEq,zW,aoI,MA,aoJ]
 refine eR hr.a2U rfl PH.nil_le ?_
 intro r H' hm hap
 have h1:=h0.bvQ hm hap
 obtain⟨q,rfl⟩:=(h1.own 0 rfl).one (by rw[dO]; omega)
 rw[dO,hXl] at h1
 simp only[go_sem,γ,δ,ε,ζ,η,θ,ι,κ,μ,ν,ξ,ο,ρ,σ,τ,υ,reduceIte,reduceCtorEq,dO,hXl,aoK]
 generalize hn:f.bHP.length=n at *
 refine wp_loop (α:=Nat × PH) (fun s=>tX o q n s.1) (fun s=>s.2) (fun s=>s.1≤n∧aQ s.2 [(o,bG l (eY l (X.take s.1) a).2)] [(.osl q 1 0 n,1,bD ((eY l (X.take s.1) a).1++X.drop s.1))]) (fun s=>n-s.1) (0,_) ⟨bKF _,h1⟩ ?_ PH.le_refl ?_
 ·unfold tX
  exact Lq
 rintro⟨i,H0⟩ ⟨hi,hH⟩
 simp only at hi hH ⊢
 obtain⟨k1,k2,k3⟩:=ayE l (X.take i) a
 rw[bKL,bLY Om] at k1 k3
 simp only[go_sem,γ,δ,ε,ζ,η,θ,ι,κ,μ,ν,ξ,ο,ρ,σ,τ,υ,reduceIte,reduceCtorEq,abZ,aoL,tX]
 by_cases hlt:i<n
 ·have bHW:(i:Int)<(n:Nat):=by omega
  have hiX:i<X.length:=by omega
  have hx:=hXi i hiX
  have bHX:eY l (X.take (i+1)) a=((eY l (X.take i) a).1++[(wN l X[i] (eY l (X.take i) a).2).1],(wN l X[i] (eY l (X.take i) a).2).2):=by
   rw[bLK hiX,aaQ]
  have hdrop:X.drop i=X[i]::X.drop (i+1):=bLP hiX
  generalize eY l (X.take i) a=s at *
  have hcut:wN l X[i] s.2=if nxM l 9 s.2=0 then (0,s.2+1) else if nxM l 9 s.2=1 then (((nxM l (X[i]+1).toNat (s.2+1):Nat):Int),s.2+2) else (X[i],s.2+1):=rfl
  generalize X[i]=x at *
  simp only[go_sem,γ,δ,ε,ζ,η,θ,ι,κ,μ,ν,ξ,ο,ρ,σ,τ,υ,reduceIte,reduceCtorEq,bHW,aoM]
  refine cD Lb.toEF T (o:=o) (n:=9) (a:=s.2) (by decide) Om rfl (hH.at 0 rfl) ?_
  have h2:=hH.set 0 rfl (bG l (s.2+1))
  have hY:∀ v:Int,(bD (s.1++X.drop i)).set i [.int .i64 v]=bD ((s.1++[v])++X.drop (i+1)):=fun v=>by
   rw[a7K,hdrop,bMZ _ _ Om,k1,bMI,List.set_cons_zero,bKU]
   rfl
  have fin:∀ (y:Int) (b:Nat) (F':PF) (H':PH),wN l x s.2=(y,b)→(tX o q n i).le F'→aQ H' [(o,bG l b)] [(.osl q 1 0 n,1,bD ((s.1++[y])++X.drop (i+1)))] →
    aC.wp C (.region MC) (eE (fun s:Nat × PH=>tX o q n s.1) (fun s=>s.2) (fun s=>s.1≤n∧aQ s.2 [(o,bG l (eY l (X.take s.1) a).2)] [(.osl q 1 0 n,1,bD ((eY l (X.take s.1) a).1++X.drop s.1))]) (fun s=>n-s.1) (n-i) (dW 0 (iD C (aC.wp C ((aC.region FT).seq aC.ret)) (aT [dQ.tmp 4] (axF l o a f))))) F' H':=by
   intro y b F' H' hy hF' hH'
   have g0:F' 0=some (.ptr o 2 0 0):=hF' 0 _ (by unfold tX; simp only[go_sem,γ,δ,ε,ζ,η,θ,ι,κ,μ,ν,ξ,ο,ρ,σ,τ,υ,reduceIte,reduceCtorEq])
   have g5:F' 5=some (.osl q 1 0 n):=hF' 5 _ (by unfold tX; simp only[go_sem,γ,δ,ε,ζ,η,θ,ι,κ,μ,ν,ξ,ο,ρ,σ,τ,υ,reduceIte,reduceCtorEq])
   have g6:F' 6=some (.int .i64 i):=hF' 6 _ (by unfold tX; simp only[go_sem,γ,δ,ε,ζ,η,θ,ι,κ,μ,ν,ξ,ο,ρ,σ,τ,υ,reduceIte,reduceCtorEq])
   simp only[go_sem,γ,δ,ε,ζ,η,θ,ι,κ,μ,ν,ξ,ο,ρ,σ,τ,υ,reduceIte,reduceCtorEq,MC,g6,wZz i]
   refine aH (i+1,H') ⟨hlt,?_⟩ (by simp only; omega) ?_ PH.le_refl
   ·simp only
    rw[bHX,hy]
    exact hH'
   ·unfold tX
    exact Lq
  simp only[aC.wp,go_sem] at fin
  simp only[go_sem,γ,δ,ε,ζ,η,θ,ι,κ,μ,ν,ξ,ο,ρ,σ,τ,υ,reduceIte,reduceCtorEq]
  by_cases c0:nxM l 9 s.2=0
  ·rw[if_pos c0] at hcut
   obtain⟨rs,b1,b2,b3,h3⟩:=h2.store 0 rfl i [.int .i64 0]
   rw[hY] at h3
   have hil:i<rs.length:=by omega
   have hir:rs[i]?=some [.int .i64 x]:=by
    have:(rs.take n)[i]?=some [.int .i64 x]:=by
     rw[b3]
     unfold bD
     rw[bKZ,hdrop,bLS Om,k1,bMI]
     rfl
    rwa [bMO hlt] at this
   simp only[go_sem,γ,δ,ε,ζ,η,θ,ι,κ,μ,ν,ξ,ο,ρ,σ,τ,υ,reduceIte,reduceCtorEq,bO (Om:((nxM l 9 s.2:Nat):Int)=0),yG,aoN,bHW,b1,hir,bKN]
   refine fin 0 (s.2+1) _ _ hcut ?_ h3
   unfold tX
   exact Lq
  by_cases c1:nxM l 9 s.2=1
  ·rw[if_neg c0,if_pos c1] at hcut
   obtain⟨xn,hxn⟩:∃ xn:Nat,x=xn:=⟨x.toNat,by omega⟩
   subst hxn
   rw[show ((xn:Int)+1).toNat=xn+1 by omega] at hcut
   obtain⟨rs,b1,b2,b3,-⟩:=h2.store 0 rfl i [.int .i64 0]
   have hir:rs[i]?=some [.int .i64 xn]:=by
    have:(rs.take n)[i]?=some [.int .i64 xn]:=by
     rw[b3]
     unfold bD
     rw[bKZ,hdrop,bLS Om,k1,bMI]
     rfl
    rwa [bMO hlt] at this
   have e1:IntKind.i64.wrap ((xn:Int)+1)=((xn+1:Nat):Int):=dH Om
   have h4:=h2.set 0 rfl (bG l (s.2+2))
   rw[PH.set_set] at h4
   obtain⟨rs2,d1,d2,d3,h5⟩:=h4.store 0 rfl i [.int .i64 (nxM l (xn+1) (s.2+1):Nat)]
   rw[hY] at h5
   have hir2:rs2[i]?=some [.int .i64 xn]:=by
    have:(rs2.take n)[i]?=some [.int .i64 xn]:=by
     rw[d3]
     unfold bD
     rw[bKZ,hdrop,bLS Om,k1,bMI]
     rfl
    rwa [bMO hlt] at this
   simp only[go_sem,γ,δ,ε,ζ,η,θ,ι,κ,μ,ν,ξ,ο,ρ,σ,τ,υ,reduceIte,reduceCtorEq,bB (Om:((nxM l 9 s.2:Nat):Int)≠0),bO (Om:((nxM l 9 s.2:Nat):Int)=1),yG,MB,aoO,bHW,b1,hir,e1]
   refine cD Lb.toEF T (o:=o) (n:=xn+1) (a:=s.2+1) Om Om rfl (h2.at 0 rfl) ?_
   simp only[go_sem,γ,δ,ε,ζ,η,θ,ι,κ,μ,ν,ξ,ο,ρ,σ,τ,υ,reduceIte,reduceCtorEq,bHW,d1,hir2,bKN]
   refine fin _ (s.2+2) _ _ hcut ?_ h5
   unfold tX
   exact Lq
  ·rw[if_neg c0,if_neg c1] at hcut
   simp only[go_sem,γ,δ,ε,ζ,η,θ,ι,κ,μ,ν,ξ,ο,ρ,σ,τ,υ,reduceIte,reduceCtorEq,bB (Om:((nxM l 9 s.2:Nat):Int)≠0),bB (Om:((nxM l 9 s.2:Nat):Int)≠1),yG,MB]
   refine fin x (s.2+1) _ _ hcut ?_ ?_
   ·unfold tX
    exact Lq
   ·rw[bKU,List.singleton_append,← hdrop]
    exact h2
 ·have bHW:¬ (i:Int)<(n:Nat):=by omega
  have:i=n:=by omega
  subst this
  have et:X.take i=X:=bKK Om
  have ed:X.drop i=[]:=List.drop_eq_nil_of_le Om
  rw[et,ed,bLM] at hH
  simp only[go_sem,γ,δ,ε,ζ,η,θ,ι,κ,μ,ν,ξ,ο,ρ,σ,τ,υ,reduceIte,reduceCtorEq,bHW,FT]
  obtain⟨rs,g1,g2,g3,-,g4⟩:=hH.frz 0 rfl
  refine amQ (vs:=[.osl q 1 0 i]) (.inr rfl) rfl (.step g1 (.done (H2:=PH.nil.set o (bG l (eY l X a).2)) ?_ (PH.aI PH.nil_le ?_)))
  ·rw[aV,g3,hR]
   exact⟨.refl _,rfl⟩
  ·have:=g4.at 0 rfl
   rw[this]
   rfl
def adY:Rg:=[iI 4 0]
def adZ:Rg:=[iM 6 1,iC 7 .lss 6 1]
def aeA:Rg:=[iI 4 0]
def aeB:Rg:=[iM 8 0,iM 9 1,iB 10 .rem 8 9,iM 5 10]
def aeC:Rg:=[iM 11 5,iC 12 .lss 11 0]
def aeD:Rg:=[iM 13 5,iM 14 1,iB 15 .add 13 14,iM 4 15]
def aeE:Rg:=[iM 16 5,iM 4 16]
def xA:aC:=(sq adY (.seq (sq adZ (.cond (Tm 7) (sq aeA .ret) .skip)) (sq aeB (.seq (sq aeC (.cond (Tm 12) (sq aeD .ret) .skip)) (sq aeE .ret)))))
def a1J:List Nat:=[]
def DH:aW:=⟨2,17,xA,[.tmp 4]⟩
def aVH:Rg:=[iA 4 (.box false (Tm 1)),iA 6 (.alloc [(.int .i64 0),(.int .i64 0)]),iI 7 0]
def aVI:Rg:=[iF 10 1 4,iL 11 10,iC 12 .lss 11 0,iM 13 12,gF 14 1 4 13 false,gL 15 14 13 false,gM 16 0 13 false,gB 17 .geq 15 16 13 false,iQ 18 13 17]
def amX:Rg:=[iA 19 (.build [(.int .i64 0),(.int .i64 0)] []),iS 2 6 19,iI 7 110]
def aVJ:Rd:=[(iA 21 (.bJL (true,[.int .i64,.int .i64])),true),(iA 22 (.build [(.int .i64 0),(.int .i64 0)] [(0,1,(Ci 1)),(1,1,(Ci 1))]),true),(⟨none,.insert (true,[.int .i64,.int .i64]) (Tm 21) (Tm 22) (Ci 2),none⟩,true),(iA 23 (.build [(.int .i64 0),(.int .i64 0)] [(0,1,(Ci 2)),(1,1,(Ci 2))]),true),(⟨none,.insert (true,[.int .i64,.int .i64]) (Tm 21) (Tm 23) (Ci 3),none⟩,true),(iA 24 (.build [(.int .i64 0),(.int .i64 0)] [(0,1,(Ci 3)),(1,1,(Ci 3))]),true),(⟨none,.insert (true,[.int .i64,.int .i64]) (Tm 21) (Tm 24) (Ci 1),none⟩,true),(iA 25 (.build [(.int .i64 0),(.int .i64 0)] [(0,1,(Ci 3)),(1,1,(Ci 4))]),true),(⟨none,.insert (true,[.int .i64,.int .i64]) (Tm 21) (Tm 25) (Ci 5),none⟩,true),(iM 26 21,false),(iF 27 0 4,true),(iL 28 27,true),(iM 29 2,true),(iA 30 (.build [(.int .i64 0),(.int .i64 0)] [(0,1,(Tm 28)),(1,1,(Tm 29))]),true),(iA 31 (.lookup (true,[.int .i64,.int .i64]) (.int .i64 0) (Tm 26) (Tm 30) true),false),(iM 20 31,false),(iE 32 20 0,false),(iE 33 20 1,false),(iM 8 32,false),(iM 9 33,false)]
def pY:Rg:=[iM 40 9,iA 41 (.un .not (Tm 40)),iM 39 41]
def pZ:Rg:=[iA 42 (.build [(.int .i64 0),(.int .i64 0)] []),iS 2 6 42,iI 7 110]
def qA:Rg:=[iM 44 2,iC 45 .neq 44 3,iM 43 45]
def qB:Rg:=[iM 46 8,iF 47 0 4,iS 1 47 46]
def aVK:Rg:=[iF 49 1 4,iL 50 49,iM 51 0,iC 52 .sub 51 1,iB 53 .eql 50 52,iM 48 53]
def aVL:Rg:=[iF 54 0 4,⟨none,.store 1 (Tm 54) (Ci 4),none⟩]
def aIQ:Rg:=[iM 34 8,iF 35 1 4,iL 36 35,iC 37 .add 36 1,iA 38 (.build [(.int .i64 0),(.int .i64 0)] [(0,1,(Tm 34)),(1,1,(Tm 37))]),iS 2 4 38]
def nC:Rg:=[iO 55 2 4,iS 2 6 55,iI 7 0]
def PP:aC:=(sq aVH (.seq (sq aVI (.cond (Tm 18) (sq amX .ret) .skip)) (dq aVJ (.seq (.block 0 (sq pY (.cond (Tm 39) (sq pZ .ret) (sq qA (.cond (Tm 43) (.region qB) (sq aVK (.cond (Tm 48) (.region aVL) (.region aIQ)))))))) (sq nC .ret)))))
def bpE:List Nat:=[]
def step:aW:=⟨3,56,PP,[.cell 6 (some 2),.tmp 7]⟩
def aUR:Rg:=[iT 4 false]
def aUS:Rg:=[iM 6 0,iN 7 6,iM 8 1,iN 9 8,iB 10 .neq 7 9]
def aUT:Rg:=[iT 4 false]
def aUU:Rg:=[iI 5 0]
def aUV:Rg:=[iM 11 5,iM 12 0,iN 13 12,iB 14 .lss 11 13]
def aUW:Rd:=[(iM 17 0,false),(iM 18 5,false),(iX 19 1 17 18,false),(iL 20 19,false),(iM 21 1,false),(iM 22 5,false),(iX 23 1 21 22,false),(iL 24 23,false),(iB 25 .neq 20 24,false)]
def aUX:Rg:=[iT 4 false]
def aUY:Rg:=[iM 15 5,iC 16 .add 15 1,iM 5 16]
def aUQ:aC:=(.seq (sq aUV (.cond (Tm 14) .skip (.exit 0))) (.seq (.block 1 (dq aUW (.cond (Tm 25) (sq aUX .ret) .skip))) (.region aUY)))
def aUZ:Rg:=[iT 4 true]
def PD:aC:=(sq aUR (.seq (sq aUS (.cond (Tm 10) (sq aUT .ret) .skip)) (.seq (sq aUU (.block 0 (.loop aUQ))) (sq aUZ .ret))))
def boV:List Nat:=[]
def same:aW:=⟨2,26,PD,[.tmp 4]⟩
def aWY:Rg:=[iA 3 (.box true (Tm 1)),iZ 4]
def aWZ:Rg:=[iF 7 0 3,iL 8 7,iC 9 .lss 8 1,iM 10 9,gF 11 0 3 10 false,gL 12 11 10 false,gC 13 .gtr 12 5 10 false,iQ 14 10 13,iM 15 14,gF 16 1 3 15 false,gL 17 16 15 false,gC 18 .lss 17 0 15 false,iQ 19 15 18]
def ST:Rg:=[iZ 4]
def SU:Rg:=[iF 20 1 3,iL 21 20,iM 22 0,iN 23 22,iA 24 (.bIQ false (Tm 21) (Tm 23)),iM 5 24]
def SV:Rg:=[iM 25 5,iM 26 0,iN 27 26,iB 28 .lss 25 27,iM 29 28,gF 30 0 3 29 true,gL 31 30 29 true,gC 32 .eql 31 3 29 true,gM 33 32 29 true,gF 34 0 3 33 false,gL 35 34 33 false,gC 36 .eql 35 4 33 false,iG 37 (.pick (Tm 33) (.const (.bool true)) (Tm 36)) 29 true,iP 38 29 37]
def anC:Rg:=[iM 39 5,iC 40 .add 39 1,iM 5 40]
def anD:Rg:=[iM 41 0,iM 42 5,iA 43 (.slice 1 (Tm 41) none (some (Tm 42)) none),iK 44 178 43,iM 6 44]
def SW:Rg:=[iM 45 6,iK 46 180 45]
def SX:Rg:=[iM 47 6,iK 48 177 47,iM 4 48]
def QF:aC:=(sq aWY (.seq (sq aWZ (.cond (Tm 19) (sq ST .ret) .skip)) (sq SU (.seq (sq SV (.cond (Tm 38) (.region anC) .skip)) (sq anD (sq SW (sq SX .ret)))))))
def bpS:List Nat:=[3]
def aKI:aW:=⟨2,49,QF,[.tmp 4]⟩
def axW:Rg:=[iA 2 (.alloc [(.int .i64 0),(.int .i64 0)])]
def axX:Rg:=[iM 3 0,iC 4 .lss 3 1]
def axY:Rg:=[iA 5 (.build [(.int .i64 0),(.int .i64 0)] [(0,1,(Ci 4))]),iS 2 2 5]
def axZ:Rg:=[iA 6 (.build [(.int .i64 0),(.int .i64 0)] [(0,1,(Ci 1))]),iS 2 2 6]
def EJ:aC:=(sq axW (.seq (sq axX (.cond (Tm 4) (sq axY .ret) .skip)) (sq axZ .ret)))
def beD:List Nat:=[]
def begin:aW:=⟨1,7,EJ,[.cell 2 (some 2)]⟩
def anO:Rg:=[iZ 2]
def anP:Rg:=[iI 3 0]
def anQ:Rg:=[iM 9 0,iN 10 9,iI 11 0]
def anR:Rg:=[iB 12 .lss 11 10]
def anS:Rg:=[iX 13 1 9 11,iL 14 13,iM 5 14]
def anT:Rg:=[iM 15 3,iM 16 5,iN 17 16,iB 18 .add 15 17,iM 3 18]
def anU:Rg:=[iM 19 3,iC 20 .lss 19 0]
def a6E:Rg:=[iA 21 .stuck,⟨none,.stuck,none⟩]
def anV:Rg:=[iC 22 .add 11 1,iM 11 22]
def anN:aC:=(sq anR (.seq (.cond (Tm 12) .skip (.exit 0)) (.seq (.block 1 (sq anS (sq anT (sq anU (.cond (Tm 20) (.region a6E) .skip))))) (.region anV))))
def aaO:Rg:=[iM 23 3,iA 24 (.call 179 [(.const .aB),(Tm 23)]),iM 6 24]
def EN:Rg:=[iM 25 0,iN 26 25,iI 27 0]
def EO:Rg:=[iB 28 .lss 27 26]
def EP:Rg:=[iX 29 1 25 27,iL 30 29,iM 8 30]
def EQ:Rg:=[iM 31 6,iM 32 8,iA 33 (.append 1 8 (Tm 31) (Tm 32)),iM 6 33]
def uG:Rg:=[iC 34 .add 27 1,iM 27 34]
def EM:aC:=(sq EO (.seq (.cond (Tm 28) .skip (.exit 2)) (.seq (.block 3 (sq EP (.region EQ))) (.region uG))))
def uH:Rg:=[iM 35 6,iM 2 35]
def zO:aC:=(sq anO (sq anP (.seq (sq anQ (.block 0 (.loop anN))) (sq aaO (.seq (sq EN (.block 2 (.loop EM))) (sq uH .ret))))))
def a6F:List Nat:=[]
def concat:aW:=⟨1,36,zO,[.tmp 2]⟩
def axP:Rg:=[iT 0 false]
def axQ:Rg:=[iA 10 (.call 144 [(Ci 1)]),iA 1 (.alloc [(.int .i64 0),(.int .i64 0)]),iS 2 1 10]
def axR:Rg:=[iO 12 2 1,iA 13 (.call 145 [(Ci 1),(Tm 12),(Ci 1)]),iM 11 13,iE 14 11 0,iE 15 11 1,iA 2 (.alloc [(.int .i64 0),(.int .i64 0)]),iS 2 2 14,iM 3 15]
def axS:Rg:=[iO 17 2 2,iA 18 (.call 145 [(Ci 1),(Tm 17),(Ci 2)]),iM 16 18,iE 19 16 0,iE 20 16 1,iA 4 (.alloc [(.int .i64 0),(.int .i64 0)]),iS 2 4 19,iM 5 20]
def axT:Rg:=[iO 22 2 4,iA 23 (.call 145 [(Ci 1),(Tm 22),(Ci 3)]),iM 21 23,iE 24 21 0,iE 25 21 1,iA 6 (.alloc [(.int .i64 0),(.int .i64 0)]),iS 2 6 24,iM 7 25]
def axU:Rg:=[iO 27 2 6,iA 28 (.call 145 [(Ci 1),(Tm 27),(Ci 1)]),iM 26 28,iE 29 26 0,iE 30 26 1,iA 8 (.alloc [(.int .i64 0),(.int .i64 0)]),iS 2 8 29,iM 9 30]
def axV:Rg:=[iO 31 2 1,iA 32 (.build [(.int .i64 0),(.int .i64 0)] [(0,1,(Ci 1))]),iA 33 (.eqs false [.int,.int] (Tm 31) (Tm 32)),iM 34 33,gM 35 3 34 true,gC 36 .eql 35 0 34 true,iP 37 34 36,iM 38 37,gM 39 5 38 true,gC 40 .eql 39 0 38 true,iP 41 38 40,iM 42 41,gM 43 7 42 true,gC 44 .eql 43 0 42 true,iP 45 42 44,iM 46 45,gM 47 9 46 true,gC 48 .eql 47 110 46 true,iP 49 46 48,iM 50 49,gO 51 2 6 50 true,iG 52 (.build [(.int .i64 0),(.int .i64 0)] [(0,1,(Ci 4))]) 50 true,iG 53 (.eqs false [.int,.int] (Tm 51) (Tm 52)) 50 true,iP 54 50 53,iM 55 54,iG 56 (.bHV true 1 2 [(.int .i64 0)] [(0,(Ci 2)),(1,(Ci 1))]) 55 true,iG 57 (.bHV true 1 1 [.aB] [(0,(Tm 56))]) 55 true,gO 58 2 6 55 true,gK2 59 146 57 58 55 true,iG 60 (.bHV true 1 2 [(.int .i64 0)] [(0,(Ci 1)),(1,(Ci 2))]) 55 true,gK2 61 91 59 60 55 true,iP 62 55 61,iM 63 62,iG 64 (.call 144 [(Ci 0)]) 63 true,iG 65 (.build [(.int .i64 0),(.int .i64 0)] [(0,1,(Ci 4))]) 63 true,iG 66 (.eqs false [.int,.int] (Tm 64) (Tm 65)) 63 true,iP 67 63 66,iM 0 67]
def EH:aC:=(sq axP (sq axQ (sq axR (sq axS (sq axT (sq axU (sq axV .ret)))))))
def beB:List Nat:=[56,57,60]
def aaF:aW:=⟨0,68,EH,[.tmp 0]⟩
def brJ:Rg:=[iA 5 (.box true (Tm 1)),iT 8 false]
def brK:Rg:=[iM 20 3,iN 21 20,iC 22 .gtr 21 20]
def brL:Rg:=[iA 23 (.call 26 []),iM 8 23]
def brM:Rg:=[iI 9 0]
def brN:Rg:=[iM 24 9,iM 25 3,iN 26 25,iB 27 .lss 24 26]
def brO:Rg:=[iM 30 3,iM 31 9,iX 32 1 30 31,iL 33 32,iN 34 33,iC 35 .gtr 34 20]
def brP:Rg:=[iA 36 (.call 26 []),iM 8 36]
def brQ:Rg:=[iM 28 9,iC 29 .add 28 1,iM 9 29]
def brI:aC:=(.seq (sq brN (.cond (Tm 27) .skip (.exit 0))) (.seq (.block 1 (sq brO (.cond (Tm 35) (sq brP .ret) .skip))) (.region brQ)))
def brR:Rg:=[iM 37 0,iA 38 (.call 24 [(Tm 37),(Ci 5)]),iM 10 38]
def bnB:Rd:=[(iF 39 0 5,false),(iL 40 39,false),(iA 41 (.call 24 [(Tm 40),(Ci 5)]),true),(iA 42 (.bin .add (Ci 1) (Tm 41)),true),(iF 43 1 5,true),(iL 44 43,true),(iA 45 (.call 24 [(Tm 44),(Ci 5)]),true),(iA 46 (.build [(.int .i64 0),(.int .i64 0)] [(0,1,(Tm 42)),(1,1,(Tm 45))]),false),(iA 11 (.alloc [(.int .i64 0),(.int .i64 0)]),true),(iS 2 11 46,true)]
def bnC:Rg:=[iM 48 0,iO 49 2 5,iM 50 2,iA 51 (.call 145 [(Tm 48),(Tm 49),(Tm 50)]),iM 47 51,iE 52 47 0,iE 53 47 1,iA 12 (.alloc [(.int .i64 0),(.int .i64 0)]),iS 2 12 52,iM 13 53]
def bnD:Rg:=[iM 55 0,iO 56 2 5,iM 57 2,iA 58 (.call 92 [(Tm 55),(Tm 56),(Tm 57)]),iM 54 58,iE 59 54 0,iE 60 54 1,iA 14 (.alloc [(.int .i64 0),(.int .i64 0)]),iS 2 14 59,iM 15 60]
def bnE:Rd:=[(iM 62 10,true),(iO 63 2 11,true),(iM 64 2,false),(iA 65 (.call 24 [(Tm 64),(Ci 4)]),true),(iA 66 (.bin .add (Ci 1) (Tm 65)),false),(iA 67 (.call 145 [(Tm 62),(Tm 63),(Tm 66)]),true),(iM 61 67,false),(iE 68 61 0,false),(iE 69 61 1,true),(iA 16 (.alloc [(.int .i64 0),(.int .i64 0)]),true),(iS 2 16 68,true),(iM 17 69,false)]
def bnF:Rd:=[(iM 71 10,true),(iO 72 2 11,true),(iM 73 2,false),(iA 74 (.call 24 [(Tm 73),(Ci 4)]),true),(iA 75 (.bin .add (Ci 1) (Tm 74)),false),(iA 76 (.call 92 [(Tm 71),(Tm 72),(Tm 75)]),true),(iM 70 76,false),(iE 77 70 0,false),(iE 78 70 1,true),(iA 18 (.alloc [(.int .i64 0),(.int .i64 0)]),true),(iS 2 18 77,true),(iM 19 78,false)]
def bnG:Rd:=[(iA 79 (.call 26 []),true),(iM 80 79,false),(gO 81 2 12 80 true,false),(gO 82 2 14 80 true,false),(iG 83 (.eqs false [.int,.int] (Tm 81) (Tm 82)) 80 true,false),(iP 84 80 83,false),(iM 85 84,false),(gM 86 13 85 true,false),(gM 87 15 85 true,false),(gB 88 .eql 86 87 85 true,false),(iP 89 85 88,false),(iM 90 89,false),(gO 91 2 16 90 true,false),(gO 92 2 18 90 true,false),(iG 93 (.eqs false [.int,.int] (Tm 91) (Tm 92)) 90 true,false),(iP 94 90 93,false),(iM 95 94,false),(gM 96 17 95 true,false),(gM 97 19 95 true,false),(gB 98 .eql 96 97 95 true,false),(iP 99 95 98,false),(iM 100 99,false),(gM 101 3 100 true,false),(gO 102 2 5 100 true,false),(gK2 103 146 101 102 100 true,true),(gM 104 3 100 true,true),(gO 105 2 5 100 true,true),(gK2 106 93 104 105 100 true,true),(gK2 107 91 103 106 100 true,true),(iP 108 100 107,false),(iM 109 108,false),(gM 110 3 109 true,false),(gO 111 2 11 109 true,false),(gK2 112 146 110 111 109 true,true),(gM 113 3 109 true,true),(gO 114 2 11 109 true,true),(gK2 115 93 113 114 109 true,true),(gK2 116 91 112 115 109 true,true),(iP 117 109 116,false),(iM 8 117,false)]
def bgF:aC:=(sq brJ (.seq (sq brK (.cond (Tm 22) (sq brL .ret) .skip)) (.seq (sq brM (.block 0 (.loop brI))) (sq brR (dq bnB (sq bnC (sq bnD (dq bnE (dq bnF (dq bnG .ret))))))))))
def law:aW:=⟨4,118,bgF,[.tmp 8]⟩
open Go Go.RowKit Go.Sort Go.Shelf Go.Proofs
section
variable {E:Env} {H:PH} {w:World}
theorem bM.aaG (hW:bM E H w) {w':World} (hs:w.heap.size≤w'.heap.size) (hb:∀ b,b<w.heap.size→w'.heap[b]?=w.heap[b]?):bM E H w':=by
 refine⟨fun b cs h=>?_,fun o x h=>?_,fun o n h=>?_⟩
 ·obtain⟨h1,ty,fr,h2⟩:=hW.g b cs h
  exact⟨h1,ty,fr,(hb b (bND.1 h2).1).trans h2⟩
 ·obtain⟨h1,h2⟩:=hW.h o x h
  exact⟨Nat.lt_of_lt_of_le h1 hs,h2.mono (.refl E) (hb o h1)⟩
 ·obtain⟨cur,ty,fr,h1,h2⟩:=hW.s o n h
  exact⟨cur,ty,fr,(hb o (bND.1 h1).1).trans h1,h2⟩
theorem Ext.aaG {E':Env} {H':PH} {w1 w2:World} (h:Ext E H w E' H' w1) (ho:w2.os=w1.os) (ht:w2.tape=w1.tape) (hp:w2.output=w1.output) (hs:w1.heap.size≤w2.heap.size)
  (hb:∀ b,b<w1.heap.size→w2.heap[b]?=w1.heap[b]?):Ext E H w E' H' w2 :=
 ⟨h.env,ho.trans h.os,ht.trans h.tape,hp.trans h.output,bMQ h.size hs,fun b hlt hn=>(hb b (Nat.lt_of_lt_of_le hlt h.size)).trans (h.block b hlt hn),h.new,h.newG⟩
theorem adF (hW:bM E H w) {o off:Nat} {rs:List (List PV)} {xs:List Int} (ho:H o=some (.rows 1 rs)) (hx:(rs.drop off).take xs.length=bD xs):Holds (Value.int .i64) w o off xs.toArray:=by
 obtain⟨-,cur,ty,h1,h2,h3,h4,h5⟩:=hW.h o _ ho
 intro j hj
 have hj':j<xs.length:=by simpa using hj
 have hat:at2 rs (off+j) 0=some (.int .i64 xs[j]):=by
  have e:((rs.drop off).take xs.length)[j]?=(bD xs)[j]?:=by rw[hx]
  rw[bMO hj',bNH] at e
  unfold at2
  rw[e]
  simp[bD,hj']
 obtain⟨u,e1,e2,e3⟩:=h5 _ 0 _ hat
 cases e3
 have e4:xs.toArray[j]! = xs[j]:=by simp[hj']
 refine⟨?_,?_⟩
 ·simp only[World.cell?,h1,Option.isSome_none,bMU,if_false]
  rw[e4]
  simpa using e1
 ·simp[World.frozen?,h1]
theorem aUA (hW:bM E H w) {o:Nat} {xs ys:List Int} (ho:H o=some (.rows 1 (bD xs))) (hl:ys.length=xs.length) (n:Nat) (os:Array Obj) :
  bM E (H.set o (.rows 1 (bD ys))) (grow (putRow (Value.int .i64) (Sort.ahead w n) o 0 ys.toArray) os)∧Ext E H w E (H.set o (.rows 1 (bD ys))) (grow (putRow (Value.int .i64) (Sort.ahead w n) o 0 ys.toArray) os):=by
 obtain⟨-,cur,ty,h1,h2,h3,h4,h5⟩:=hW.h o _ ho
 have hlen:xs.length≤cur.size:=by simpa [bD] using h4
 have hR:jD E 1 (bD ys) (putCells (Value.int .i64) 0 ys.toArray cur):=by
  refine⟨fun r hr=>?_,?_,fun i j pv hp=>?_⟩
  ·unfold bD at hr
   rw[bKX] at hr
   obtain⟨n,-,rfl⟩:=hr
   rfl
  ·simp[bD,putCells]; omega
  ·unfold at2 bD at hp
   rw[bKZ,bMV] at hp
   obtain⟨r,hr,hp⟩:=hp
   rw[bKB] at hr
   obtain⟨m,hm,rfl⟩:=hr
   have hi:=(bKV.1 hm).1
   cases j with
   | succ j=>simp at hp
   | zero =>
    simp at hp
    subst hp
    refine⟨.int .i64 m,?_,rfl,.int _ _⟩
    have hc:i<cur.size:=by omega
    simp only[Nat.mul_one,bLL,putCells,Array.getElem?_mapIdx,bMW hc,bLF,bKF,true_and,bKN,Nat.sub_zero,List.size_toArray]
    rw[if_pos hi]
    have:ys.toArray[i]! = m:=by
     obtain⟨h,e⟩:=bKV.1 hm
     simp[h,e]
    rw[this]
 obtain⟨k1,k2⟩:=hW.amV ho h1 (by simp[putCells]) hR
 have hheap:∀ b,b<(w.setRow o (putCells (Value.int .i64) 0 ys.toArray cur)).heap.size→(grow (putRow (Value.int .i64) (Sort.ahead w n) o 0 ys.toArray) os).heap[b]?=(w.setRow o (putCells (Value.int .i64) 0 ys.toArray cur)).heap[b]?:=by
  intro b hb
  have hb':b<w.heap.size:=by simpa [World.setRow] using hb
  have e1:(grow (putRow (Value.int .i64) (Sort.ahead w n) o 0 ys.toArray) os).heap[b]?=(putRow (Value.int .i64) (Sort.ahead w n) o 0 ys.toArray).heap[b]?:=by
   unfold grow
   exact Array.getElem?_append_left (by simpa using hb')
  rw[e1]
  simp only[putRow,mapBlock,World.setRow,Array.getElem?_modify,heap_ahead]
  by_cases e:o=b
  ·subst e
   simp[h1,onCells]
  ·simp[e]
 have hsize:(w.setRow o (putCells (Value.int .i64) 0 ys.toArray cur)).heap.size≤(grow (putRow (Value.int .i64) (Sort.ahead w n) o 0 ys.toArray) os).heap.size:=by
  simp[World.setRow]
 exact⟨k1.aaG hsize hheap,k2.aaG rfl rfl rfl hsize hheap⟩
end
section
variable {C:Ctx} {ρ:Ren} {name:Nat}
def sorted (xs:List Int):List Int:=xs.mergeSort fun x y=>decide (x≤y)
theorem a2Y (L:Lays.n189 C.P ρ) (hn:C.num name=ρ.f 189) (hf:∃ fn,C.P.funcs[C.num name]?=some fn∧fn.body.isSome=true∧(fn.name=="runtime.NumGoroutine")=false) (o:Nat) (xs:List Int) (hx:xs≠[]) (hl:xs.length<4611686018427387904) :
  aE C name [.osl o 1 0 xs.length] (PH.nil.set o (.rows 1 (bD xs))) (fun r H'=>r=.tup []∧H'=PH.nil.set o (.rows 1 (bD (sorted xs)))):=by
 refine⟨hf,fun E w vs hN hW hvs=>?_⟩
 have ho:(PH.nil.set o (.rows 1 (bD xs))) o=some (.rows 1 (bD xs)):=by simp[bV]
 obtain⟨vl⟩:=vs
 cases hvs with
 | cons h1 h2 =>
 cases h2
 cases h1 with
 | @osl _ _ _ _ cap n a hb hsp bJP hlen bJK hs bIV =>
 have hcap:cap≠0:=by
  intro e; subst e
  exact hx (bNJ Om)
 have ha:a=⟨o,0,none⟩:=by
  obtain⟨b,off,sp⟩:=a
  simp only at hb hsp bJP
  subst hb; subst hsp
  rcases bJP with h | h
  ·exact (hcap h).elim
  ·simp at h; subst h; rfl
 subst ha
 rw[hn]
 have hH:=adF hW (off:=0) (xs:=xs) ho (by rw[bKW]; exact bKK (by simp[bD]))
 refine (Any.slices_Sort_int L o 0 cap xs w hH (hW.h o _ ho).1 hl).mono fun e w' he=>?_
 obtain⟨rfl,n,os,rfl⟩:=he
 obtain⟨k1,k2⟩:=aUA hW ho (ys:=sorted xs) (by simp[sorted]) n os
 rw[show (PH.nil.set o (.rows 1 (bD xs))).set o (.rows 1 (bD (sorted xs)))=PH.nil.set o (.rows 1 (bD (sorted xs))) from PH.ext fun q=>by simp only[bV]; split<;>rfl] at k1 k2
 exact⟨_,.tup [],E,_,rfl,k1,.tup #[] rfl (by simp),k2,rfl,rfl⟩
theorem aOE (L:Lays.n189 C.P ρ) (hn:C.num name=ρ.f 189) (hf:∃ fn,C.P.funcs[C.num name]?=some fn∧fn.body.isSome=true∧(fn.name=="runtime.NumGoroutine")=false) (v:PV) (H:PH)
  (hv:v=.aB∨∃ o off,v=.osl o 1 off 0):aE C name [v] H (fun r H'=>r=.tup []∧H'=H):=by
 refine⟨hf,fun E w vs hN hW hvs=>?_⟩
 obtain⟨vl⟩:=vs
 cases hvs with
 | cons h1 h2 =>
 cases h2
 rename_i u
 have:∃ p cap,u=.slice p 0 cap:=by
  rcases hv with rfl | ⟨o,off,rfl⟩
  ·cases h1; exact⟨none,0,rfl⟩
  ·cases h1; exact⟨_,_,rfl⟩
 obtain⟨p,cap,rfl⟩:=this
 rw[hn]
 refine (Any.slices_Sort_int_none L p cap w).mono fun e w' he=>?_
 obtain⟨rfl,rfl⟩:=he
 exact⟨_,.tup [],E,_,rfl,hW,.tup #[] rfl (by simp),.refl _ _ _,rfl,rfl⟩
theorem avY (L:Lays2.n20 C.P ρ) (hn:C.num name=ρ.f 20) (hf:∃ fn,C.P.funcs[C.num name]?=some fn∧fn.body.isSome=true∧(fn.name=="runtime.NumGoroutine")=false) (o:Nat) (xs:List Int) (hx:xs≠[]) (hl:xs.length<4611686018427387904) :
  aE C name [.osl o 1 0 xs.length] (PH.nil.set o (.rows 1 (bD xs))) (fun r H'=>r=.osl o 1 0 (Lib.compact xs).length∧H'=PH.nil.set o (.rows 1 (bD (Lib.compact xs++bJW (xs.length-(Lib.compact xs).length) 0)))):=by
 refine⟨hf,fun E w vs hN hW hvs=>?_⟩
 have ho:(PH.nil.set o (.rows 1 (bD xs))) o=some (.rows 1 (bD xs)):=by simp[bV]
 obtain⟨vl⟩:=vs
 cases hvs with
 | cons h1 h2 =>
 cases h2
 cases h1 with
 | @osl _ _ _ _ cap n a hb hsp bJP hlen bJK hs bIV =>
 have hcap:cap≠0:=by
  intro e; subst e
  exact hx (bNJ Om)
 have ha:a=⟨o,0,none⟩:=by
  obtain⟨b,off,sp⟩:=a
  simp only at hb hsp bJP
  subst hb; subst hsp
  rcases bJP with h | h
  ·exact (hcap h).elim
  ·simp at h; subst h; rfl
 subst ha
 rw[hn]
 have hH:=adF hW (off:=0) (xs:=xs) ho (by rw[bKW]; exact bKK (by simp[bD]))
 have hle:(Lib.compact xs).length≤xs.length:=by
  unfold Lib.compact Lib.compactUpTo
  have:=List.length_filter_le (Lib.keeps xs.toArray) (bJU xs.length)
  simpa using this
 refine (Any.slices_Compact_int L o 0 cap xs w hH Om hlen).mono fun e w' he=>?_
 obtain⟨rfl,n,rfl⟩:=he
 have key:=aUA hW ho (ys:=Lib.compact xs++bJW (xs.length-(Lib.compact xs).length) 0) (by simp; omega) n #[]
 rw[grow_empty] at key
 obtain⟨k1,k2⟩:=key
 rw[show ∀ z,(PH.nil.set o (.rows 1 (bD xs))).set o (.rows 1 z)=PH.nil.set o (.rows 1 z) from fun z=>PH.ext fun q=>by simp only[bV]; split<;>rfl] at k1 k2
 exact⟨_,.osl o 1 0 _,E,_,rfl,k1,.osl rfl rfl (.inr (by simp)) Om bJK hs bIV,k2,rfl,rfl⟩
theorem akY (L:Lays2.n20 C.P ρ) (hn:C.num name=ρ.f 20) (hf:∃ fn,C.P.funcs[C.num name]?=some fn∧fn.body.isSome=true∧(fn.name=="runtime.NumGoroutine")=false) (v:PV) (H:PH)
  (hv:v=.aB∨∃ o off,v=.osl o 1 off 0):aE C name [v] H (fun r H'=>r=v∧H'=H):=by
 refine⟨hf,fun E w vs hN hW hvs=>?_⟩
 obtain⟨vl⟩:=vs
 cases hvs with
 | cons h1 h2 =>
 cases h2
 rename_i u
 have:∃ p cap,u=.slice p 0 cap:=by
  rcases hv with rfl | ⟨o,off,rfl⟩
  ·cases h1; exact⟨none,0,rfl⟩
  ·cases h1; exact⟨_,_,rfl⟩
 obtain⟨p,cap,rfl⟩:=this
 rw[hn]
 refine (Any.slices_Compact_int_empty L p cap w).mono fun e w' he=>?_
 obtain⟨rfl,rfl⟩:=he
 exact⟨_,v,E,_,rfl,hW,h1,.refl _ _ _,rfl,rfl⟩
end
abbrev lists (ws:List (List Int)):PV:=.sl 1 (ws.map fun w=>[ints w])
def WM (xs:List Int) (r:PV) (H:PH):Prop:=(xs=[]∧r=.aB∧H=.nil)∨(xs≠[]∧∃ o,r=.osl o 1 0 xs.length∧H=PH.nil.set o (.rows 1 (bD xs)))
def bkH (n:Int) (r:PV) (H:PH):Prop:=(n=0∧r=.aB∧H=.nil)∨(0<n∧∃ o,r=.osl o 1 0 0∧H=PH.nil.set o (.rows 1 []))
def aZP (ws:List (List Int)) (i:Nat):PF:=((((((PF.nil.set 0 (lists ws)).set 2 (.aB)).set 3 (.int .i64 ((ws.take i).flatten.length:Nat))).set 9 (lists ws)).set 10 (.int .i64 (ws.length:Nat))).set 11 (.int .i64 i))
def EK (ws:List (List Int)) (v:PV) (i:Nat):PF:=(((((PF.nil.set 2 (.aB)).set 6 (v)).set 25 (lists ws)).set 26 (.int .i64 (ws.length:Nat))).set 27 (.int .i64 i))
theorem aoU (ws:List (List Int)) {i:Nat} (h:i<ws.length):(ws.take (i+1)).flatten=(ws.take i).flatten++ws[i]:=by
 rw[bLK h,List.flatten_append]; simp
theorem SD (ws:List (List Int)) (i:Nat):(ws.take i).flatten.length≤ws.flatten.length:=by
 conv=>rhs; rw[← bMF i ws,List.flatten_append,bKA]
 omega
theorem a6D {C:Ctx} (ws:List (List Int)) (h1:ws.length≤1000000) (h2:ws.flatten.length≤1000000) (hg:∀ n:Int,0≤n→n≤1000000→aE C 179 [.aB,.int .i64 n] .nil (bkH n)) :
  zO.wp C (aT concat.res (WM ws.flatten)) (PF.args [lists ws]) .nil:=by
 simp only[go_sem,γ,δ,ε,ζ,η,θ,ι,κ,μ,ν,ξ,ο,ρ,σ,τ,υ,reduceIte,reduceCtorEq,zO,anO,anP,anQ,lists,concat]
 refine wp_loop (α:=Nat) (aZP ws) (fun _=>.nil) (fun i=>i≤ws.length) (fun i=>ws.length-i) 0 Om ?_ PH.nil_le ?_
 ·unfold aZP
  exact Lq
 intro i hi
 simp only[go_sem,γ,δ,ε,ζ,η,θ,ι,κ,μ,ν,ξ,ο,ρ,σ,τ,υ,reduceIte,reduceCtorEq,anN,anR,aZP]
 refine kS (fun h=>?_) (fun h=>?_)
 ·have hlt:i<ws.length:=by simpa using h
  have hx:(ws.map fun w=>[ints w])[i]?=some [ints ws[i]]:=by simp[hlt]
  have hf:=aoU ws hlt
  have hle:=SD ws (i+1)
  have hlen:(ws.take (i+1)).flatten.length=(ws.take i).flatten.length+ws[i].length:=by rw[hf,bKA]
  have hw:IntKind.i64.wrap (((ws.take i).flatten.length:Nat)+(ws[i].length:Int))=((ws.take (i+1)).flatten.length:Nat):=by
   rw[hlen]
   rw[show (((ws.take i).flatten.length:Nat):Int)+(ws[i].length:Int)=(((ws.take i).flatten.length+ws[i].length:Nat):Int) by omega]
   exact sH Om
  have hn:¬ (((ws.take (i+1)).flatten.length:Nat):Int)<0:=by omega
  simp only[go_sem,γ,δ,ε,ζ,η,θ,ι,κ,μ,ν,ξ,ο,ρ,σ,τ,υ,reduceIte,reduceCtorEq,anS,anT,hx,hw,anU,hn,anV]
  refine aH (i+1) Om Om ?_ PH.nil_le
  unfold aZP
  (repeat' (first|exact PF.nil_le|refine PF.aI ?_ ?_))<;>first|(simp only[go_sem,γ,δ,ε,ζ,η,θ,ι,κ,μ,ν,ξ,ο,ρ,σ,τ,υ,reduceIte,reduceCtorEq,wZz i]<;>rfl)|rfl
 ·have he:i=ws.length:=by simp at h; omega
  subst he
  have ht:(ws.take ws.length).flatten=ws.flatten:=by rw[bKS]
  simp only[go_sem,γ,δ,ε,ζ,η,θ,ι,κ,μ,ν,ξ,ο,ρ,σ,τ,υ,reduceIte,reduceCtorEq,aaO,ht]
  refine eR (hg (ws.flatten.length:Nat) Om Om) Ev PH.nil_le ?_
  intro r H' hr ha
  rcases hr with ⟨hn,rfl,rfl⟩ | ⟨hn,o,rfl,rfl⟩
  ·have h0:ws.flatten=[]:=bNJ Om
   rw[PH.kV]
   simp only[go_sem,γ,δ,ε,ζ,η,θ,ι,κ,μ,ν,ξ,ο,ρ,σ,τ,υ,reduceIte,reduceCtorEq,EN]
   refine wp_loop (α:=Nat) (EK ws .aB) (fun _=>.nil) (fun i=>i≤ws.length) (fun i=>ws.length-i) 0 Om ?_ PH.nil_le ?_
   ·unfold EK
    exact Lq
   intro i hi
   simp only[go_sem,γ,δ,ε,ζ,η,θ,ι,κ,μ,ν,ξ,ο,ρ,σ,τ,υ,reduceIte,reduceCtorEq,EM,EO,EK]
   refine kS (fun h=>?_) (fun h=>?_)
   ·have hlt:i<ws.length:=by simpa using h
    have hx:(ws.map fun w=>[ints w])[i]?=some [ints ws[i]]:=by simp[hlt]
    have he:ws[i]=[]:=by
     rw[List.flatten_eq_nil_iff] at h0
     exact h0 _ (bJX _)
    simp only[go_sem,γ,δ,ε,ζ,η,θ,ι,κ,μ,ν,ξ,ο,ρ,σ,τ,υ,reduceIte,reduceCtorEq,EP,EQ,hx,he]
    refine xY (src:=[]) rfl (by unfold roomFor; simp) (fun _=>?_) (fun h=>(h rfl).elim)
    simp only[go_sem,γ,δ,ε,ζ,η,θ,ι,κ,μ,ν,ξ,ο,ρ,σ,τ,υ,reduceIte,reduceCtorEq,uG]
    refine aH (i+1) Om Om ?_ PH.nil_le
    unfold EK
    (repeat' (first|exact PF.nil_le|refine PF.aI ?_ ?_))<;>first|(simp only[go_sem,γ,δ,ε,ζ,η,θ,ι,κ,μ,ν,ξ,ο,ρ,σ,τ,υ,reduceIte,reduceCtorEq,wZz i]<;>rfl)|rfl
   ·simp only[go_sem,γ,δ,ε,ζ,η,θ,ι,κ,μ,ν,ξ,ο,ρ,σ,τ,υ,reduceIte,reduceCtorEq,uH]
    exact aX (.inr rfl) .nil Ev PH.nil_le (.inl ⟨h0,rfl,rfl⟩)
  ·have h0:ws.flatten≠[]:=by intro e; rw[e] at hn; simp at hn
   rw[PH.kD]
   simp only[go_sem,γ,δ,ε,ζ,η,θ,ι,κ,μ,ν,ξ,ο,ρ,σ,τ,υ,reduceIte,reduceCtorEq,EN]
   refine wp_loop (α:=Nat × Nat) (fun a=>EK ws (.osl a.2 1 0 (ws.take a.1).flatten.length) a.1) (fun a=>PH.nil.set a.2 (.rows 1 (bD (ws.take a.1).flatten))) (fun a=>a.1≤ws.length) (fun a=>ws.length-a.1) (0,o) (by simp) ?_ ?_ ?_
   ·unfold EK
    exact Lq
   ·exact PH.aI PH.nil_le (by simp only[go_sem,γ,δ,ε,ζ,η,θ,ι,κ,μ,ν,ξ,ο,ρ,σ,τ,υ,reduceIte,reduceCtorEq]; rfl)
   rintro⟨i,q⟩ hi
   simp only[go_sem,γ,δ,ε,ζ,η,θ,ι,κ,μ,ν,ξ,ο,ρ,σ,τ,υ,reduceIte,reduceCtorEq,EM,EO,EK]
   simp only at hi
   refine kS (fun h=>?_) (fun h=>?_)
   ·have hlt:i<ws.length:=by simpa using h
    have hx:(ws.map fun w=>[ints w])[i]?=some [ints ws[i]]:=by simp[hlt]
    have hf:=aoU ws hlt
    have hle:=SD ws (i+1)
    have hlen:(ws.take (i+1)).flatten.length=(ws.take i).flatten.length+ws[i].length:=by rw[hf,bKA]
    have hrows:(bD (ws.take i).flatten).take (ws.take i).flatten.length++(ws[i].map fun n=>[PV.int .i64 n])=bD (ws.take (i+1)).flatten:=by
     rw[bKK (by unfold bD; rw[bJT]; exact bJV _),hf]; unfold bD; rw[bLW]
    have fin:∀ (q':Nat) (H':PH),H' q'=some (.rows 1 (bD (ws.take (i+1)).flatten))→∀ F':PF,F' 2=some .aB→F' 6=some (.osl q' 1 0 (ws.take (i+1)).flatten.length)→F' 25=some (lists ws)→F' 26=some (.int .i64 ws.length)→F' 27=some (.int .i64 ((i+1:Nat):Int)) →
      eE (fun a:Nat × Nat=>EK ws (.osl a.2 1 0 (ws.take a.1).flatten.length) a.1) (fun a=>PH.nil.set a.2 (.rows 1 (bD (ws.take a.1).flatten))) (fun a=>a.1≤ws.length) (fun a=>ws.length-a.1) (ws.length-i) (dW 2 (iD C (aC.wp C ((aC.region uH).seq aC.ret)) (aT [.tmp 2] (WM ws.flatten)))) .normal F' H':=by
     intro q' H' e1 F' f2 f6 f25 f26 f27
     refine aH (i+1,q') (by simp only; omega) (by simp only; omega) ?_ (PH.aI PH.nil_le e1)
     unfold EK
     exact PF.aI (PF.aI (PF.aI (PF.aI (PF.aI PF.nil_le f2) f6) f25) f26) f27
    simp only[go_sem,γ,δ,ε,ζ,η,θ,ι,κ,μ,ν,ξ,ο,ρ,σ,τ,υ,reduceIte,reduceCtorEq,EP,EQ,hx]
    refine RA (src:=ws[i].map fun n=>[PV.int .i64 n]) (rs:=bD (ws.take i).flatten) rfl (by unfold roomFor; rw[bJT]; simp only[maxLen]; omega) Sq (by unfold bD; rw[bJT]; exact bJV _) ?_ ?_
    ·rw[hrows,bJT,← hlen]
     simp only[go_sem,γ,δ,ε,ζ,η,θ,ι,κ,μ,ν,ξ,ο,ρ,σ,τ,υ,reduceIte,reduceCtorEq,uG,wZz i]
     exact fin q _ Sq _ Sq Sq Sq Sq Sq
    ·intro q' hq'
     rw[hrows,bJT,← hlen]
     simp only[go_sem,γ,δ,ε,ζ,η,θ,ι,κ,μ,ν,ξ,ο,ρ,σ,τ,υ,reduceIte,reduceCtorEq,uG,wZz i]
     exact fin q' _ Sq _ Sq Sq Sq Sq Sq
   ·have he:i=ws.length:=by simp at h; omega
    subst he
    simp only[go_sem,γ,δ,ε,ζ,η,θ,ι,κ,μ,ν,ξ,ο,ρ,σ,τ,υ,reduceIte,reduceCtorEq,uH]
    refine aX (.inr rfl) (PH.nil.set q (.rows 1 (bD ws.flatten))) Ev (PH.aI PH.nil_le (by simp only[go_sem,γ,δ,ε,ζ,η,θ,ι,κ,μ,ν,ξ,ο,ρ,σ,τ,υ,reduceIte,reduceCtorEq,ht])) (.inr ⟨h0,q,?_,rfl⟩)
    simp only[aV,ht]
abbrev WPs:=List (PV × List Int)
def fJ (ps:WPs):List (List PV):=ps.map fun p=>[p.1]
def jH (ps:WPs):List LI:=ps.map fun p=>(p.1,1,bD p.2)
def wls (ps:WPs):List (List Int):=ps.map (·.2)
def cV (vo:PV) (ps:WPs):List LI:=(vo,1,fJ ps)::jH ps
section
variable {H:PH} {B:List BX}
theorem pT (ps:WPs):(fJ ps).length=ps.length:=bJT _
theorem SK {ps:WPs} {i:Nat} {v:PV} {w:List Int} (hi:ps[i]?=some (v,w)):(jH ps)[i]?=some (v,1,bD w):=by
 unfold jH
 rw[bKZ,hi]; rfl
theorem rY {ps:WPs} {i:Nat} {v:PV} {w:List Int} (hi:ps[i]?=some (v,w)):(fJ ps)[i]?=some [v]:=by
 unfold fJ
 rw[bKZ,hi]; rfl
theorem aQ.bkL (h:aQ H B []):aQ H B (cV .aB []):=h.mF 1
theorem aQ.inner {vo:PV} {ps:WPs} (h:aQ H B (cV vo ps)) {i:Nat} {v:PV} {w:List Int} (hi:ps[i]?=some (v,w)):bL H 1 v (bD w):=h.own (i+1) (SK hi)
theorem aQ.outer {vo:PV} {ps:WPs} (h:aQ H B (cV vo ps)):bL H 1 vo (fJ ps):=h.own 0 rfl
theorem qP (a b:List Int):bD (a++b)=bD a++bD b:=bLW
theorem aQ.a2G {vo:PV} {ps:WPs} (h:aQ H B (cV vo ps)) {i b:Nat} {v y:PV} {w src:List Int} {K:PV→PH→Prop} (hi:ps[i]?=some (v,w)) (hy:dU H 1 y=some (bD src)) (hr:roomFor w.length src.length b) (hne:src≠[])
  (hk:∀ q H',aQ H' B ((vo,1,fJ ps)::(jH ps).set i (.osl q 1 0 (w++src).length,1,bD (w++src)))→K (.osl q 1 0 (w++src).length) H'):kY H 1 b v y K:=by
 have bIU:bD src≠[]:=fun e=>hne (List.map_eq_nil_iff.1 e)
 refine h.append (i+1) (SK hi) hy (by rw[dO,dO]; exact hr) fun v' H' h' hv=>?_
 obtain⟨q,rfl⟩:=hv bIU
 rw[← qP,dO] at h' ⊢
 exact hk q H' h'
theorem aQ.PI {qo n i:Nat} {ps:WPs} {v':PV} {w':List Int} (h:aQ H B ((.osl qo 1 0 n,1,fJ ps)::(jH ps).set i (v',1,bD w'))) :
  ∃ rs,H qo=some (.rows 1 rs)∧n≤rs.length∧rs.take n=fJ ps∧aQ (H.set qo (.rows 1 (rs.set i [v']))) B (cV (.osl qo 1 0 n) (ps.set i (v',w'))):=by
 obtain⟨rs,h1,h2,h3,h4⟩:=h.store 0 rfl i [v']
 refine⟨rs,h1,h2,h3,?_⟩
 have e:cV (.osl qo 1 0 n) (ps.set i (v',w'))=((.osl qo 1 0 n,1,fJ ps)::(jH ps).set i (v',1,bD w')).set 0 (.osl qo 1 0 n,1,(fJ ps).set i [v']):=by
  unfold cV fJ jH
  rw[List.map_set,List.map_set]
  rfl
 rw[e]
 exact h4
theorem aQ.bnS {vo:PV} {ps:WPs} {b:Nat} {y:PV} {K:PV→PH→Prop} (h:aQ H B (cV vo ps)) (hy:dU H 1 y=some [[.aB]]) (hr:roomFor ps.length 1 b)
  (hk:∀ q H',aQ H' B (cV (.osl q 1 0 (ps.length+1)) (ps++[(.aB,[])]))→K (.osl q 1 0 (ps.length+1)) H'):kY H 1 b vo y K:=by
 refine h.append 0 (src:=[[.aB]]) rfl hy (by rw[pT]; exact hr) fun v' H' h' hv=>?_
 obtain⟨q,rfl⟩:=hv (by simp)
 have h2:=h'.mF 1
 rw[bKA,pT] at h2 ⊢
 refine hk q H' ?_
 have e:cV (.osl q 1 0 (ps.length+1)) (ps++[(.aB,[])])=(((vo,1,fJ ps)::jH ps).set 0 (.osl q 1 0 (ps.length+1),1,fJ ps++[[.aB]]))++[(.aB,1,[])]:=by
  unfold cV fJ jH
  rw[bLW,bLW]
  rfl
 rw[e]
 exact h2
def oK (fs:List (List PV)) (ws:List (List Int)):Prop:=fs.length=ws.length∧∀ (i:Nat) r w,fs[i]?=some r→ws[i]?=some w→r=[ints w]∨(r=[.aB]∧w=[])
theorem oK.nil:oK [] []:=⟨rfl,fun i r w h=>by cases h⟩
theorem oK.snoc {fs:List (List PV)} {ws:List (List Int)} {u:PV} {w:List Int} (h:oK fs ws) (hu:u=ints w∨(u=.aB∧w=[])):oK (fs++[[u]]) (ws++[w]):=by
 refine⟨by simp[h.1],fun i r x hr hx=>?_⟩
 rcases Nat.lt_trichotomy i fs.length with c | c | c
 ·rw[bMH c] at hr
  rw[bMH (by rw[← h.1]; exact c)] at hx
  exact h.2 i r x hr hx
 ·subst c
  rw[bLS (bJV _),bMI] at hr
  rw[h.1,bLS (bJV _),bMI] at hx
  cases hr; cases hx
  rcases hu with rfl | ⟨rfl,rfl⟩
  ·exact .inl rfl
  ·exact .inr ⟨rfl,rfl⟩
 ·rw[bLS Om,bLG (by simp; omega)] at hr
  cases hr
theorem oK.flat {fs:List (List PV)} {ws:List (List Int)} (h:oK fs ws):Flat fs:=Flat.of fun r hr c hc q s rs=>by
 obtain⟨i,hi⟩:=List.mem_iff_getElem?.1 hr
 have hl:=(bKV.1 hi).1
 rcases h.2 i r _ hi (bKD (by rw[← h.1]; exact hl)) with rfl | ⟨rfl,-⟩
 ·rw[bLD] at hc; subst hc; rfl
 ·rw[bLD] at hc; subst hc; rfl
theorem oK.co {fs:List (List PV)} {ws:List (List Int)} (h:oK fs ws):Co (.sl 1 fs) (lists ws):=by
 have key:∀ (i:Nat) r t,fs[i]?=some r→(ws.map fun w=>[ints w])[i]?=some t→∃ w,t=[ints w]∧(r=[ints w]∨(r=[.aB]∧w=[])):=fun i r t hr ht=>by
  rw[bKZ] at ht
  cases hw:ws[i]? with
  | none=>rw[hw] at ht; cases ht
  | some w =>
   rw[hw] at ht
   cases ht
   exact⟨w,rfl,h.2 i r w hr hw⟩
 refine .sl (by rw[bJT,h.1]) (fun i r t hr ht=>?_) (fun i j p q hp hq=>?_)
 ·obtain⟨w,rfl,h1 | ⟨h1,-⟩⟩:=key i r t hr ht<;>subst h1<;>rfl
 ·unfold at2 at hp hq
  cases hr:fs[i]? with
  | none=>rw[hr] at hp; cases hp
  | some r =>
   cases ht:(ws.map fun w=>[ints w])[i]? with
   | none=>rw[ht] at hq; cases hq
   | some t =>
    rw[hr] at hp
    rw[ht] at hq
    obtain⟨w,rfl,h1⟩:=key i r t hr ht
    rcases h1 with rfl | ⟨rfl,rfl⟩
    ·have:some p=some q:=hp.symm.trans hq
     cases this
     exact .refl _
    ·cases j with
     | zero=>cases hp; cases hq; exact .nil 1
     | succ j=>cases hp
end
def Fx (u:PV):Prop:=∀ q s rs,PV.frz q s rs u=u
theorem Fx.int (k:IntKind) (n:Int):Fx (.int k n):=fun _ _ _=>rfl
theorem Fx.bool (b:Bool):Fx (.bool b):=fun _ _ _=>rfl
theorem Fx.sl (n:Nat) (r:List (List PV)):Fx (.sl n r):=fun _ _ _=>rfl
theorem Fx.aB:Fx .aB:=fun _ _ _=>rfl
theorem Fx.ptr (q z i c:Nat):Fx (.ptr q z i c):=fun _ _ _=>rfl
theorem Fx.bH (c:List PV):Fx (.bH c):=fun _ _ _=>rfl
theorem bL.dC {H:PH} {s:Nat} {v:PV} {rows:List (List PV)} (h:bL H s v rows) (q z:Nat) (rs:List (List PV)):PV.frz q z rs v=PV.dC q z rs v:=by
 rcases h with ⟨-,rfl⟩ | ⟨p,rs',rfl,-⟩<;>rfl
def aLM (φ:PV→PV) (F:PF):PF:=fun i=>(F i).map φ
theorem SY (φ:PV→PV) (F:PF) (i:Nat):aLM φ F i=(F i).map φ:=rfl
theorem YE:∀ (ps:WPs) {H:PH} {B:List BX} {vo:PV} (fs:List (List PV)) (ws0:List (List Int)),oK fs ws0→aQ H B ((vo,1,fs++fJ ps)::jH ps)→(∀ b∈B,∀ q s rs,cP.frz q s rs b.2=b.2) →
  ∃ (φ:PV→PV) (H1:PH),Co (φ vo) (lists (ws0++wls ps))∧(∀ u,Fx u→φ u=u)∧(∀ e:Int,φ (.tup [vo,.int .i64 e])=.tup [φ vo,.int .i64 e])∧aQ H1 B []∧(∀ F:PF,iW F H (aLM φ F) H1)∧∀ o,(H o=none∨vo.oid=some o∨∃ p∈ps,p.1.oid=some o)→H1 o=none
 | [],H,B,vo,fs,ws0,hs,h,hB=>by
  have e0:fs++fJ []=fs:=bLM fs
  have e1:ws0++wls []=ws0:=bLM ws0
  rw[e0] at h
  rw[e1]
  rcases h.own 0 rfl with ⟨h1,rfl⟩ | ⟨q,rs,rfl,_⟩
  ·refine⟨id,H,?_,fun _ _=>rfl,fun _=>rfl,h.a0B 0,fun F=>?_,fun o ho=>?_⟩
   ·subst h1
    have:ws0=[]:=List.length_eq_zero_iff.1 hs.1.symm
    subst this
    exact .nil 1
   ·have:aLM id F=F:=funext fun i=>by rw[SY]; simp
    rw[this]
    exact .refl _ _
   ·rcases ho with ho | ho | ⟨p,hp,-⟩
    ·exact ho
    ·cases ho
    ·cases hp
  ·obtain⟨rs,z1,z2,z3,z4,z5⟩:=h.frz 0 rfl
   refine⟨PV.frz q 1 rs,H.frz q 1 rs,?_,fun u hu=>hu _ _ _,fun e=>?_,?_,fun F=>.step q z1 (.refl _ _),fun o ho=>?_⟩
   ·rw[z3]; exact hs.co
   ·show PV.tup [PV.dC q 1 rs (.osl q 1 0 fs.length),.int .i64 e]=_
    rw[z2,z3]
   ·have eB:(B.map fun b=>(b.1,b.2.frz q 1 rs))=B:=by
     conv=>rhs; rw[← List.map_id B]
     refine List.map_congr_left fun b hb=>?_
     rw[hB b hb q 1 rs]; rfl
    rw[eB] at z5
    exact z5
   ·rw[vW]
    rcases ho with ho | ho | ⟨p,hp,-⟩
    ·rw[ho]; split<;>rfl
    ·have:q=o:=by injection ho
     rw[if_pos this.symm]
    ·cases hp
 | (v,w)::ps,H,B,vo,fs,ws0,hs,h,hB=>by
  have eo:∀ u:PV,fs++[[u]]++fJ ps=fs++[u]::fJ ps:=fun u=>by rw[bKU]; rfl
  have ew:ws0++[w]++wls ps=ws0++wls ((v,w)::ps):=by rw[bKU]; rfl
  have ho:bL H 1 v (bD w):=h.own 1 rfl
  rcases ho with ⟨h1,rfl⟩ | ⟨q,rs,rfl,_⟩
  ·have hw:w=[]:=List.map_eq_nil_iff.1 h1
   have h2:=h.a0B 1
   obtain⟨φ,H1,k1,k2,k3,k4,k5,k6⟩:=YE ps (fs++[[.aB]]) (ws0++[w]) (hs.snoc (.inr ⟨rfl,hw⟩)) (by rw[eo]; exact h2) hB
   rw[ew] at k1
   refine⟨φ,H1,k1,k2,k3,k4,k5,fun o ho=>k6 o ?_⟩
   rcases ho with ho | ho | ⟨p,hp,ho⟩
   ·exact .inl ho
   ·exact .inr (.inl ho)
   ·rcases bKJ.1 hp with rfl | hp
    ·cases ho
    ·exact .inr (.inr ⟨p,hp,ho⟩)
  ·obtain⟨rs,z1,z2,z3,z4,z5⟩:=h.frz 1 rfl
   have eB:(B.map fun b=>(b.1,b.2.frz q 1 rs))=B:=by
    conv=>rhs; rw[← List.map_id B]
    refine List.map_congr_left fun b hb=>?_
    rw[hB b hb q 1 rs]; rfl
   have y0:PV.dC q 1 rs vo=vo:=z4 0 _ (by decide) rfl
   have y0':PV.frz q 1 rs vo=vo:=((h.own 0 rfl).dC q 1 rs).trans y0
   have yp:∀ p∈ps,PV.dC q 1 rs p.1=p.1:=fun p hp=>by
    obtain⟨j,hj⟩:=List.mem_iff_getElem?.1 hp
    exact z4 (j+2) (p.1,1,bD p.2) Om (SK hj)
   have er:(fs++fJ ((.osl q 1 0 (bD w).length,w)::ps)).map (fun r=>r.map (PV.dC q 1 rs))=fs++[[ints w]]++fJ ps:=by
    rw[bLW,hs.flat,bKU]
    congr 1
    show [PV.dC q 1 rs (.osl q 1 0 (bD w).length)]::(fJ ps).map _=_
    rw[z2]
    have:(fJ ps).map (fun r=>r.map (PV.dC q 1 rs))=fJ ps:=by
     unfold fJ
     rw[List.map_map]
     refine List.map_congr_left fun p hp=>?_
     show [PV.dC q 1 rs p.1]=_
     rw[yp p hp]
    rw[this]
    rfl
   have ei:(jH ps).map (fun x=>(x.1,x.2.1,x.2.2.map fun r=>r.map (PV.dC q 1 rs)))=jH ps:=by
    unfold jH
    rw[List.map_map]
    refine List.map_congr_left fun p _=>?_
    show (p.1,1,(bD p.2).map fun r=>r.map (PV.dC q 1 rs))=_
    rw[show (bD p.2).map (fun r=>r.map (PV.dC q 1 rs))=bD p.2 from Flat.map p.2 (fun x c hc q s rs=>by rw[bLD] at hc; subst hc; rfl) q 1 rs]
   have z6:aQ (H.frz q 1 rs) B ((vo,1,fs++[[ints w]]++fJ ps)::jH ps):=by
    rw[eB] at z5
    have z7:aQ (H.frz q 1 rs) B ((vo,1,(fs++fJ ((.osl q 1 0 (bD w).length,w)::ps)).map (fun r=>r.map (PV.dC q 1 rs)))::(jH ps).map (fun x=>(x.1,x.2.1,x.2.2.map fun r=>r.map (PV.dC q 1 rs)))):=z5
    rw[er,ei] at z7
    exact z7
   obtain⟨φ,H1,k1,k2,k3,k4,k5,k6⟩:=YE ps (fs++[[ints w]]) (ws0++[w]) (hs.snoc (.inl rfl)) z6 hB
   rw[ew] at k1
   refine⟨fun u=>φ (PV.frz q 1 rs u),H1,?_,fun u hu=>?_,fun e=>?_,k4,fun F=>.step q z1 ?_,fun o ho=>k6 o ?_⟩
   ·simp only
    rw[y0']; exact k1
   ·simp only
    rw[hu,k2 u hu]
   ·simp only
    rw[y0']
    have yt:PV.frz q 1 rs (.tup [vo,.int .i64 e])=.tup [PV.frz q 1 rs vo,.int .i64 e]:=by
     rcases h.own 0 rfl with ⟨-,e0⟩ | ⟨p,rs',e0,-⟩<;>(subst e0; rfl)
    rw[yt,y0',k3]
   ·have:aLM (fun u=>φ (PV.frz q 1 rs u)) F=aLM φ (F.frz q 1 rs):=funext fun i=>by
     rw[SY,SY,qO,Option.map_map]
     rfl
    rw[this]
    exact k5 _
   ·rw[vW]
    rcases ho with ho | ho | ⟨p,hp,ho⟩
    ·left; rw[ho]; split<;>rfl
    ·exact .inr (.inl ho)
    ·rcases bKJ.1 hp with rfl | hp
     ·have:q=o:=by injection ho
      left; rw[if_pos this.symm]
     ·exact .inr (.inr ⟨p,hp,ho⟩)
theorem aE.bvO {C:Ctx} {name:Nat} {args args':List PV} {v:PV} {Hx:PH} {F1:PF} (hv:Plain v) (hz:iW (PF.args args) Hx F1 .nil) (hF:∀ (i:Nat) p',args'[i]?=some p'→F1 i=some p') (hl:args'.length=args.length)
  (h:aE C name args' .nil (aD v)):aE C name args Hx (fun r H'=>r=v∧H'=Hx):=by
 refine⟨h.1,fun E w vs hN hW hvs=>?_⟩
 obtain⟨E1,k1,k2,k3⟩:=hz.sound hW
 have hlen:=hvs.len
 have hvs1:eI E1 args' vs.toList:=by
  refine eI.of _ _ (by rw[hl]; exact hlen) fun i p u hp hu=>?_
  have:=k3 (fun i=>(vs.toList[i]?).getD undef) (fun j q hj=>by
   have hjl:=(bKV.1 hj).1
   have hjv:j<vs.toList.length:=by omega
   simp only[bKD hjv,bMJ]
   exact hvs.at_ j q _ hj (bKD hjv)) i p (hF i p hp)
  simp only[hu,bMJ] at this
  exact this
 refine (h.2 E1 w vs (k2.env.num.trans hN) k1 hvs1).mono fun e w' he=>?_
 obtain⟨u,pv,E2,H2,rfl,hW2,hr,hE,rfl,rfl⟩:=he
 have hblk:∀ b,b<w.heap.size→w'.heap[b]?=w.heap[b]?:=fun b hb=>hE.block b hb rfl
 exact⟨u,pv,E,_,rfl,hW.same hE.size (fun b hb _=>hblk b hb) (fun q x hq=>hblk q (hW.h q x hq).1),hv.rep hr,⟨.refl E,hE.os,hE.tape,hE.output,hE.size,fun b hb _=>hblk b hb,fun q x hq=>.inl ⟨x,hq⟩,fun b cs hb=>.inl hb⟩,rfl,rfl⟩
theorem aE.aDC {C:Ctx} {name:Nat} {pre:List PV} {v vo:PV} {ps:WPs} {H:PH} {B:List BX} (hv:Plain v) (hp:∀ u∈pre,Fx u) (hH:aQ H B (cV vo ps)) (h:aE C name (pre++[lists (wls ps)]) .nil (aD v)) :
  aE C name (pre++[vo]) (H.only (dA (cV vo ps))) (fun r H'=>r=v∧H'=H.only (dA (cV vo ps))):=by
 have hO:aQ (H.only (dA (cV vo ps))) [] (cV vo ps):=hH.only (B1:=[]) (List.nil_sublist _) (bLR.refl _)
 obtain⟨φ,H1,k1,k2,-,-,k5,k6⟩:=YE ps [] [] .nil hO (fun b hb=>by cases hb)
 have hn:H1=.nil:=PH.ext fun o=>by
  refine k6 o ?_
  by_cases c:o∈dA (cV vo ps)
  ·right
   obtain⟨x,hx,ho⟩:=List.mem_filterMap.1 c
   rcases bKJ.1 hx with rfl | hx
   ·exact .inl ho
   ·obtain⟨p,hp,rfl⟩:=bKX.1 hx
    exact .inr ⟨p,hp,ho⟩
  ·left
   unfold PH.only
   simp[c]
 subst hn
 have h2:aE C name (pre++[φ vo]) .nil (aD v):=h.args (by
  refine⟨by simp,fun j p q hj hq=>?_⟩
  rcases Nat.lt_trichotomy j pre.length with c | c | c
  ·rw[bMH c] at hj hq
   rw[hj] at hq; cases hq; exact .refl _
  ·subst c
   rw[bLS (bJV _),bMI] at hj hq
   cases hj; cases hq; exact k1
  ·rw[bLS Om,bLG (by simp; omega)] at hj
   cases hj)
 refine h2.bvO hv (k5 _) (fun i p' hi=>?_) (by simp)
 rw[SY]
 show (( pre++[vo])[i]?).map φ=some p'
 rcases Nat.lt_trichotomy i pre.length with c | c | c
 ·rw[bMH c] at hi ⊢
  rw[hi,bLF,k2 p' (hp p' (bMK hi))]
 ·subst c
  rw[bLS (bJV _),bMI] at hi ⊢
  cases hi
  rfl
 ·rw[bLS Om,bLG (by simp; omega)] at hi
  cases hi
theorem LQ {C:Ctx} {F:PF} {H Hs:PH} {S:Spec} {name:Nat} {D:List Nat} {vs:List PV} {v:PV} {args:List aP} {st:Bool} {d:Option Nat} {K:PF→PH→Prop} (hS:S name vs=some (D,fun G r H'=>r=v∧H'=G)) (hD:∀ o∈D,∃ x,H o=some x)
  (h:aE C name vs (H.only D) (fun r H'=>r=v∧H'=H.only D)) (ha:aP.evs F args=some vs) (hle:Hs.le H) (hk:K (F.put d v) H):dOp C Hs S st (.call name args) d K F H:=by
 refine⟨vs,D,_,ha,hS,hD,h,fun G=>⟨v,_,⟨rfl,rfl⟩,fun q y hy hn=>?_⟩,fun r H' hr _=>?_⟩
 ·rw[hy] at hn; cases hn
 ·obtain⟨rfl,rfl⟩:=hr
  rw[PH.OL _ (SO H D)]
  exact⟨hle,hk⟩
theorem bL.lenOf {H:PH} {v:PV} {rows:List (List PV)} {s:Nat} (h:bL H s v rows):PV.uA v=some (.int .i64 (rows.length:Nat)):=by
 rcases h with ⟨rfl,rfl⟩ | ⟨q,rs,rfl,-⟩<;>rfl
theorem RB {C:Ctx} {F:PF} {H:PH} {name:Nat} {d:Option Nat} {v x u:PV} {l:List Int} {args:List aP} {K:PF→PH→Prop} (hv:Plain u) (h:aE C name [ints l,x] .nil (aD u)) (hx:Fx x) (hO:bL H 1 v (bD l)) (ha:aP.evs F args=some [v,x])
  (hk:K (F.put d u) H):fP C name args [] d K F H:=by
 rcases hO with ⟨h0,rfl⟩ | ⟨q,rs,rfl,h1,h2,h3⟩
 ·have:l=[]:=List.map_eq_nil_iff.1 h0
  subst this
  exact aA (h.args (.awK (.nil 1) (.awK (.refl x) .brZ))) ha hk
 ·refine CG hv ?_ h1 ha hk
  rw[bLX,bLX,List.map_nil,hx,nJ h2,h3]
  exact h
def aeW (l:List Int):Bool:=decide l.Nodup
theorem aNV (l:List Int) (x:Int):aeW (l++[x])=(aeW l&&!l.contains x):=by
 unfold aeW
 rw[Bool.eq_iff_iff,decide_eq_true_iff,bKR,decide_eq_true_iff,bME]
 constructor
 ·rintro⟨h1,-,h3⟩
  refine⟨h1,?_⟩
  cases hc:l.contains x with
  | false=>rfl
  | true=>exact absurd rfl (h3 x (bNE.1 hc) x (by simp))
 ·rintro⟨h1,h2⟩
  refine⟨h1,by simp,fun a ha b hb=>?_⟩
  rw[bLD] at hb
  subst hb
  rintro rfl
  rw[bNE.2 ha] at h2
  cases h2
theorem aQ.xE {H:PH} {B:List BX} {vo:PV} {ps:WPs} (h:aQ H B (cV vo ps)) {i:Nat} (hi:i<ps.length) :
  ∃ qo rs,vo=.osl qo 1 0 ps.length∧H qo=some (.rows 1 rs)∧rs[i]?=some [ps[i].1]∧i<rs.length:=by
 rcases h.outer with ⟨h1,-⟩ | ⟨q,rs,rfl,h1,h2,h3⟩
 ·have:(fJ ps).length=0:=by rw[h1]; rfl
  rw[pT] at this
  omega
 ·rw[pT] at h2 h3
  refine⟨q,rs,by rw[pT],h1,?_,by omega⟩
  have:=rY (ps:=ps) (i:=i) (v:=ps[i].1) (w:=ps[i].2) (by rw[bKD hi])
  rw[← h3,bMO hi] at this
  exact this
theorem aQ.aTC {H:PH} {B:List BX} {vo:PV} {ps:WPs} (h:aQ H B (cV vo ps)):PV.uA vo=some (.int .i64 (ps.length:Nat)):=by
 have:=h.outer.lenOf
 rwa [pT] at this
theorem aQ.aRY {H:PH} {B:List BX} {vo:PV} {ps:WPs} (h:aQ H B (cV vo ps)) {i:Nat} (hi:i<ps.length):bL H 1 ps[i].1 (bD ps[i].2):=h.inner (by rw[bKD hi])
theorem wF (ps:WPs):(wls ps).length=ps.length:=bJT _
def ZX (ws:List (List Int)) (e:Int) (r:PV) (H:PH):Prop:=∃ vo ps,r=.tup [vo,.int .i64 e]∧aQ H [] (cV vo ps)∧wls ps=ws
theorem afM {res:List dQ} {F:PF} {H:PH} {vo:PV} {ps:WPs} {ws:List (List Int)} {c:Int} {e:lJ} (he:e=.normal∨e=.ret) (h:dQ.evs F H res=some [vo,.int .i64 c]) (hH:aQ H [] (cV vo ps)) (hw:wls ps=ws):aT res (ZX ws c) e F H :=
 aX he H h PH.le_refl ⟨vo,ps,rfl,hH,hw⟩
theorem a7P {C:Ctx} {H:PH} {name:Nat} {pre:List PV} {v u:PV} {l:List Int} (hv:Plain u) (hp:∀ x∈pre,Fx x) (hO:bL H 1 v (bD l)) (hne:l≠[]) (h:aE C name (pre++[ints l]) .nil (aD u)) :
  ∃ q,v=.osl q 1 0 l.length∧(∃ x,H q=some x)∧aE C name (pre++[v]) (H.only [q]) (fun r H'=>r=u∧H'=H.only [q]):=by
 rcases hO with ⟨h0,-⟩ | ⟨q,rs,rfl,h1,h2,h3⟩
 ·exact absurd (List.map_eq_nil_iff.1 h0) hne
 ·rw[dO] at h2 h3 ⊢
  refine⟨q,rfl,⟨_,h1⟩,?_⟩
  rw[YP h1]
  refine aE.bgG hv ?_
  have e:pre.map (PV.frz q 1 rs)=pre:=by
   conv=>rhs; rw[← List.map_id pre]
   exact List.map_congr_left fun x hx=>hp x hx q 1 rs
  rw[bLW,e,bLX,List.map_nil,nJ h2,h3]
  exact h
theorem aRZ {α:Type} (L:List α) (x:α) (n:Nat) (h:L.length=n):(L++[x])[n]?=some x:=by
 subst h; simp
theorem tJ (vo:PV) (ps:WPs):(cV vo ps).length=ps.length+1:=by unfold cV jH; simp
structure akT (f:aK) (now:List (List Int)) (r:Int) (d:Nat) (ps:WPs):Prop where
 eq:wls ps=oT f now r d
 num:ps.length≤d
 len:∀ i (h:i<ps.length),1≤(ps[i].2).length∧(ps[i].2).length≤d
theorem akT.of {f:aK} {now:List (List Int)} {r:Int} (ha:tA f now r=true) {d:Nat} (hd:d≤f.bHP.length) {ps:WPs} (h:wls ps=oT f now r d):akT f now r d ps:=by
 have k:=QY ha d hd
 rw[← h] at k
 have h1:∀ i (h:i<ps.length),ps[i].2∈wls ps:=fun i hi=>bKX.2 ⟨ps[i],bJX hi,rfl⟩
 have ne:∀ l∈wls ps,1≤l.length:=fun l hl=>by
  have:=k.ok l hl
  unfold kR at this
  cases l with
  | nil=>cases this
  | cons x xs=>rw[bLU]; omega
 refine⟨h,?_,fun i hi=>⟨ne _ (h1 i hi),?_⟩⟩
 ·have h2:(wls ps).length≤(wls ps).flatten.length:=by
   generalize wls ps=w at ne
   induction w with
   | nil=>exact bJV _
   | cons l w ih =>
    have:=ih fun x hx=>ne x (List.mem_cons_of_mem _ hx)
    have:=ne l (by simp)
    rw[bNG,bKA,bLU]
    omega
  rw[wF,k.len] at h2
  exact h2
 ·have:=(List.sublist_flatten_of_mem (h1 i hi)).length_le
  rw[k.len] at this
  exact this
theorem bhJ {f:aK} {now:List (List Int)} {r:Int} {ps:WPs} {d i:Nat} (hi:i<ps.length) (hno:∀ j (h:j<ps.length),j<i→fW f now r (ps[j].2++[(d:Int)])=false) (hyes:fW f now r (ps[i].2++[(d:Int)])=true) (v:PV) :
  OU f now r (wls ps) d=wls (ps.set i (v,ps[i].2++[(d:Int)])):=by
 have e:(wls ps).findIdx? (fun l=>fW f now r (l++[(d:Int)]))=some i:=by
  rw[List.findIdx?_eq_some_iff_getElem]
  refine⟨by rw[wF]; exact hi,by simpa [wls] using hyes,fun j hj=>?_⟩
  have:=hno j Om hj
  simpa [wls] using this
 unfold OU
 rw[e]
 simp only
 unfold wls
 rw[List.map_set,bKO,bKZ,bKD hi]
 rfl
theorem a9H {f:aK} {now:List (List Int)} {r:Int} {ps:WPs} {d:Nat} (hno:∀ j (h:j<ps.length),fW f now r (ps[j].2++[(d:Int)])=false) :
  OU f now r (wls ps) d=wls ps++[[(d:Int)]]:=by
 have e:(wls ps).findIdx? (fun l=>fW f now r (l++[(d:Int)]))=none:=by
  rw[List.findIdx?_eq_none_iff]
  intro l hl
  obtain⟨p,hp,rfl⟩:=bKX.1 hl
  obtain⟨j,hj,rfl⟩:=bMA hp
  rw[hno j hj]
 unfold OU
 rw[e]
def vwS (b:Bool):Spec:=fun name vs=>match name,vs with
 | 255,[_,_,_,.osl p _ _ _]=>some ([p],fun G r H'=>r=.bool b∧H'=G)
 | _,_=>none
structure buB (C:Ctx):Prop extends RV C 253 255 where
 able:∀ (f:aK) (now:List (List Int)) (r:Int),f.Ok→fI now→aE C 266 [.agg f.cells,lay now,.int .i64 r] .nil (aD (.int .i64 (oH f now r)))
theorem bsX {C:Ctx} {K:PF→PH→Prop} {F:PF} {H:PH} {vo v:PV} {ps:WPs} {w:List Int} {i d:Nat} (hH:aQ H [] (cV vo ps)) (hpi:ps[i]?=some (v,w)) (hw:w.length≤1000) (f9:F 9=some vo) (f10:F 10=some (.int .i64 d)) (f11:F 11=some (.int .i64 i))
  (hk:∀ v' H' F',aQ H' [] (cV vo (ps.set i (v',w++[(d:Int)])))→(∀ j,j<58→F' j=F j)→K F' H'):wpOps C vF K F H:=by
 have ilt:i<ps.length:=(bKV.1 hpi).1
 have ilt':(i:Int)<(ps.length:Nat):=by omega
 obtain⟨qo,rs,rfl,b1,b2,b3⟩:=hH.xE ilt
 have e0:ps[i].1=v:=by rw[bKD ilt] at hpi; injection hpi with hpi; rw[hpi]
 rw[e0] at b2
 simp only[go_sem,γ,δ,ε,ζ,η,θ,ι,κ,μ,ν,ξ,ο,ρ,σ,τ,υ,reduceIte,reduceCtorEq,vF,f9,f10,f11,ilt',b1,b2,b3,bKN]
 refine hH.a2G (src:=[(d:Int)]) hpi (by simp only[go_sem,γ,δ,ε,ζ,η,θ,ι,κ,μ,ν,ξ,ο,ρ,σ,τ,υ,reduceIte,reduceCtorEq]; rfl) (by unfold roomFor; simp only[bKH,maxLen]; omega) (by simp) fun q2 H2 h5=>?_
 obtain⟨rs2,e1,e2,e3,h6⟩:=h5.PI
 have il2:i<rs2.length:=by omega
 have hat2:rs2[i]?=some [v]:=by
  have:=rY hpi
  rw[← e3,bMO ilt] at this
  exact this
 simp only[go_sem,γ,δ,ε,ζ,η,θ,ι,κ,μ,ν,ξ,ο,ρ,σ,τ,υ,reduceIte,reduceCtorEq,e1,il2,hat2,ilt',f9,f10,f11,bKN,bKJ,bLB,or_false,forall_eq]
 refine hk _ _ _ h6 fun j hj=>?_
 have low:j≠58∧j≠59∧j≠60∧j≠61∧j≠62∧j≠63∧j≠64∧j≠65∧j≠66∧j≠67:=by omega
 obtain⟨l1,l2,l3,l4,l5,l6,l7,l8,l9,l10⟩:=low
 simp only[go_sem,γ,δ,ε,ζ,η,θ,ι,κ,μ,ν,ξ,ο,ρ,σ,τ,υ,reduceIte,reduceCtorEq,l1,l2,l3,l4,l5,l6,l7,l8,l9,l10]
def AtV (i:Nat) (b:Bool):Int:=if b then (i:Int)-1 else -1
theorem bbY {C : Ctx} (Lb : buB C) (f : aK) (hf : f.Ok) (now : List (List Int)) (hl : fI now) (r : Int) :
    CC.wp C (aT QW.res (ZX (kE f now r) (oH f now r))) (PF.args [.agg f.cells, lay now, .int .i64 r]) .nil := by
  have hB : kE f now r = if oH f now r = 0 then oT f now r f.bHP.length else [] := rfl
  simp only[go_sem,γ,δ,ε,ζ,η,θ,ι,κ,μ,ν,ξ,ο,ρ,σ,τ,υ,reduceIte,reduceCtorEq,CC,auF,auG,QW]
  refine aA (Lb.able f now r hf hl) Ev ?_
  by_cases c : oH f now r ≠ 0
  · rw [if_neg c] at hB
    simp only[go_sem,γ,δ,ε,ζ,η,θ,ι,κ,μ,ν,ξ,ο,ρ,σ,τ,υ,reduceIte,reduceCtorEq,QX,cT c,auH]
    exact afM (.inr rfl) Sq (aQ.bkL aQ.nil) hB.symm
  have c : oH f now r = 0 := Decidable.not_not.1 c
  obtain ⟨hu, ha⟩ := MH c
  rw [if_pos c] at hB
  rw [hB, c]
  have hV := VF.of (qD hu).1
  have hd := hV.small.bHP
  generalize hn : f.bHP.length = n at *
  simp only[go_sem,γ,δ,ε,ζ,η,θ,ι,κ,μ,ν,ξ,ο,ρ,σ,τ,υ,reduceIte,reduceCtorEq,QX,cH (show (0 : Int) = 0 from rfl),auI,auJ]
  refine wp_loop (α := Nat × PV × WPs × PH) (fun s => (((((PF.nil.set 1 (lay now)).set 2 (.int .i64 r)).set 3 (.bH f.cells)).set 9 (s.2.1)).set 10 (.int .i64 s.1))) (fun s => s.2.2.2) (fun s => s.1 ≤ n ∧ akT f now r s.1 s.2.2.1 ∧ aQ s.2.2.2 [] (cV s.2.1 s.2.2.1)) (fun s => n - s.1) (0, .aB, [], .nil)
    ⟨bKF _, .of ha (bKF _) rfl, aQ.bkL aQ.nil⟩ Lq PH.le_refl ?_
  rintro ⟨d, vo, ps, H⟩ ⟨hdn, hw, hH⟩
  simp only at hdn hw hH ⊢
  simp only[go_sem,γ,δ,ε,ζ,η,θ,ι,κ,μ,ν,ξ,ο,ρ,σ,τ,υ,reduceIte,reduceCtorEq,aiD,auK,bJT,hn]
  by_cases hlt : d < n
  · have bHW : (d : Int) < (n : Nat) := by omega
    have hnl := hH.aTC
    have hnum := hw.num
    simp only[go_sem,γ,δ,ε,ζ,η,θ,ι,κ,μ,ν,ξ,ο,ρ,σ,τ,υ,reduceIte,reduceCtorEq,bHW,auL,auM]
    refine wp_loop (α := Nat × Bool × PH) (fun s => (((((((PF.nil.set 1 (lay now)).set 2 (.int .i64 r)).set 3 (.bH f.cells)).set 9 (vo)).set 10 (.int .i64 d)).set 11 (.int .i64 (AtV s.1 s.2.1))).set 12 (.int .i64 s.1))) (fun s => s.2.2)
      (fun s => s.1 ≤ ps.length ∧ aQ s.2.2 [] (cV vo ps) ∧ (s.2.1 = false → ∀ j (h : j < ps.length), j < s.1 → fW f now r (ps[j].2 ++ [(d : Int)]) = false) ∧ (s.2.1 = true → 0 < s.1 ∧ (∀ j (h : j < ps.length), j < s.1 - 1 → fW f now r (ps[j].2 ++ [(d : Int)]) = false) ∧ ∀ (h : s.1 - 1 < ps.length), fW f now r (ps[s.1 - 1].2 ++ [(d : Int)]) = true))
      (fun s => ps.length - s.1) (0, false, H)
      ⟨bKF _, hH, fun _ j _ h => by omega, fun h => by cases h⟩ (by (repeat' (first|exact PF.nil_le|refine PF.aI ?_ ?_)) <;> first|(simp only[go_sem,γ,δ,ε,ζ,η,θ,ι,κ,μ,ν,ξ,ο,ρ,σ,τ,υ,reduceIte,reduceCtorEq,AtV] <;> rfl)|rfl) PH.le_refl ?_
    clear hH
    rintro ⟨i, b, H⟩ ⟨hi, hH, hno, hyes⟩
    simp only at hi hno hyes hH ⊢
    have put : ∀ (vo2 : PV) (ps2 : WPs) (i2 : Nat) (v : PV) (w : List Int) (F' : PF) (H' : PH), aQ H' [] (cV vo2 ps2) → ps2[i2]? = some (v, w) → w.length ≤ 1000 → (∀ v', wls (ps2.set i2 (v', w ++ [(d : Int)])) = oT f now r (d + 1)) →
        (((((((PF.nil.set 1 (lay now)).set 2 (.int .i64 r)).set 3 (.bH f.cells)).set 9 (vo2)).set 10 (.int .i64 d)).set 11 (.int .i64 i2))).le F' → wpOps C vF
          (dW 1 (iD C (aC.wp C (aC.region JP)) (eE (fun s : Nat × PV × WPs × PH => (((((PF.nil.set 1 (lay now)).set 2 (.int .i64 r)).set 3 (.bH f.cells)).set 9 (s.2.1)).set 10 (.int .i64 s.1))) (fun s => s.2.2.2) (fun s => s.1 ≤ n ∧ akT f now r s.1 s.2.2.1 ∧ aQ s.2.2.2 [] (cV s.2.1 s.2.2.1)) (fun s => n - s.1) (n - d)
            (dW 0 (iD C (aC.wp C ((aC.region JQ).seq aC.ret)) (aT [dQ.tmp 6, dQ.tmp 7] (ZX (oT f now r n) 0)))))) .normal) F' H' := by
      intro vo2 ps2 i2 v w F' H' h1 h2 h3 h4 hF'
      refine bsX (i := i2) (d := d) h1 h2 h3 (hF' 9 _ Sq) (hF' 10 _ Sq) (hF' 11 _ Sq) fun v' H2 F2 h5 hF2 => ?_
      have g1 := (hF2 1 (by decide)).trans (hF' 1 _ (by simp only[go_sem,γ,δ,ε,ζ,η,θ,ι,κ,μ,ν,ξ,ο,ρ,σ,τ,υ,reduceIte,reduceCtorEq]; rfl))
      have g2 := (hF2 2 (by decide)).trans (hF' 2 _ (by simp only[go_sem,γ,δ,ε,ζ,η,θ,ι,κ,μ,ν,ξ,ο,ρ,σ,τ,υ,reduceIte,reduceCtorEq]; rfl))
      have g3 := (hF2 3 (by decide)).trans (hF' 3 _ (by simp only[go_sem,γ,δ,ε,ζ,η,θ,ι,κ,μ,ν,ξ,ο,ρ,σ,τ,υ,reduceIte,reduceCtorEq]; rfl))
      have g9 := (hF2 9 (by decide)).trans (hF' 9 _ (by simp only[go_sem,γ,δ,ε,ζ,η,θ,ι,κ,μ,ν,ξ,ο,ρ,σ,τ,υ,reduceIte,reduceCtorEq]; rfl))
      have g10 := (hF2 10 (by decide)).trans (hF' 10 _ (by simp only[go_sem,γ,δ,ε,ζ,η,θ,ι,κ,μ,ν,ξ,ο,ρ,σ,τ,υ,reduceIte,reduceCtorEq]; rfl))
      simp only[go_sem,γ,δ,ε,ζ,η,θ,ι,κ,μ,ν,ξ,ο,ρ,σ,τ,υ,reduceIte,reduceCtorEq,JP,g10,wZz d]
      refine aH (d + 1, vo2, ps2.set i2 (v', w ++ [(d : Int)]), H2) ⟨hlt, .of ha Om (h4 v'), h5⟩ (by simp only; omega) (by (repeat' (first|exact PF.nil_le|refine PF.aI ?_ ?_)) <;> first|(simp only[go_sem,γ,δ,ε,ζ,η,θ,ι,κ,μ,ν,ξ,ο,ρ,σ,τ,υ,reduceIte,reduceCtorEq,g1,g2,g3,g9] <;> rfl)|rfl) PH.le_refl
    simp only [aC.wp, go_sem] at put
    have out : i = ps.length → b = false → ∀ F' : PF, (((((((PF.nil.set 1 (lay now)).set 2 (.int .i64 r)).set 3 (.bH f.cells)).set 9 (vo)).set 10 (.int .i64 d)).set 11 (.int .i64 (-1)))).le F' → True := fun _ _ _ _ => trivial
    clear out
    simp only[go_sem,γ,δ,ε,ζ,η,θ,ι,κ,μ,ν,ξ,ο,ρ,σ,τ,υ,reduceIte,reduceCtorEq,aiC,auN,hnl]
    cases b with
    | true =>
      obtain ⟨h0, h1, h2⟩ := hyes rfl
      obtain ⟨i, rfl⟩ : ∃ j, i = j + 1 := ⟨i - 1, by omega⟩
      rw [Nat.add_sub_cancel] at h1 h2
      have ilt : i < ps.length := by omega
      have hpi : ps[i]? = some (ps[i].1, ps[i].2) := by rw [bKD ilt]
      have hlen := hw.len i ilt
      have hhit := bhJ (f := f) (now := now) (r := r) (d := d) ilt h1 (h2 ilt)
      have eA : AtV (i + 1) true = (i : Int) := by unfold AtV; simp
      have fin : ∀ F' : PF, (((((((PF.nil.set 1 (lay now)).set 2 (.int .i64 r)).set 3 (.bH f.cells)).set 9 (vo)).set 10 (.int .i64 d)).set 11 (.int .i64 i))).le F' → _ := fun F' hF' => put vo ps i _ _ F' H hH hpi Om (fun v' => by rw [← hhit v', hw.eq]; rfl) hF'
      by_cases c1 : i + 1 < ps.length
      · have c1' : ((i + 1 : Nat) : Int) < (ps.length : Nat) := by omega
        simp only[go_sem,γ,δ,ε,ζ,η,θ,ι,κ,μ,ν,ξ,ο,ρ,σ,τ,υ,reduceIte,reduceCtorEq,c1',eA,show ¬ (i : Int) < 0 by omega,vE]
        exact fin _ Lq
      · have c1' : ¬ ((i + 1 : Nat) : Int) < (ps.length : Nat) := by omega
        simp only[go_sem,γ,δ,ε,ζ,η,θ,ι,κ,μ,ν,ξ,ο,ρ,σ,τ,υ,reduceIte,reduceCtorEq,c1',eA,show ¬ (i : Int) < 0 by omega,vE]
        exact fin _ Lq
    | false =>
      have hno := hno rfl
      have eA : ∀ i, AtV i false = -1 := fun i => rfl
      by_cases ilt : i < ps.length
      · have ilt' : (i : Int) < (ps.length : Nat) := by omega
        obtain ⟨qo, rs, rfl, b1, b2, b3⟩ := hH.xE ilt
        have hlen := hw.len i ilt
        have hO := hH.aRY ilt
        have hview := hO.view
        simp only[go_sem,γ,δ,ε,ζ,η,θ,ι,κ,μ,ν,ξ,ο,ρ,σ,τ,υ,reduceIte,reduceCtorEq,ilt',eA]
        refine bR .nil (vwS (fW f now r (ps[i].2 ++ [(d : Int)]))) PH.nil_le ?_
        simp only[go_sem,γ,δ,ε,ζ,η,θ,ι,κ,μ,ν,ξ,ο,ρ,σ,τ,υ,reduceIte,reduceCtorEq,aiE,ilt',b1,b2,b3,bKN]
        have h2 := hH.mF 1
        refine h2.append (ps.length + 1) (rows := []) (src := bD ps[i].2) (aRZ _ _ _ (tJ _ _)) hview (by unfold roomFor; rw [dO]; simp only [bMD, maxLen]; omega) fun v2 H2 h3 _ => ?_
        rw [bML] at h3
        refine ⟨PH.nil_le, ?_⟩
        refine h3.append (ps.length + 1) (rows := bD ps[i].2) (src := [[.int .i64 d]]) (by rw [List.getElem?_set_self (by rw [bKA, tJ]; simp)]) Sq (by unfold roomFor; rw [dO]; simp only [bKH, maxLen]; omega) fun v3 H3 h4 _ => ?_
        refine ⟨PH.nil_le, ?_⟩
        have hsrc : bD ps[i].2 ++ [[.int .i64 d]] = bD (ps[i].2 ++ [(d : Int)]) := by rw [qP]; rfl
        rw [hsrc, List.set_set] at h4
        have hO3 : bL H3 1 v3 (bD (ps[i].2 ++ [(d : Int)])) := h4.own (ps.length + 1) (by rw [List.getElem?_set_self (by rw [bKA, tJ]; simp)])
        have h5 : aQ H3 [] (cV (.osl qo 1 0 ps.length) ps) := by
          have := h4
          rw [bMZ _ _ (by rw [tJ]; exact bJV _), tJ, bMI] at this
          exact this.sub (bLR.refl _) (List.sublist_append_left ..)
        obtain ⟨p', rfl, hx, bIW⟩ := a7P (C := C) (name := 255) (pre := [.agg f.cells, lay now, .int .i64 r]) (u := .bool (fW f now r (ps[i].2 ++ [(d : Int)]))) (.bool _) (fun x hx => by
          simp only [bKJ, bLB, or_false] at hx
          rcases hx with rfl | rfl | rfl
          · exact fun _ _ _ => rfl
          · exact .sl _ _
          · exact .int _ _) hO3 (by simp) (Lb.fits f now r (ps[i].2 ++ [(d : Int)]) hu hl (by rw [bKA, bKH]; omega))
        refine LQ (D := [p']) rfl (fun o ho => by rw [bLD] at ho; subst ho; exact hx) bIW (by simp only[go_sem,γ,δ,ε,ζ,η,θ,ι,κ,μ,ν,ξ,ο,ρ,σ,τ,υ,reduceIte,reduceCtorEq]; rfl) PH.nil_le ?_
        cases bJE : fW f now r (ps[i].2 ++ [(d : Int)]) with
        | true =>
          simp only[go_sem,γ,δ,ε,ζ,η,θ,ι,κ,μ,ν,ξ,ο,ρ,σ,τ,υ,reduceIte,reduceCtorEq,aiF,JO,wZz i]
          refine aH (i + 1, true, H3) ⟨ilt, h5, (fun h => by cases h), fun _ => ⟨Nat.succ_pos _, ?_, ?_⟩⟩ (by simp only; omega) ?_ PH.le_refl
          · simp only [Nat.add_sub_cancel]; exact hno
          · simp only [Nat.add_sub_cancel]; exact fun _ => bJE
          · have : AtV (i + 1) true = (i : Int) := by unfold AtV; simp
            (repeat' (first|exact PF.nil_le|refine PF.aI ?_ ?_)) <;> first|(simp only[go_sem,γ,δ,ε,ζ,η,θ,ι,κ,μ,ν,ξ,ο,ρ,σ,τ,υ,reduceIte,reduceCtorEq,this] <;> rfl)|rfl
        | false =>
          simp only[go_sem,γ,δ,ε,ζ,η,θ,ι,κ,μ,ν,ξ,ο,ρ,σ,τ,υ,reduceIte,reduceCtorEq,JO,wZz i]
          refine aH (i + 1, false, H3) ⟨ilt, h5, (fun _ j hj hji => ?_), fun h => by cases h⟩ (by simp only; omega) (by (repeat' (first|exact PF.nil_le|refine PF.aI ?_ ?_)) <;> first|(simp only[go_sem,γ,δ,ε,ζ,η,θ,ι,κ,μ,ν,ξ,ο,ρ,σ,τ,υ,reduceIte,reduceCtorEq,eA] <;> rfl)|rfl) PH.le_refl
          simp only at hji
          by_cases e : j = i
          · subst e; exact bJE
          · exact hno j hj Om
      · have ilt' : ¬ (i : Int) < (ps.length : Nat) := by omega
        have : i = ps.length := by omega
        subst this
        have hmiss := a9H (f := f) (now := now) (r := r) (d := d) (ps := ps) fun j hj => hno j hj hj
        simp only[go_sem,γ,δ,ε,ζ,η,θ,ι,κ,μ,ν,ξ,ο,ρ,σ,τ,υ,reduceIte,reduceCtorEq,ilt',eA,vE,aiG]
        refine hH.bnS Sq (by unfold roomFor; simp only [maxLen]; omega) fun q H' h3 => ?_
        have w1 : IntKind.i64.wrap (((ps.length + 1 : Nat) : Int) - 1) = (ps.length : Nat) := by
          rw [show ((ps.length + 1 : Nat) : Int) - 1 = ((ps.length : Nat) : Int) by omega]
          exact sH Om
        simp only[go_sem,γ,δ,ε,ζ,η,θ,ι,κ,μ,ν,ξ,ο,ρ,σ,τ,υ,reduceIte,reduceCtorEq,aiH,w1]
        refine put _ _ ps.length .aB [] _ H' h3 (aRZ _ _ _ rfl) (by simp) (fun v' => ?_) Lq
        have : (ps ++ [(PV.aB, ([] : List Int))]).set ps.length (v', [] ++ [(d : Int)]) = ps ++ [(v', [(d : Int)])] := by
          rw [bMZ _ _ (bJV _), bMI]; rfl
        rw [this]
        show _ = OU f now r (oT f now r d) d
        rw [← hw.eq, hmiss]
        unfold wls
        rw [bLW]; rfl
  · have bHW : ¬ (d : Int) < (n : Nat) := by omega
    have : d = n := by omega
    subst this
    simp only[go_sem,γ,δ,ε,ζ,η,θ,ι,κ,μ,ν,ξ,ο,ρ,σ,τ,υ,reduceIte,reduceCtorEq,bHW,JQ]
    exact afM (.inr rfl) Sq hH hw.eq
def wi (x n:Int):Int:=if n<1 then 0 else if x.tmod n<0 then x.tmod n+n else x.tmod n
theorem a1I {C:Ctx} (x n:Int) (hn:InK .i64 n):xA.wp C (aT DH.res (aD (.int .i64 (wi x n)))) (PF.args [.int .i64 x,.int .i64 n]) .nil:=by
 simp only[go_sem,γ,δ,ε,ζ,η,θ,ι,κ,μ,ν,ξ,ο,ρ,σ,τ,υ,reduceIte,reduceCtorEq,xA,adY,adZ,DH]
 refine kS (fun h=>?_) (fun h=>?_)
 ·simp only[go_sem,γ,δ,ε,ζ,η,θ,ι,κ,μ,ν,ξ,ο,ρ,σ,τ,υ,reduceIte,reduceCtorEq,aeA]
  refine aM (.inr rfl) Ev ?_
  simp only[decide_eq_true_eq] at h
  simp[aV,wi,h]
 ·simp only[decide_eq_false_iff_not] at h
  have h0:n≠0:=by omega
  simp only[go_sem,γ,δ,ε,ζ,η,θ,ι,κ,μ,ν,ξ,ο,ρ,σ,τ,υ,reduceIte,reduceCtorEq,aeB,aeC,h0]
  refine kS (fun h2=>?_) (fun h2=>?_)
  ·simp only[decide_eq_true_eq] at h2
   simp only[go_sem,γ,δ,ε,ζ,η,θ,ι,κ,μ,ν,ξ,ο,ρ,σ,τ,υ,reduceIte,reduceCtorEq,aeD]
   refine aM (.inr rfl) Ev ?_
   have h3:=Int.lt_tmod_of_pos x (Om:0<n)
   have:=hn.2
   have e:IntKind.i64.max=9223372036854775807:=by decide
   simp only[aV,wi,if_neg h,if_pos h2]
   rw[wrap_i64 Om Om]
  ·simp only[decide_eq_false_iff_not] at h2
   simp only[go_sem,γ,δ,ε,ζ,η,θ,ι,κ,μ,ν,ξ,ο,ρ,σ,τ,υ,reduceIte,reduceCtorEq,aeE]
   refine aM (.inr rfl) Ev ?_
   simp only[aV,wi,if_neg h,if_neg h2]
def CW (n:Int):PV:=.agg [.int .i64 (if n<1 then 4 else 1),.int .i64 0]
theorem beC {C:Ctx} (n:Int):EJ.wp C (aT begin.res (aD (CW n))) (PF.args [.int .i64 n]) .nil:=by
 simp only[go_sem,γ,δ,ε,ζ,η,θ,ι,κ,μ,ν,ξ,ο,ρ,σ,τ,υ,reduceIte,reduceCtorEq,EJ,axW,begin]
 refine aR fun o ho=>?_
 simp only[go_sem,γ,δ,ε,ζ,η,θ,ι,κ,μ,ν,ξ,ο,ρ,σ,τ,υ,reduceIte,reduceCtorEq,axX]
 refine kS (fun h=>?_) (fun h=>?_)
 ·simp only[go_sem,γ,δ,ε,ζ,η,θ,ι,κ,μ,ν,ξ,ο,ρ,σ,τ,υ,reduceIte,reduceCtorEq,axY]
  refine aM (.inr rfl) Ev ?_
  simp only[decide_eq_true_eq] at h
  simp[aV,CW,h]
 ·simp only[go_sem,γ,δ,ε,ζ,η,θ,ι,κ,μ,ν,ξ,ο,ρ,σ,τ,υ,reduceIte,reduceCtorEq,axZ]
  refine aM (.inr rfl) Ev ?_
  simp only[decide_eq_false_iff_not] at h
  simp[aV,CW,h]
def mO (n p w e:Int):(Int × Int) × Int :=
 if w<0∨w≥n then ((0,0),110)
 else if p=1∧e=1 then ((2,w),0)
 else if p=2∧e=2 then ((3,w),0)
 else if p=3∧e=3∧w=IntKind.i64.wrap (n-1) then ((4,w),0)
 else if p=3∧e=3 then ((1,IntKind.i64.wrap (w+1)),0)
 else if p=3∧e=4 then ((5,w),0)
 else ((0,0),110)
def stV (x:Int × Int):PV:=.agg [.int .i64 x.1,.int .i64 x.2]
def mP (x:(Int × Int) × Int):PV:=.tup [stV x.1,.int .i64 x.2]
theorem bpD {C:Ctx} (n p w e:Int):PP.wp C (aT step.res (aD (mP (mO n p w e)))) (PF.args [.int .i64 n,.agg [.int .i64 p,.int .i64 w],.int .i64 e]) .nil:=by
 simp only[go_sem,γ,δ,ε,ζ,η,θ,ι,κ,μ,ν,ξ,ο,ρ,σ,τ,υ,reduceIte,reduceCtorEq,PP,aVH,step]
 refine aR fun o4 ho4=>?_
 simp only[go_sem,γ,δ,ε,ζ,η,θ,ι,κ,μ,ν,ξ,ο,ρ,σ,τ,υ,reduceIte,reduceCtorEq]
 refine aR fun o6 ho6=>?_
 have n64:¬ o6=o4:=(cW.1 ho6).1
 have n46:¬ o4=o6:=fun h=>n64 h.symm
 simp only[go_sem,γ,δ,ε,ζ,η,θ,ι,κ,μ,ν,ξ,ο,ρ,σ,τ,υ,reduceIte,reduceCtorEq,aVI,n64,n46]
 by_cases h1:w<0
 ·simp only[go_sem,γ,δ,ε,ζ,η,θ,ι,κ,μ,ν,ξ,ο,ρ,σ,τ,υ,reduceIte,reduceCtorEq,h1,amX,n64,n46]
  refine aM (.inr rfl) Ev ?_
  simp[aV,mO,h1,mP,stV]
 simp only[go_sem,γ,δ,ε,ζ,η,θ,ι,κ,μ,ν,ξ,ο,ρ,σ,τ,υ,reduceIte,reduceCtorEq,h1,n64,n46]
 by_cases h2:w≥n
 ·simp only[go_sem,γ,δ,ε,ζ,η,θ,ι,κ,μ,ν,ξ,ο,ρ,σ,τ,υ,reduceIte,reduceCtorEq,h2,amX,n64,n46]
  refine aM (.inr rfl) Ev ?_
  simp[aV,mO,h2,mP,stV]
 simp only[go_sem,γ,δ,ε,ζ,η,θ,ι,κ,μ,ν,ξ,ο,ρ,σ,τ,υ,reduceIte,reduceCtorEq,h2,aVJ,n64,n46]
 refine bR ((PH.nil.set o4 (.rows 2 [[.int .i64 p,.int .i64 w]]))) eG (PH.aI PH.nil_le (by simp only[go_sem,γ,δ,ε,ζ,η,θ,ι,κ,μ,ν,ξ,ο,ρ,σ,τ,υ,reduceIte,reduceCtorEq,n64,n46])) ?_
 simp only[go_sem,γ,δ,ε,ζ,η,θ,ι,κ,μ,ν,ξ,ο,ρ,σ,τ,υ,reduceIte,reduceCtorEq]
 refine aR fun o21 ho21=>?_
 have n214:¬ o21=o4:=(cW.1 (cW.1 ho21).2).1
 have n421:¬ o4=o21:=fun h=>n214 h.symm
 have n216:¬ o21=o6:=(cW.1 ho21).1
 have n621:¬ o6=o21:=fun h=>n216 h.symm
 simp only[go_sem,γ,δ,ε,ζ,η,θ,ι,κ,μ,ν,ξ,ο,ρ,σ,τ,υ,reduceIte,reduceCtorEq]
 refine RY (o:=o21) (kv:=.agg [.int .i64 1,.int .i64 1]) (vv:=.int .i64 2) (key:=[.int .i64 1,.int .i64 1]) (g:=fun _=>none) Sq Sq Sq Sq Sq (by rfl) (by simp only[go_sem,γ,δ,ε,ζ,η,θ,ι,κ,μ,ν,ξ,ο,ρ,σ,τ,υ,reduceIte,reduceCtorEq,n214]) ?_
 simp only[go_sem,γ,δ,ε,ζ,η,θ,ι,κ,μ,ν,ξ,ο,ρ,σ,τ,υ,reduceIte,reduceCtorEq]
 refine RY (o:=o21) (kv:=.agg [.int .i64 2,.int .i64 2]) (vv:=.int .i64 3) (key:=[.int .i64 2,.int .i64 2]) (g:=fG.upd (fun _=>none) [.int .i64 1,.int .i64 1] (.int .i64 2)) Sq Sq Sq Sq Sq (by rfl) (by simp only[go_sem,γ,δ,ε,ζ,η,θ,ι,κ,μ,ν,ξ,ο,ρ,σ,τ,υ,reduceIte,reduceCtorEq,n214]) ?_
 simp only[go_sem,γ,δ,ε,ζ,η,θ,ι,κ,μ,ν,ξ,ο,ρ,σ,τ,υ,reduceIte,reduceCtorEq]
 refine RY (o:=o21) (kv:=.agg [.int .i64 3,.int .i64 3]) (vv:=.int .i64 1) (key:=[.int .i64 3,.int .i64 3]) (g:=fG.upd (fG.upd (fun _=>none) [.int .i64 1,.int .i64 1] (.int .i64 2)) [.int .i64 2,.int .i64 2] (.int .i64 3)) Sq Sq Sq Sq Sq (by rfl) (by simp only[go_sem,γ,δ,ε,ζ,η,θ,ι,κ,μ,ν,ξ,ο,ρ,σ,τ,υ,reduceIte,reduceCtorEq,n214]) ?_
 simp only[go_sem,γ,δ,ε,ζ,η,θ,ι,κ,μ,ν,ξ,ο,ρ,σ,τ,υ,reduceIte,reduceCtorEq]
 refine RY (o:=o21) (kv:=.agg [.int .i64 3,.int .i64 4]) (vv:=.int .i64 5) (key:=[.int .i64 3,.int .i64 4]) (g:=fG.upd (fG.upd (fG.upd (fun _=>none) [.int .i64 1,.int .i64 1] (.int .i64 2)) [.int .i64 2,.int .i64 2] (.int .i64 3)) [.int .i64 3,.int .i64 3] (.int .i64 1)) Sq Sq Sq Sq Sq (by rfl) (by simp only[go_sem,γ,δ,ε,ζ,η,θ,ι,κ,μ,ν,ξ,ο,ρ,σ,τ,υ,reduceIte,reduceCtorEq,n214]) ?_
 simp only[go_sem,γ,δ,ε,ζ,η,θ,ι,κ,μ,ν,ξ,ο,ρ,σ,τ,υ,reduceIte,reduceCtorEq]
 have hkey:∀ a b:Int,([KS.int .i64 p,KS.int .i64 e]=[KS.int .i64 a,KS.int .i64 b])=(p=a∧e=b):=fun a b=>by simp
 simp only[go_sem,γ,δ,ε,ζ,η,θ,ι,κ,μ,ν,ξ,ο,ρ,σ,τ,υ,reduceIte,reduceCtorEq,n64,n46,n214,n421,n216,n621,fG.upd,hkey]
 by_cases q4:p=3∧e=4
 ·obtain⟨rfl,rfl⟩:=q4
  simp only[go_sem,γ,δ,ε,ζ,η,θ,ι,κ,μ,ν,ξ,ο,ρ,σ,τ,υ,reduceIte,reduceCtorEq,pY,pZ,qA,qB,nC,n64,n46,n214,n421,n216,n621]
  refine aM (.inr rfl) Ev ?_
  simp[aV,mO,h1,h2,mP,stV]
 by_cases q3:p=3∧e=3
 ·obtain⟨rfl,rfl⟩:=q3
  simp only[go_sem,γ,δ,ε,ζ,η,θ,ι,κ,μ,ν,ξ,ο,ρ,σ,τ,υ,reduceIte,reduceCtorEq,pY,pZ,qA,qB,nC,n64,n46,n214,n421,n216,n621,aVK]
  by_cases hw:w=IntKind.i64.wrap (n-1)
  ·simp only[go_sem,γ,δ,ε,ζ,η,θ,ι,κ,μ,ν,ξ,ο,ρ,σ,τ,υ,reduceIte,reduceCtorEq,bO hw,aVL,pY,pZ,qA,qB,nC,n64,n46,n214,n421,n216,n621]
   refine aM (.inr rfl) Ev ?_
   simp[aV,mO,h1,h2,← hw,mP,stV]
  ·simp only[go_sem,γ,δ,ε,ζ,η,θ,ι,κ,μ,ν,ξ,ο,ρ,σ,τ,υ,reduceIte,reduceCtorEq,bB hw,aIQ,pY,pZ,qA,qB,nC,n64,n46,n214,n421,n216,n621]
   refine aM (.inr rfl) Ev ?_
   simp[aV,mO,h1,h2,hw,mP,stV]
 by_cases q2:p=2∧e=2
 ·obtain⟨rfl,rfl⟩:=q2
  simp only[go_sem,γ,δ,ε,ζ,η,θ,ι,κ,μ,ν,ξ,ο,ρ,σ,τ,υ,reduceIte,reduceCtorEq,pY,pZ,qA,qB,nC,n64,n46,n214,n421,n216,n621]
  refine aM (.inr rfl) Ev ?_
  simp[aV,mO,h1,h2,mP,stV]
 by_cases q1:p=1∧e=1
 ·obtain⟨rfl,rfl⟩:=q1
  simp only[go_sem,γ,δ,ε,ζ,η,θ,ι,κ,μ,ν,ξ,ο,ρ,σ,τ,υ,reduceIte,reduceCtorEq,pY,pZ,qA,qB,nC,n64,n46,n214,n421,n216,n621]
  refine aM (.inr rfl) Ev ?_
  simp[aV,mO,h1,h2,mP,stV]
 simp only[go_sem,γ,δ,ε,ζ,η,θ,ι,κ,μ,ν,ξ,ο,ρ,σ,τ,υ,reduceIte,reduceCtorEq,q1,q2,q3,q4,pY,pZ,qA,qB,nC,n64,n46,n214,n421,n216,n621]
 refine aM (.inr rfl) Ev ?_
 have q3':¬ (p=3∧e=3∧w=IntKind.i64.wrap (n-1)):=fun h=>q3 ⟨h.1,h.2.1⟩
 simp only[aV,mO,h1,h2,q1,q2,q3,q3',q4,mP,stV,or_self,if_false]
def BU (len:Nat) (p w:Int):Nat:=if w<len then (if p=3∨p=4 then w.toNat+1 else w.toNat) else len
def QG (ws:List (List Int)) (p w:Int):List Int:=if p<1∨p>5∨w<0 then [] else RO.tG [] (ws.take (BU ws.length p w)).flatten
structure rL (C:Ctx):Prop where
 concat:∀ ws:List (List Int),ws.length≤1000000→ws.flatten.length≤1000000→aE C 178 [lists ws] .nil (WM ws.flatten)
 sort:∀ (o:Nat) (xs:List Int),xs≠[]→xs.length<4611686018427387904→aE C 180 [.osl o 1 0 xs.length] (PH.nil.set o (.rows 1 (bD xs))) (fun r H'=>r=.tup []∧H'=PH.nil.set o (.rows 1 (bD (sorted xs))))
 sort0:aE C 180 [.aB] .nil (fun r H'=>r=.tup []∧H'=.nil)
 compact:∀ (o:Nat) (xs:List Int),xs≠[]→xs.length<4611686018427387904→aE C 177 [.osl o 1 0 xs.length] (PH.nil.set o (.rows 1 (bD xs))) (fun r H'=>r=.osl o 1 0 (Lib.compact xs).length∧H'=PH.nil.set o (.rows 1 (bD (Lib.compact xs++bJW (xs.length-(Lib.compact xs).length) 0))))
 compact0:aE C 177 [.aB] .nil (fun r H'=>r=.aB∧H'=.nil)
theorem a7J (xs:List Int):(bD xs).length=xs.length:=by simp[bD]
theorem tO {C:Ctx} (L:rL C) (ws:List (List Int)) (h1:ws.length≤1000000) (h2:ws.flatten.length≤1000000) (n:Nat) (hn:n≤ws.length) (F:PF) (f0:F 0=some (lists ws)) (f5:F 5=some (.int .i64 n)) :
  aC.wp C (.seq (.region anD) (.seq (.region SW) (.seq (.region SX) .ret))) (aT [.tmp 4] (bY (ints (RO.tG [] (ws.take n).flatten)))) F .nil:=by
 have hr:(ws.map fun w=>[ints w]).take n=(ws.take n).map fun w=>[ints w]:=by rw[List.map_take]
 have hc1:(n:Int)≤(ws.length:Nat):=by omega
 simp only[go_sem,γ,δ,ε,ζ,η,θ,ι,κ,μ,ν,ξ,ο,ρ,σ,τ,υ,reduceIte,reduceCtorEq,anD,f0,f5,hr,hc1]
 have hfl:=SD ws n
 refine eR (L.concat (ws.take n) (by rw[bKL]; omega) Om) Ev PH.nil_le ?_
 rw[← RO.aNK]
 generalize (ws.take n).flatten=xs at hfl
 intro r H' hr ha
 rcases hr with ⟨h0,rfl,rfl⟩ | ⟨h0,o,rfl,rfl⟩
 ·subst h0
  rw[PH.kV]
  simp only[go_sem,γ,δ,ε,ζ,η,θ,ι,κ,μ,ν,ξ,ο,ρ,σ,τ,υ,reduceIte,reduceCtorEq,SW]
  refine eR L.sort0 Ev PH.nil_le ?_
  rintro r H' ⟨rfl,rfl⟩ -
  rw[PH.kV]
  simp only[go_sem,γ,δ,ε,ζ,η,θ,ι,κ,μ,ν,ξ,ο,ρ,σ,τ,υ,reduceIte,reduceCtorEq,SX]
  refine eR L.compact0 Ev PH.nil_le ?_
  rintro r H' ⟨rfl,rfl⟩ -
  rw[PH.kV]
  simp only[go_sem,γ,δ,ε,ζ,η,θ,ι,κ,μ,ν,ξ,ο,ρ,σ,τ,υ,reduceIte,reduceCtorEq]
  have e:Lib.compact (RO.srt [])=[]:=by simp[RO.srt,Lib.compact,Lib.compactUpTo]
  rw[e]
  exact aX (vs:=[.aB]) (.inr rfl) .nil Ev PH.nil_le ⟨.nil 1,rfl⟩
 ·rw[PH.kD]
  simp only[go_sem,γ,δ,ε,ζ,η,θ,ι,κ,μ,ν,ξ,ο,ρ,σ,τ,υ,reduceIte,reduceCtorEq,SW]
  refine eR (L.sort o xs h0 Om) Ev PH.le_refl ?_
  rintro r H' ⟨rfl,rfl⟩ -
  rw[PH.lG,PH.set_set]
  simp only[go_sem,γ,δ,ε,ζ,η,θ,ι,κ,μ,ν,ξ,ο,ρ,σ,τ,υ,reduceIte,reduceCtorEq,SX]
  have hsl:(sorted xs).length=xs.length:=by simp[sorted]
  have hs0:sorted xs≠[]:=by
   intro e; rw[e] at hsl; exact h0 (bNJ hsl.symm)
  refine eR (L.compact o (sorted xs) hs0 Om) (by rw[hsl]; simp only[go_sem,γ,δ,ε,ζ,η,θ,ι,κ,μ,ν,ξ,ο,ρ,σ,τ,υ,reduceIte,reduceCtorEq]) PH.le_refl ?_
  rintro r H' ⟨rfl,rfl⟩ -
  rw[PH.lG,PH.set_set]
  simp only[go_sem,γ,δ,ε,ζ,η,θ,ι,κ,μ,ν,ξ,ο,ρ,σ,τ,υ,reduceIte,reduceCtorEq]
  refine aHN (o:=o) (s:=1) (k:=(Lib.compact (sorted xs)).length) (rs:=bD (Lib.compact (sorted xs)++bJW ((sorted xs).length-(Lib.compact (sorted xs)).length) 0)) (.inr rfl) Sq Sq (by rw[a7J,bKA]; omega) ⟨?_,rfl⟩
  have e:(bD (Lib.compact (sorted xs)++bJW ((sorted xs).length-(Lib.compact (sorted xs)).length) 0)).take (Lib.compact (sorted xs)).length=bD (Lib.compact (sorted xs)):=by
   unfold bD
   rw[bLW,List.take_append_of_le_length (by rw[bJT]; exact bJV _),bKK (by rw[bJT]; exact bJV _)]
  rw[e]
  exact .refl _
theorem bpR {C:Ctx} (L:rL C) (ws:List (List Int)) (h1:ws.length≤1000000) (h2:ws.flatten.length≤1000000) (p w:Int) :
  QF.wp C (aT aKI.res (bY (ints (QG ws p w)))) (PF.args [lists ws,.agg [.int .i64 p,.int .i64 w]]) .nil:=by
 simp only[go_sem,γ,δ,ε,ζ,η,θ,ι,κ,μ,ν,ξ,ο,ρ,σ,τ,υ,reduceIte,reduceCtorEq,QF,aWY,aWZ,aKI]
 by_cases c1:p<1
 ·simp only[go_sem,γ,δ,ε,ζ,η,θ,ι,κ,μ,ν,ξ,ο,ρ,σ,τ,υ,reduceIte,reduceCtorEq,c1,ST]
  refine aX (.inr rfl) .nil Ev PH.nil_le ⟨?_,rfl⟩
  simp only[QG,c1,true_or,if_true]; exact .nil 1
 simp only[go_sem,γ,δ,ε,ζ,η,θ,ι,κ,μ,ν,ξ,ο,ρ,σ,τ,υ,reduceIte,reduceCtorEq,c1]
 by_cases c2:p>5
 ·simp only[go_sem,γ,δ,ε,ζ,η,θ,ι,κ,μ,ν,ξ,ο,ρ,σ,τ,υ,reduceIte,reduceCtorEq,c2,ST]
  refine aX (.inr rfl) .nil Ev PH.nil_le ⟨?_,rfl⟩
  simp only[QG,c2,true_or,or_true,if_true]; exact .nil 1
 simp only[go_sem,γ,δ,ε,ζ,η,θ,ι,κ,μ,ν,ξ,ο,ρ,σ,τ,υ,reduceIte,reduceCtorEq,c2]
 by_cases c3:w<0
 ·simp only[go_sem,γ,δ,ε,ζ,η,θ,ι,κ,μ,ν,ξ,ο,ρ,σ,τ,υ,reduceIte,reduceCtorEq,c3,ST]
  refine aX (.inr rfl) .nil Ev PH.nil_le ⟨?_,rfl⟩
  simp only[QG,c3,or_true,if_true]; exact .nil 1
 simp only[go_sem,γ,δ,ε,ζ,η,θ,ι,κ,μ,ν,ξ,ο,ρ,σ,τ,υ,reduceIte,reduceCtorEq,c3]
 have hu:QG ws p w=RO.tG [] (ws.take (BU ws.length p w)).flatten:=by
  simp only[QG,c1,c2,c3,or_self,if_false]
 rw[hu]
 by_cases c4:w<ws.length
 ·have c5:¬ (ws.length:Int)<w:=by omega
  simp only[go_sem,γ,δ,ε,ζ,η,θ,ι,κ,μ,ν,ξ,ο,ρ,σ,τ,υ,reduceIte,reduceCtorEq,SU,c5,SV,c4]
  by_cases c6:p=3
  ·subst c6
   have e:BU ws.length 3 w=w.toNat+1:=by simp[BU,c4]
   rw[e]
   simp only[go_sem,γ,δ,ε,ζ,η,θ,ι,κ,μ,ν,ξ,ο,ρ,σ,τ,υ,reduceIte,reduceCtorEq,anC]
   refine tO L ws h1 h2 _ Om _ Sq (by simp only[go_sem,γ,δ,ε,ζ,η,θ,ι,κ,μ,ν,ξ,ο,ρ,σ,τ,υ,reduceIte,reduceCtorEq]; rw[wrap_i64 Om Om]; omega)
  simp only[go_sem,γ,δ,ε,ζ,η,θ,ι,κ,μ,ν,ξ,ο,ρ,σ,τ,υ,reduceIte,reduceCtorEq,bB c6]
  by_cases c7:p=4
  ·subst c7
   have e:BU ws.length 4 w=w.toNat+1:=by simp[BU,c4]
   rw[e]
   simp only[go_sem,γ,δ,ε,ζ,η,θ,ι,κ,μ,ν,ξ,ο,ρ,σ,τ,υ,reduceIte,reduceCtorEq,anC]
   refine tO L ws h1 h2 _ Om _ Sq (by simp only[go_sem,γ,δ,ε,ζ,η,θ,ι,κ,μ,ν,ξ,ο,ρ,σ,τ,υ,reduceIte,reduceCtorEq]; rw[wrap_i64 Om Om]; omega)
  have e:BU ws.length p w=w.toNat:=by simp[BU,c4,c6,c7]
  rw[e]
  simp only[go_sem,γ,δ,ε,ζ,η,θ,ι,κ,μ,ν,ξ,ο,ρ,σ,τ,υ,reduceIte,reduceCtorEq,bB c7]
  refine tO L ws h1 h2 _ Om _ Sq (by simp only[go_sem,γ,δ,ε,ζ,η,θ,ι,κ,μ,ν,ξ,ο,ρ,σ,τ,υ,reduceIte,reduceCtorEq]; omega)
 ·have e:BU ws.length p w=ws.length:=by simp[BU,c4]
  rw[e]
  by_cases c5:(ws.length:Int)<w
  ·simp only[go_sem,γ,δ,ε,ζ,η,θ,ι,κ,μ,ν,ξ,ο,ρ,σ,τ,υ,reduceIte,reduceCtorEq,SU,c5,SV]
   refine tO L ws h1 h2 _ (bJV _) _ Sq Sq
  ·have c6:w=(ws.length:Nat):=by omega
   subst c6
   simp only[go_sem,γ,δ,ε,ζ,η,θ,ι,κ,μ,ν,ξ,ο,ρ,σ,τ,υ,reduceIte,reduceCtorEq,SU,SV]
   refine tO L ws h1 h2 _ (bJV _) _ Sq Sq
theorem WM.heap {H H':PH} {xs:List Int} {r:PV} (h:WM xs r H') (hap:kJ H .nil H'):aQ (H.eJ .nil H') [] [(r,1,bD xs)]:=by
 rcases h with ⟨rfl,rfl,rfl⟩ | ⟨hne,o,rfl,rfl⟩
 ·rw[PH.kV]; exact aQ.nil.mF 1
 ·rw[PH.kD]
  have:=(aQ.nil (H:=H)).bgR (s:=1) (rows:=bD xs) (hap o _ (by rw[fN]) rfl)
  rw[dO] at this
  exact this
def GW (all:List Int) (k:Nat):Bool:=(bJU k).all fun d=>all.contains (d:Int)
theorem a0Z (all:List Int) (k:Nat):GW all (k+1)=(GW all k&&all.contains (k:Int)):=by
 unfold GW
 rw[List.range_succ,List.all_append]
 simp
theorem bgB {all:List Int} {n k:Nat} (h:k<n) (hs:all.contains (k:Int)=false):GW all n=false:=by
 unfold GW
 rw[Bool.eq_false_iff,ne_eq,bKQ]
 intro hk
 rw[hk k (bLI.2 h)] at hs
 cases hs
theorem a6C (f:aK) (now:List (List Int)) (r:Int) (w:List (List Int)):fL f now r w=(fH f now r&&((decide (w.flatten.length=f.bHP.length)&&GW w.flatten f.bHP.length)&&w.all (kR f now r))):=rfl
theorem a5V {α:Type} {p:α→Bool} {l:List α} {k:Nat} (h:k<l.length):(l.take (k+1)).all p=((l.take k).all p&&p l[k]):=by
 rw[bLK h,List.all_append]
 simp
theorem aOV {α:Type} {p:α→Bool} {l:List α} {k:Nat} (h:k<l.length) (hp:p l[k]=false):l.all p=false:=by
 rw[List.all_eq_false]
 exact⟨l[k],bJX h,by rw[hp]; simp⟩
def amN (f:aK) (now:List (List Int)) (r:Int) (ws:List (List Int)) (k:Nat):Bool:=(ws.take k).all (kR f now r)
theorem aFY (f:aK) (now:List (List Int)) (r:Int) (ws:List (List Int)):amN f now r ws ws.length=ws.all (kR f now r):=by unfold amN; rw[bKS]
theorem aqU {f:aK} {now:List (List Int)} {r:Int} {ws:List (List Int)} {k:Nat} (h:k<ws.length):amN f now r ws (k+1)=(amN f now r ws k&&kR f now r ws[k]):=a5V h
theorem zK (f:aK) (now:List (List Int)) (r:Int) (l:List Int):kR f now r l=(!l.isEmpty&&fW f now r l):=rfl
structure buC (C:Ctx):Prop extends RV C 250 251 where
 concat:∀ ws:List (List Int),ws.length≤1000000→ws.flatten.length≤1000000→aE C 178 [lists ws] .nil (WM ws.flatten)
 contains:∀ (l:List Int) (x:Int),l.length≤1000000000000000→aE C 260 [ints l,.int .i64 x] .nil (aD (.bool (l.contains x)))
theorem bcZ {C:Ctx} (Lb:buC C) (f:aK) (hf:f.Ok) (now:List (List Int)) (hl:fI now) (r:Int) (ws:List (List Int)) (h1:ws.length≤1000000) (h2:ws.flatten.length≤1000000) :
  CI.wp C (aT RC.res (aD (.bool (fL f now r ws)))) (PF.args [.agg f.cells,lay now,.int .i64 r,lists ws]) .nil:=by
 have hE:=a6C f now r ws
 have no:∀ b:Bool,fL f now r ws=b→∀ F' H',F' 8=some (.bool b)→aT [.tmp 8] (aD (.bool (fL f now r ws))) .ret F' H':=fun b hb F' H' h8=>by
  refine aM (.inr rfl) (vs:=[.bool b]) (by simp only[go_sem,γ,δ,ε,ζ,η,θ,ι,κ,μ,ν,ξ,ο,ρ,σ,τ,υ,reduceIte,reduceCtorEq,h8]) ?_
  rw[aV,hb]
 simp only[go_sem,γ,δ,ε,ζ,η,θ,ι,κ,μ,ν,ξ,ο,ρ,σ,τ,υ,reduceIte,reduceCtorEq,CI,auR,auS,RC]
 refine aA (Lb.usable f now r hf hl) Ev ?_
 cases hu:fH f now r with
 | false =>
  rw[hu,bJZ] at hE
  simp only[go_sem,γ,δ,ε,ζ,η,θ,ι,κ,μ,ν,ξ,ο,ρ,σ,τ,υ,reduceIte,reduceCtorEq,auT]
  exact no _ hE _ _ Ev
 | true =>
  rw[hu,bKE] at hE
  have hV:=VF.of (qD hu).1
  have hd:=hV.small.bHP
  simp only[go_sem,γ,δ,ε,ζ,η,θ,ι,κ,μ,ν,ξ,ο,ρ,σ,τ,υ,reduceIte,reduceCtorEq,auU]
  refine eR (Lb.concat ws h1 h2) Ev PH.nil_le ?_
  intro v H' hr hap
  have hH:=hr.heap hap
  generalize PH.eJ PH.nil PH.nil H'=H at hH
  have hO:=hH.own 0 rfl
  have hln:=hO.lenOf
  rw[dO] at hln
  simp only[go_sem,γ,δ,ε,ζ,η,θ,ι,κ,μ,ν,ξ,ο,ρ,σ,τ,υ,reduceIte,reduceCtorEq,auV,hln,bJT]
  by_cases cl:ws.flatten.length=f.bHP.length
  ·rw[decide_eq_true cl,bKE] at hE
   simp only[go_sem,γ,δ,ε,ζ,η,θ,ι,κ,μ,ν,ξ,ο,ρ,σ,τ,υ,reduceIte,reduceCtorEq,cH (Om:((ws.flatten.length:Nat):Int)=(f.bHP.length:Nat)),auX,bJT]
   refine wp_loop (α:=Nat) (fun k=>(((((((PF.nil.set 1 (lay now)).set 2 (.int .i64 r)).set 3 (lists ws)).set 4 (.bH f.cells)).set 9 (v)).set 28 (.int .i64 (f.bHP.length:Nat))).set 29 (.int .i64 k))) (fun _=>H) (fun k=>k≤f.bHP.length∧GW ws.flatten k=true) (fun k=>f.bHP.length-k) 0 ⟨bKF _,rfl⟩ Lq PH.le_refl ?_
   rintro k ⟨hk,hok⟩
   simp only[go_sem,γ,δ,ε,ζ,η,θ,ι,κ,μ,ν,ξ,ο,ρ,σ,τ,υ,reduceIte,reduceCtorEq,aiX,auY]
   by_cases hlt:k<f.bHP.length
   ·have bHW:(k:Int)<(f.bHP.length:Nat):=by omega
    have hs:=a0Z ws.flatten k
    rw[hok,bKE] at hs
    simp only[go_sem,γ,δ,ε,ζ,η,θ,ι,κ,μ,ν,ξ,ο,ρ,σ,τ,υ,reduceIte,reduceCtorEq,bHW,auZ,avA]
    refine RB (l:=ws.flatten) (.bool _) (Lb.contains _ (k:Int) Om) (.int _ _) hO Sq ?_
    cases hc:ws.flatten.contains (k:Int) with
    | false =>
     simp only[go_sem,γ,δ,ε,ζ,η,θ,ι,κ,μ,ν,ξ,ο,ρ,σ,τ,υ,reduceIte,reduceCtorEq,aiZ]
     refine no _ ?_ _ _ Ev
     rw[hE,bgB hlt hc,bJZ]
    | true =>
     rw[hc] at hs
     simp only[go_sem,γ,δ,ε,ζ,η,θ,ι,κ,μ,ν,ξ,ο,ρ,σ,τ,υ,reduceIte,reduceCtorEq,ajA,wZz k]
     exact aH (k+1) ⟨hlt,hs⟩ Om Lq PH.le_refl
   ·have bHW:¬ (k:Int)<(f.bHP.length:Nat):=by omega
    have:k=f.bHP.length:=by omega
    subst this
    rw[hok,bKE] at hE
    simp only[go_sem,γ,δ,ε,ζ,η,θ,ι,κ,μ,ν,ξ,ο,ρ,σ,τ,υ,reduceIte,reduceCtorEq,bHW,ajB,bJT]
    refine wp_loop (α:=Nat) (fun k=>((((((PF.nil.set 1 (lay now)).set 2 (.int .i64 r)).set 4 (.bH f.cells)).set 37 (lists ws)).set 38 (.int .i64 (ws.length:Nat))).set 39 (.int .i64 k))) (fun _=>.nil) (fun k=>k≤ws.length∧amN f now r ws k=true) (fun k=>ws.length-k) 0 ⟨bKF _,rfl⟩ (by (repeat' (first|exact PF.nil_le|refine PF.aI ?_ ?_))<;>first|(simp only[go_sem,γ,δ,ε,ζ,η,θ,ι,κ,μ,ν,ξ,ο,ρ,σ,τ,υ,reduceIte,reduceCtorEq,bJT]<;>rfl)|rfl) PH.nil_le ?_
    rintro k ⟨hk,hok⟩
    simp only[go_sem,γ,δ,ε,ζ,η,θ,ι,κ,μ,ν,ξ,ο,ρ,σ,τ,υ,reduceIte,reduceCtorEq,aiY,ajC]
    by_cases hlt:k<ws.length
    ·have bHW:(k:Int)<(ws.length:Nat):=by omega
     have hat:(ws.map fun w=>[ints w])[k]?=some [ints ws[k]]:=by simp[hlt]
     have hs:=aqU (f:=f) (now:=now) (r:=r) hlt
     have hnoB:=aOV (p:=kR f now r) hlt
     have hle:=(List.sublist_flatten_of_mem (bJX hlt)).length_le
     rw[hok,bKE,zK] at hs
     rw[zK] at hnoB
     generalize ws[k]=w at *
     simp only[go_sem,γ,δ,ε,ζ,η,θ,ι,κ,μ,ν,ξ,ο,ρ,σ,τ,υ,reduceIte,reduceCtorEq,bHW,ajD,hat,ajE,bJT]
     by_cases cz:w.length=0
     ·have:w=[]:=List.length_eq_zero_iff.1 cz
      simp only[go_sem,γ,δ,ε,ζ,η,θ,ι,κ,μ,ν,ξ,ο,ρ,σ,τ,υ,reduceIte,reduceCtorEq,bO (Om:((w.length:Nat):Int)=0),JS]
      refine no _ ?_ _ _ Ev
      rw[hE]
      exact hnoB (by rw[this]; rfl)
     ·have hne:w.isEmpty=false:=by cases w with
       | nil=>exact absurd rfl cz
       | cons x xs=>rfl
      rw[hne,bKI,bKE] at hs hnoB
      simp only[go_sem,γ,δ,ε,ζ,η,θ,ι,κ,μ,ν,ξ,ο,ρ,σ,τ,υ,reduceIte,reduceCtorEq,bB (Om:((w.length:Nat):Int)≠0)]
      refine aA (Lb.fits f now r w hu hl Om) Ev ?_
      cases bJE:fW f now r w with
      | false =>
       simp only[go_sem,γ,δ,ε,ζ,η,θ,ι,κ,μ,ν,ξ,ο,ρ,σ,τ,υ,reduceIte,reduceCtorEq,JS]
       refine no _ ?_ _ _ Ev
       rw[hE]
       exact hnoB bJE
      | true =>
       rw[bJE] at hs
       simp only[go_sem,γ,δ,ε,ζ,η,θ,ι,κ,μ,ν,ξ,ο,ρ,σ,τ,υ,reduceIte,reduceCtorEq,ajF,wZz k]
       exact aH (k+1) ⟨hlt,hs⟩ Om Lq PH.nil_le
    ·have bHW:¬ (k:Int)<(ws.length:Nat):=by omega
     have:k=ws.length:=by omega
     subst this
     rw[aFY] at hok
     simp only[go_sem,γ,δ,ε,ζ,η,θ,ι,κ,μ,ν,ξ,ο,ρ,σ,τ,υ,reduceIte,reduceCtorEq,bHW,ajG]
     refine no _ ?_ _ _ Ev
     rw[hE]
     exact hok
  ·rw[decide_eq_false cl,bJZ,bJZ] at hE
   simp only[go_sem,γ,δ,ε,ζ,η,θ,ι,κ,μ,ν,ξ,ο,ρ,σ,τ,υ,reduceIte,reduceCtorEq,cT (Om:((ws.flatten.length:Nat):Int)≠(f.bHP.length:Nat)),auW]
   exact no _ hE _ _ Ev
theorem boO {ws:List (List Int)} {i k:Nat} (hi:i<ws.length) (hk:k<ws[i].length):((ws.take i).flatten++ws[i].take k++[ws[i][k]]).Sublist ws.flatten:=by
 have e1:(ws.take i).flatten++ws[i].take k++[ws[i][k]]=(ws.take i).flatten++ws[i].take (k+1):=by
  rw[bLK hk,bKU]
 have e2:(ws.take (i+1)).flatten=(ws.take i).flatten++ws[i]:=by
  rw[bLK hi,List.flatten_append]; simp
 have e3:ws.flatten=(ws.take (i+1)).flatten++(ws.drop (i+1)).flatten:=by rw[← List.flatten_append,bMF]
 rw[e1,e3,e2]
 exact (bLR.append (bLR.refl _) (List.take_sublist ..)).trans (List.sublist_append_left ..)
theorem bjV {n:Nat} {all pre:List Int} {d:Int} (hs:(pre++[d]).Sublist all) (h:d<0∨(n:Int)≤d∨pre.contains d=true):xU n all=false:=by
 cases hw:xU n all with
 | false=>rfl
 | true =>
  obtain⟨-,h2,h3⟩:=JR.1 hw
  have hr:=h3 d (hs.subset (by simp))
  rcases h with h | h | h
  ·omega
  ·omega
  ·have:=h2.sublist hs
   rw[bME] at this
   exact absurd rfl (this.2.2 d (bNE.1 h) d (by simp))
structure Diff (n:Nat) (l:List Int):Prop where
 nd:l.Nodup
 rng:InR l n
theorem Diff.snoc {n:Nat} {l:List Int} {d:Int} (h:Diff n l) (h0:0≤d) (h1:d<n) (hc:l.contains d=false):Diff n (l++[d]):=by
 refine⟨?_,fun x hx=>?_⟩
 ·have:=aNV l d
  rw[hc,bKI,bLT] at this
  have h2:aeW l=true:=decide_eq_true h.nd
  rw[h2] at this
  exact of_decide_eq_true this
 ·rcases bLH.1 hx with hx | hx
  ·exact h.rng x hx
  ·rw[bLD] at hx; subst hx; exact⟨h0,h1⟩
def vrS (b:Bool):Spec:=fun name _=>match name with
 | 255=>some ([],fun _=>aD (.bool b))
 | _=>none
structure buA (C:Ctx):Prop extends RV C 253 255 where
 has:∀ (l:List Int) (x:Int),l.length≤1000000000000000→aE C 254 [ints l,.int .i64 x] .nil (aD (.bool (l.contains x)))
theorem bbS {C:Ctx} (Lb:buA C) (f:aK) (hf:f.Ok) (now:List (List Int)) (hl:fI now) (r:Int) (ws:List (List Int)) (h1:ws.length≤1000000) (h2:ws.flatten.length≤1000000) :
  BZ.wp C (aT QS.res (aD (.bool (fL f now r ws)))) (PF.args [.agg f.cells,lay now,.int .i64 r,lists ws]) .nil:=by
 have hE:fL f now r ws=(fH f now r&&(xU f.bHP.length ws.flatten&&ws.all (kR f now r))):=rfl
 have no:∀ b:Bool,fL f now r ws=b→∀ F' H',F' 8=some (.bool b)→aT [.tmp 8] (aD (.bool (fL f now r ws))) .ret F' H':=fun b hb F' H' h8=>by
  refine aM (.inr rfl) (vs:=[.bool b]) (by simp only[go_sem,γ,δ,ε,ζ,η,θ,ι,κ,μ,ν,ξ,ο,ρ,σ,τ,υ,reduceIte,reduceCtorEq,h8]) ?_
  rw[aV,hb]
 simp only[go_sem,γ,δ,ε,ζ,η,θ,ι,κ,μ,ν,ξ,ο,ρ,σ,τ,υ,reduceIte,reduceCtorEq,BZ,atQ,atR,QS]
 refine aA (Lb.usable f now r hf hl) Ev ?_
 cases hu:fH f now r with
 | false =>
  rw[hu,bJZ] at hE
  simp only[go_sem,γ,δ,ε,ζ,η,θ,ι,κ,μ,ν,ξ,ο,ρ,σ,τ,υ,reduceIte,reduceCtorEq,atS]
  exact no _ hE _ _ Ev
 | true =>
  rw[hu,bKE] at hE
  have hV:=VF.of (qD hu).1
  have hd:=hV.small.bHP
  simp only[go_sem,γ,δ,ε,ζ,η,θ,ι,κ,μ,ν,ξ,ο,ρ,σ,τ,υ,reduceIte,reduceCtorEq,atT,atU]
  refine wp_loop (α:=Nat × PV × PH) (fun s=>((((((PF.nil.set 1 (lay now)).set 2 (.int .i64 r)).set 3 (lists ws)).set 4 (.bH f.cells)).set 9 (s.2.1)).set 10 (.int .i64 s.1))) (fun s=>s.2.2) (fun s=>s.1≤ws.length∧aQ s.2.2 [] [(s.2.1,1,bD (ws.take s.1).flatten)]∧Diff f.bHP.length (ws.take s.1).flatten∧amN f now r ws s.1=true) (fun s=>ws.length-s.1) (0,.aB,.nil)
   ⟨bKF _,aQ.nil.mF 1,⟨.nil,fun x hx=>by cases hx⟩,rfl⟩ Lq PH.le_refl ?_
  rintro⟨i,v,H⟩ ⟨hi,hH,hD,hok⟩
  simp only at hi hH hD hok ⊢
  simp only[go_sem,γ,δ,ε,ζ,η,θ,ι,κ,μ,ν,ξ,ο,ρ,σ,τ,υ,reduceIte,reduceCtorEq,ahU,atV,bJT]
  by_cases hlt:i<ws.length
  ·have bHW:(i:Int)<(ws.length:Nat):=by omega
   have hat:(ws.map fun w=>[ints w])[i]?=some [ints ws[i]]:=by simp[hlt]
   have hs:=aqU (f:=f) (now:=now) (r:=r) hlt
   have hnoB:=aOV (p:=kR f now r) hlt
   have hle:=(List.sublist_flatten_of_mem (bJX hlt)).length_le
   have hsub:=fun k (hk:k<ws[i].length)=>boO hlt hk
   have hfs:(ws.take (i+1)).flatten=(ws.take i).flatten++ws[i]:=by
    rw[bLK hlt,List.flatten_append]; simp
   have hfl:(ws.take i).flatten.length≤ws.flatten.length:=SD ws i
   rw[hok,bKE,zK] at hs
   rw[zK] at hnoB
   generalize ws[i]=w at *
   generalize (ws.take i).flatten=pre at *
   simp only[go_sem,γ,δ,ε,ζ,η,θ,ι,κ,μ,ν,ξ,ο,ρ,σ,τ,υ,reduceIte,reduceCtorEq,bHW,atW]
   refine wp_loop (α:=Nat × PV × PH) (fun s=>(((((((PF.nil.set 1 (lay now)).set 2 (.int .i64 r)).set 3 (lists ws)).set 4 (.bH f.cells)).set 9 (s.2.1)).set 10 (.int .i64 i)).set 11 (.int .i64 s.1))) (fun s=>s.2.2) (fun s=>s.1≤w.length∧aQ s.2.2 [] [(s.2.1,1,bD (pre++w.take s.1))]∧Diff f.bHP.length (pre++w.take s.1)) (fun s=>w.length-s.1) (0,v,H)
    ⟨bKF _,by rw[List.take_zero,bLM]; exact hH,by rw[List.take_zero,bLM]; exact hD⟩ Lq PH.le_refl ?_
   clear hH hD
   rintro⟨k,v,H⟩ ⟨hk,hH,hD⟩
   simp only at hk hH hD ⊢
   have hO:=hH.own 0 rfl
   simp only[go_sem,γ,δ,ε,ζ,η,θ,ι,κ,μ,ν,ξ,ο,ρ,σ,τ,υ,reduceIte,reduceCtorEq,ahT,atX,hat,bJT]
   by_cases klt:k<w.length
   ·have klt':(k:Int)<(w.length:Nat):=by omega
    have hra:(w.map fun n=>[PV.int .i64 n])[k]?=some [.int .i64 w[k]]:=by simp[klt]
    have hsb:=hsub k klt
    have hws:w.take (k+1)=w.take k++[w[k]]:=bLK klt
    have hsl:=hsb.length_le
    rw[bKA,bKH] at hsl
    have bad:∀ (F':PF) (H':PH),(w[k]<0∨(f.bHP.length:Int)≤w[k]∨(pre++w.take k).contains w[k]=true)→F' 8=some (.bool false)→aT [.tmp 8] (aD (.bool (fL f now r ws))) .ret F' H':=fun F' H' h h8=>no _ (by rw[hE,bjV hsb h,bJZ]) _ _ h8
    generalize w[k]=d at *
    generalize hlE:pre++w.take k=l at *
    simp only[go_sem,γ,δ,ε,ζ,η,θ,ι,κ,μ,ν,ξ,ο,ρ,σ,τ,υ,reduceIte,reduceCtorEq,klt',atY,hat,hra,atZ,bJT]
    by_cases c1:d<0
    ·simp only[go_sem,γ,δ,ε,ζ,η,θ,ι,κ,μ,ν,ξ,ο,ρ,σ,τ,υ,reduceIte,reduceCtorEq,c1,vD]
     exact bad _ _ (.inl c1) Ev
    ·by_cases c2:d≥(f.bHP.length:Nat)
     ·simp only[go_sem,γ,δ,ε,ζ,η,θ,ι,κ,μ,ν,ξ,ο,ρ,σ,τ,υ,reduceIte,reduceCtorEq,c1,c2,vD]
      exact bad _ _ (.inr (.inl c2)) Ev
     ·simp only[go_sem,γ,δ,ε,ζ,η,θ,ι,κ,μ,ν,ξ,ο,ρ,σ,τ,υ,reduceIte,reduceCtorEq,c1,c2]
      refine RB (l:=l) (.bool _) (Lb.has l d Om) (.int _ _) hO Sq ?_
      cases hc:l.contains d with
      | true =>
       simp only[go_sem,γ,δ,ε,ζ,η,θ,ι,κ,μ,ν,ξ,ο,ρ,σ,τ,υ,reduceIte,reduceCtorEq,vD]
       exact bad _ _ (.inr (.inr hc)) Ev
      | false =>
       simp only[go_sem,γ,δ,ε,ζ,η,θ,ι,κ,μ,ν,ξ,ο,ρ,σ,τ,υ,reduceIte,reduceCtorEq,ahV]
       refine hH.append 0 (rows:=bD l) (src:=[[.int .i64 d]]) rfl Sq (by unfold roomFor; rw[dO]; simp only[bKH,maxLen]; omega) fun v2 H2 h3 _=>?_
       simp only[go_sem,γ,δ,ε,ζ,η,θ,ι,κ,μ,ν,ξ,ο,ρ,σ,τ,υ,reduceIte,reduceCtorEq,ahW,wZz k]
       refine aH (k+1,v2,H2) ⟨klt,?_,?_⟩ (by simp only; omega) Lq PH.le_refl
       ·simp only
        rw[hws,← bKU,hlE,qP]
        exact h3
       ·simp only
        rw[hws,← bKU,hlE]
        exact hD.snoc Om Om hc
   ·have klt':¬ (k:Int)<(w.length:Nat):=by omega
    have:k=w.length:=by omega
    subst this
    rw[bKS] at hH hD
    rw[← hfs] at hH hD
    simp only[go_sem,γ,δ,ε,ζ,η,θ,ι,κ,μ,ν,ξ,ο,ρ,σ,τ,υ,reduceIte,reduceCtorEq,klt']
    refine bR .nil (vrS (fW f now r w)) PH.nil_le ?_
    simp only[go_sem,γ,δ,ε,ζ,η,θ,ι,κ,μ,ν,ξ,ο,ρ,σ,τ,υ,reduceIte,reduceCtorEq,ahX,hat,bJT]
    by_cases cz:w.length=0
    ·have:w=[]:=List.length_eq_zero_iff.1 cz
     simp only[go_sem,γ,δ,ε,ζ,η,θ,ι,κ,μ,ν,ξ,ο,ρ,σ,τ,υ,reduceIte,reduceCtorEq,bO (Om:((w.length:Nat):Int)=0),JJ]
     refine no _ ?_ _ _ Ev
     rw[hE,hnoB (by rw[this]; rfl),bLC]
    ·have hne:w.isEmpty=false:=by cases w with
      | nil=>exact absurd rfl cz
      | cons x xs=>rfl
     rw[hne,bKI,bKE] at hs hnoB
     simp only[go_sem,γ,δ,ε,ζ,η,θ,ι,κ,μ,ν,ξ,ο,ρ,σ,τ,υ,reduceIte,reduceCtorEq,bB (Om:((w.length:Nat):Int)≠0),hat]
     refine bJ rfl (Lb.fits f now r w hu hl Om) Ev PH.nil_le ?_
     cases bJE:fW f now r w with
     | false =>
      simp only[go_sem,γ,δ,ε,ζ,η,θ,ι,κ,μ,ν,ξ,ο,ρ,σ,τ,υ,reduceIte,reduceCtorEq,JJ]
      refine no _ ?_ _ _ Ev
      rw[hE,hnoB bJE,bLC]
     | true =>
      rw[bJE] at hs
      simp only[go_sem,γ,δ,ε,ζ,η,θ,ι,κ,μ,ν,ξ,ο,ρ,σ,τ,υ,reduceIte,reduceCtorEq,ahY,wZz i]
      exact aH (i+1,v,H) ⟨hlt,hH,hD,hs⟩ (by simp only; omega) Lq PH.le_refl
  ·have bHW:¬ (i:Int)<(ws.length:Nat):=by omega
   have:i=ws.length:=by omega
   subst this
   rw[bKS] at hH hD
   rw[aFY] at hok
   have hln:=(hH.own 0 rfl).lenOf
   rw[dO] at hln
   rw[hok,bLT] at hE
   by_cases cl:ws.flatten.length=f.bHP.length
   ·simp only[go_sem,γ,δ,ε,ζ,η,θ,ι,κ,μ,ν,ξ,ο,ρ,σ,τ,υ,reduceIte,reduceCtorEq,bHW,JK,hln,bJT,bO (Om:((ws.flatten.length:Nat):Int)=(f.bHP.length:Nat))]
    refine no _ ?_ _ _ Ev
    rw[hE]
    exact JR.2 ⟨cl,hD.nd,hD.rng⟩
   ·simp only[go_sem,γ,δ,ε,ζ,η,θ,ι,κ,μ,ν,ξ,ο,ρ,σ,τ,υ,reduceIte,reduceCtorEq,bHW,JK,hln,bJT,bB (Om:((ws.flatten.length:Nat):Int)≠(f.bHP.length:Nat))]
    refine no _ ?_ _ _ Ev
    rw[hE]
    cases hw:xU f.bHP.length ws.flatten with
    | false=>rfl
    | true=>exact absurd (JR.1 hw).1 cl
def jA (l:List Int) (x:Int):List Int:=l.filter fun y=>y != x
theorem aNT {l:List Int} {x:Int} {k:Nat} (h:k<l.length):jA (l.take (k+1)) x=jA (l.take k) x++if l[k]=x then [] else [l[k]]:=by
 unfold jA
 rw[bLK h,List.filter_append]
 congr 1
 by_cases c:l[k]=x
 ·rw[if_pos c,List.filter_cons_of_neg (by simp[c])]; rfl
 ·rw[if_neg c,List.filter_cons_of_pos (by simp[c])]; rfl
theorem HF (l:List Int) (x:Int):(jA l x).length≤l.length:=List.length_filter_le ..
theorem aNQ {C:Ctx} (l:List Int) (hl:l.length≤1000000) (v:PV) (x:Int) (H:PH) (hH:aQ H [] [(v,1,bD l)]) :
  uB.wp C (aT xB.res (fun r H'=>∃ B' L',(B'=[]∧L'=[(v,1,bD l),(r,1,bD (jA l x))])∧aQ H' B' L')) (PF.args [v,.int .i64 x]) H:=by
 simp only[go_sem,γ,δ,ε,ζ,η,θ,ι,κ,μ,ν,ξ,ο,ρ,σ,τ,υ,reduceIte,reduceCtorEq,uB,UA,UB,UC,xB]
 refine wp_loop (α:=Nat × PV × PH) (fun s=>((((PF.nil.set 0 (v)).set 1 (.int .i64 x)).set 5 (s.2.1)).set 6 (.int .i64 s.1))) (fun s=>s.2.2) (fun s=>s.1≤l.length∧aQ s.2.2 [] [(v,1,bD l),(s.2.1,1,bD (jA (l.take s.1) x))]) (fun s=>l.length-s.1) (0,.aB,H)
  ⟨bKF _,hH.mF 1⟩ Lq PH.le_refl ?_
 clear hH
 rintro⟨k,w,H⟩ ⟨hk,hH⟩
 simp only at hk hH ⊢
 have hO:=hH.own 0 rfl
 have hln:=hO.lenOf
 rw[dO] at hln
 simp only[go_sem,γ,δ,ε,ζ,η,θ,ι,κ,μ,ν,ξ,ο,ρ,σ,τ,υ,reduceIte,reduceCtorEq,TZ,UD,hln]
 by_cases hlt:k<l.length
 ·have bHW:(k:Int)<(l.length:Nat):=by omega
  have hs:=aNT (x:=x) hlt
  have hml:=HF (l.take k) x
  rw[bKL] at hml
  rcases hO with ⟨h0,-⟩ | ⟨q,rs,rfl,b1,b2,b3⟩
  ·have:=List.map_eq_nil_iff.1 h0
   rw[this] at hlt
   exact absurd hlt (by simp)
  ·rw[dO] at hH b2 b3 ⊢
   have hat:rs[k]?=some [.int .i64 l[k]]:=by
    have:(bD l)[k]?=some [.int .i64 l[k]]:=by unfold bD; simp[hlt]
    rw[← b3,bMO hlt] at this
    exact this
   have klt:k<rs.length:=by omega
   by_cases c:l[k]=x
   ·rw[if_pos c,bLM] at hs
    simp only[go_sem,γ,δ,ε,ζ,η,θ,ι,κ,μ,ν,ξ,ο,ρ,σ,τ,υ,reduceIte,reduceCtorEq,bHW,AJ,b1,hat,klt,bKN,cH c,AK,wZz k]
    refine aH (k+1,w,H) ⟨hlt,?_⟩ (by simp only; omega) Lq PH.le_refl
    simp only
    rw[hs]
    exact hH
   ·rw[if_neg c] at hs
    simp only[go_sem,γ,δ,ε,ζ,η,θ,ι,κ,μ,ν,ξ,ο,ρ,σ,τ,υ,reduceIte,reduceCtorEq,bHW,AJ,b1,hat,klt,bKN,cT c,UE]
    refine hH.append 1 (rows:=bD (jA (l.take k) x)) (src:=[[.int .i64 l[k]]]) rfl Sq (by unfold roomFor; rw[dO]; simp only[bKH,maxLen]; omega) fun v2 H2 h3 _=>?_
    simp only[go_sem,γ,δ,ε,ζ,η,θ,ι,κ,μ,ν,ξ,ο,ρ,σ,τ,υ,reduceIte,reduceCtorEq,AK,wZz k]
    refine aH (k+1,v2,H2) ⟨hlt,?_⟩ (by simp only; omega) Lq PH.le_refl
    simp only
    rw[hs,qP]
    exact h3
 ·have bHW:¬ (k:Int)<(l.length:Nat):=by omega
  have:k=l.length:=by omega
  subst this
  rw[bKS] at hH
  simp only[go_sem,γ,δ,ε,ζ,η,θ,ι,κ,μ,ν,ξ,ο,ρ,σ,τ,υ,reduceIte,reduceCtorEq,bHW,UF]
  refine aX (vs:=[w]) (.inr rfl) H Ev PH.le_refl ⟨_,_,⟨rfl,rfl⟩,hH⟩
abbrev fM (l:List Int):aK:=(dD l 3 0).1
abbrev a1Y (l:List Int):List (List Int):=(cY l (fM l) (dD l 3 0).2 (fM l).bHR.length).1
abbrev pM (l:List Int):Nat:=(cY l (fM l) (dD l 3 0).2 (fM l).bHR.length).2
abbrev aHQ (l:List Int):List Int:=(eY l (fK (fM l) []) (pM l)).1
structure a5S (C:Ctx):Prop extends EF C where
 fleet:∀ l:List Int,TpM l→∀ o vols a:Nat,vols≤50→a≤1000→aE C 244 [.ptr o 2 0 0,.int .i64 vols] (PH.nil.set o (bG l a)) (fun r H=>r=.agg (dD l vols a).1.cells∧H=PH.nil.set o (bG l (dD l vols a).2))
 layout:∀ l:List Int,TpM l→∀ (o a:Nat) (f:aK),a≤10000→FM f→VF f→1≤f.bHP.length→aE C 246 [.ptr o 2 0 0,.agg f.cells] (PH.nil.set o (bG l a)) (fun r H=>r=lay (cY l f a f.bHR.length).1∧H=PH.nil.set o (bG l (cY l f a f.bHR.length).2))
 rooms:∀ l:List Int,TpM l→∀ (o a:Nat) (f:aK),a≤10000→f.Ok→dL f=true→1≤f.bHP.length→aE C 248 [.ptr o 2 0 0,.agg f.cells] (PH.nil.set o (bG l a)) (fun r H=>r=ints (eY l (fK f []) a).1∧H=PH.nil.set o (bG l (eY l (fK f []) a).2))
def mdC (l R:List Int) (p:Nat):Spec:=fun _ vs=>match vs with
 | .ptr o _ _ _::_=>some ([o],fun _ r H'=>r=ints R∧H'=PH.nil.set o (bG l p))
 | _=>none
def aYZ (l:List Int) (r:PV) (H:PH):Prop:=∃ o,r=.tup [.agg ((fM l).cells++[lay (a1Y l),ints (aHQ l)]),.ptr o 2 0 0]∧H=PH.nil.set o (bG l (eY l (fK (fM l) []) (pM l)).2)
theorem beS {C:Ctx} (Lb:a5S C) {l:List Int} (T:TpM l):FN.wp C (aT abX.res (aYZ l)) (PF.args [ints l]) .nil:=by
 obtain⟨hF,hvl,-,hp1⟩:=yJ l (bHR:=3) (by decide) 0
 have hv:=wQ l (bHR:=3) (by decide) 0
 have hd0:=acG l 3 0
 have hV:=VF.of hv
 obtain⟨-,-,-,hp2⟩:=qR l hF (dD l 3 0).2 _ (bJV _)
 have hp2':pM l≤10000:=by
  show (cY l (dD l 3 0).1 (dD l 3 0).2 (dD l 3 0).1.bHR.length).2≤10000
  omega
 obtain⟨f,hfe⟩:∃ f,(dD l 3 0).1=f:=⟨_,rfl⟩
 obtain⟨p1,hp1e⟩:∃ p,(dD l 3 0).2=p:=⟨_,rfl⟩
 obtain⟨L,hLe⟩:∃ L,a1Y l=L:=⟨_,rfl⟩
 obtain⟨p2,hp2e⟩:∃ p,pM l=p:=⟨_,rfl⟩
 obtain⟨R,hRe⟩:∃ R,aHQ l=R:=⟨_,rfl⟩
 obtain⟨p3,hp3e⟩:∃ p,(eY l (fK (fM l) []) (pM l)).2=p:=⟨_,rfl⟩
 have cF:∀ o,aE C 244 [.ptr o 2 0 0,.int .i64 3] (PH.nil.set o (bG l 0)) (fun r H=>r=.agg f.cells∧H=PH.nil.set o (bG l p1)):=fun o=>by
  have:=Lb.fleet l T o 3 0 (by decide) (by decide)
  rw[hfe,hp1e] at this
  exact this
 have cL:∀ o,aE C 246 [.ptr o 2 0 0,.agg f.cells] (PH.nil.set o (bG l p1)) (fun r H=>r=lay L∧H=PH.nil.set o (bG l p2)):=fun o=>by
  have:=Lb.layout l T o (dD l 3 0).2 (dD l 3 0).1 Om hF hV hd0
  rw[show (cY l (dD l 3 0).1 (dD l 3 0).2 (dD l 3 0).1.bHR.length).1=L from hLe,show (cY l (dD l 3 0).1 (dD l 3 0).2 (dD l 3 0).1.bHR.length).2=p2 from hp2e,hfe,hp1e] at this
  exact this
 have cR:∀ o,aE C 248 [.ptr o 2 0 0,.agg f.cells] (PH.nil.set o (bG l p2)) (fun r H=>r=ints R∧H=PH.nil.set o (bG l p3)):=fun o=>by
  have:=Lb.rooms l T o (pM l) (fM l) hp2' hF.ok hv hd0
  rw[show (eY l (fK (fM l) []) (pM l)).1=R from hRe,hp3e,show fM l=f from hfe,hp2e] at this
  exact this
 have hR:∀ r H,aYZ l r H↔∃ o,r=.tup [.agg (f.cells++[lay L,ints R]),.ptr o 2 0 0]∧H=PH.nil.set o (bG l p3):=fun r H=>by
  rw[← hfe,← hLe,← hRe,← hp3e]
  exact Iff.rfl
 simp only[go_sem,γ,δ,ε,ζ,η,θ,ι,κ,μ,ν,ξ,ο,ρ,σ,τ,υ,reduceIte,reduceCtorEq,FN,ayO,abX]
 refine aR fun o2 ho2=>?_
 have h1:aQ (PH.nil.set o2 (.rows 9 [[.int .i64 0,.aB,.aB,.aB,.aB,.aB,.aB,.aB,.aB]])) [(o2,.rows 9 [[.int .i64 0,.aB,.aB,.aB,.aB,.aB,.aB,.aB,.aB]])] []:=aQ.nil.new (H:=PH.nil) ho2 _
 simp only[go_sem,γ,δ,ε,ζ,η,θ,ι,κ,μ,ν,ξ,ο,ρ,σ,τ,υ,reduceIte,reduceCtorEq,ayP]
 refine aR fun o ho=>?_
 have h2:=h1.new ho (bG l 0)
 simp only[go_sem,γ,δ,ε,ζ,η,θ,ι,κ,μ,ν,ξ,ο,ρ,σ,τ,υ,reduceIte,reduceCtorEq,ayQ]
 refine CH (cF o) (h2.at 1 rfl) rfl ?_
 have h3:=h2.set 1 rfl (bG l p1)
 rw[PH.set_set] at h3
 simp only[go_sem,γ,δ,ε,ζ,η,θ,ι,κ,μ,ν,ξ,ο,ρ,σ,τ,υ,reduceIte,reduceCtorEq]
 refine aR fun o5 ho5=>?_
 have h4:=h3.new ho5 (.rows 7 [f.cells])
 have n5:¬ o=o5:=h4.ne 1 2 rfl rfl (by decide)
 have n2:¬ o2=o5:=h4.ne 0 2 rfl rfl (by decide)
 have n02:¬ o2=o:=h4.ne 0 1 rfl rfl (by decide)
 have n5':¬ o5=o:=fun h=>n5 h.symm
 have n2':¬ o5=o2:=fun h=>n2 h.symm
 have n02':¬ o=o2:=fun h=>n02 h.symm
 simp only[go_sem,γ,δ,ε,ζ,η,θ,ι,κ,μ,ν,ξ,ο,ρ,σ,τ,υ,reduceIte,reduceCtorEq,ayR,bKJ,bLB,or_false,forall_eq,forall_eq_or_imp]
 refine CH (cL o) (h4.at 1 rfl) rfl ?_
 have h5:=h4.set 1 rfl (bG l p2)
 have b5:=h5.at 2 rfl
 simp only[go_sem,γ,δ,ε,ζ,η,θ,ι,κ,μ,ν,ξ,ο,ρ,σ,τ,υ,reduceIte,reduceCtorEq]
 refine bR (PH.nil.set o5 (.rows 7 [f.cells])) (mdC l R p3) (PH.aI PH.nil_le b5) ?_
 simp only[go_sem,γ,δ,ε,ζ,η,θ,ι,κ,μ,ν,ξ,ο,ρ,σ,τ,υ,reduceIte,reduceCtorEq,ayS,n5,n2,n02,n5',n2',n02']
 have h6:=h5.set 1 rfl (bG l p3)
 have b6:=h6.at 2 rfl
 rw[PH.set_set] at h6
 refine ayF (x:=bG l p2) (y:=bG l p3) (r:=ints R) (R:=fun _ r H'=>r=ints R∧H'=PH.nil.set o (bG l p3)) rfl (h5.at 1 rfl) (cR o) ⟨rfl,rfl⟩ (fun r' H' h=>h) rfl (PH.aI PH.nil_le b6) ?_
 simp only[go_sem,γ,δ,ε,ζ,η,θ,ι,κ,μ,ν,ξ,ο,ρ,σ,τ,υ,reduceIte,reduceCtorEq,n5,n2,n02,n5',n2',n02',bKJ,bLB,or_false,forall_eq,forall_eq_or_imp]
 have h7:=h6.set 0 rfl (.rows 9 [f.cells++[lay L,ints R]])
 refine⟨PH.aI PH.nil_le (h7.at 2 rfl),?_⟩
 refine aX (vs:=[.agg (f.cells++[lay L,ints R]),.ptr o 2 0 0]) (.inr rfl) (PH.nil.set o (bG l p3)) ?_ (PH.aI PH.nil_le (h7.at 1 rfl)) ?_
 ·simp only[go_sem,γ,δ,ε,ζ,η,θ,ι,κ,μ,ν,ξ,ο,ρ,σ,τ,υ,reduceIte,reduceCtorEq,n02,n02',n2,n2']
  rfl
 ·rw[hR]
  exact⟨o,rfl,rfl⟩

end Go.PM
