/-
  Texts of ours, joined. No condition.
-/
import Derived.Test.YtkknafmijabgaaaGreatDoorFG1
import Derived.Test.YtkknafmijabgaaaGreatDoorFG2
import Derived.Test.YtkknafmijabgaaaGreatDoorFG3
import Derived.RangeFuncRecord
set_option linter.unusedSimpArgs false
set_option linter.unusedVariables false
open Nat renaming reduceEqDiff → γ, reduceAdd → δ, reduceSub → ε, reduceMul → ζ, reduceLT → η, reduceLeDiff → θ, reduceBEq → τ
open Int renaming reduceLT → ι, reduceLE → κ, reduceEq → μ, reduceToNat → ν, reduceAdd → ξ, reduceNeg → ο, reduceBEq → ρ, reduceBNe → σ
open List renaming reduceReplicate → υ
open List renaming length_map → aAA, replicate → aAC, length_append → aAE, getElem_mem → aAG, getElem?_eq_getElem → aAH, length_singleton → aAI, mem_cons → aAK, getD_eq_getElem?_getD → aAL, length_take → aAN, take_of_length_le → aAQ, append_assoc → aBE, map_cons → aBG, drop_zero → aBM, getElem?_eq_none → aBN, length_drop → aBR, take_length → aBT, append_nil → aBU, length_cons → aBV, length_set → aBW, mem_of_getElem? → aCA, getElem?_append_left → aCB, drop_eq_getElem_cons → aCK, length_nil → aCL, map_nil → aCP, take_append_drop → aDA, nil_append → aDN, set_append_right → aDQ, drop_of_length_le → aDW, length_replicate → aEA
open Nat renaming le_refl → aAF, mul_add → aAM, zero_le → aAP, lt_or_ge → aAV, zero_add → aAX, mul_assoc → aAZ, mul_comm → aBA, mul_le_mul_right → aBC, add_mul → aBI, add_zero → aBP, mod_eq_of_lt → aBQ, mod_lt → aBX, pow_succ → aCD, min_eq_left → aCF, eq_zero_or_pos → aCH, add_assoc → aCQ, mul_le_mul_left → aCR, pos_of_ne_zero → aCT, le_trans → aCX, pow_pos → aDB, div_eq_of_lt → aDG, div_le_self → aDH, div_lt_iff_lt_mul → aDI, mul_le_mul → aDJ, div_add_mod → aDS
open Option renaming map_eq_some_iff → aAJ, some → aCI
open Bool renaming false_eq_true → aDF
open Array renaming getElem?_eq_some_iff → aDZ
namespace Go.PM
open Go
def sa:Rg:=[iZ 4]
def sb:Rg:=[iZ 5]
def sd:Rg:=[iA 6 (.mv (.const (.int .u64 0)))]
def se:Rg:=[iI 7 0]
def sf:Rg:=[iM 10 7,iM 11 0,iN 12 11,iB 13 .lss 10 12]
def sg:Rg:=[iM 16 6,iM 8 16]
def sk:Rg:=[iM 17 7,iM 18 1,iN 19 18,iB 20 .lss 17 19]
def sm:Rg:=[iM 21 8,iM 22 1,iM 23 7,iX 24 1 22 23,iL 25 24,iA 26 (.conv .u64 (Tm 25)),iB 27 .add 21 26,iM 8 27]
def OJ:Rg:=[iM 28 0,iM 29 7,iX 30 1 28 29,iL 31 30,iA 32 (.conv .u64 (Tm 31)),iM 9 32]
def OK:Rg:=[iA 6 (.mv (.const (.int .u64 0)))]
def IS:Rg:=[iM 33 9,iM 34 8,iB 35 .lss 33 34]
def IT:Rg:=[iM 36 9,iA 37 (.bin .add (Tm 36) (.const (.int .u64 4294967296))),iM 9 37]
def IU:Rg:=[iA 6 (.mv (.const (.int .u64 1)))]
def xW:Rg:=[iM 38 5,iM 39 9,iM 40 8,iB 41 .sub 39 40,iA 42 (.conv .u32 (Tm 41)),iA 43 (.ayS true 1 1 [(.int .u32 0)] [(0,(Tm 42))]),iA 44 (.append 1 4 (Tm 38) (Tm 43)),iM 5 44]
def xX:Rg:=[iM 14 7,iC 15 .add 14 1,iM 7 15]
def fa:aE:=(.seq (sq sf (.cond (Tm 13) .skip (.exit 0))) (.seq (.block 1 (sq sg (.seq (sq sk (.cond (Tm 20) (.region sm) .skip)) (sq OJ (sq OK (.seq (sq IS (.cond (Tm 35) (sq IT (.region IU)) .skip)) (.region xW))))))) (.region xX)))
def fb:Rg:=[iM 45 5,iK 46 38 45,iM 4 46]
def DC:aE:=(sq sa (sq sb (sq sd (.seq (sq se (.block 0 (.loop fa))) (sq fb .ret)))))
def Z8:List Nat:=[43]
def Il:bB:=⟨2,47,DC,[.tmp 4]⟩
def In:Rg:=[iZ 4]
def Io:Rg:=[iZ 5]
def Ip:Rg:=[iA 6 (.mv (.const (.int .u64 0)))]
def Iq:Rg:=[iI 7 0]
def Ir:Rg:=[iM 9 7,iM 10 0,iN 11 10,iB 12 .lss 9 11,iM 13 12,gM 14 7 13 false,gM 15 1 13 false,gN 16 15 13 false,gB 17 .lss 14 16 13 false,iQ 18 13 17,iM 19 18,gM 20 6 19 false,iG 21 (.bin .gtr (Tm 20) (.const (.int .u64 0))) 19 false,iQ 22 19 21]
def XR:Rg:=[iM 25 6,iM 8 25]
def XS:Rg:=[iM 26 7,iM 27 0,iN 28 27,iB 29 .lss 26 28]
def XT:Rg:=[iM 30 8,iM 31 0,iM 32 7,iX 33 1 31 32,iL 34 33,iA 35 (.conv .u64 (Tm 34)),iB 36 .add 30 35,iM 8 36]
def IW:Rg:=[iM 37 7,iM 38 1,iN 39 38,iB 40 .lss 37 39]
def IX:Rg:=[iM 41 8,iM 42 1,iM 43 7,iX 44 1 42 43,iL 45 44,iA 46 (.conv .u64 (Tm 45)),iB 47 .add 41 46,iM 8 47]
def AY:Rg:=[iM 48 5,iM 49 8,iA 50 (.conv .u32 (Tm 49)),iA 51 (.ayS true 1 1 [(.int .u32 0)] [(0,(Tm 50))]),iA 52 (.append 1 4 (Tm 48) (Tm 51)),iM 5 52]
def AZ:Rg:=[iM 53 8,iA 54 (.bin .shr (Tm 53) (.const (.int .u64 32))),iM 6 54]
def BA:Rg:=[iM 23 7,iC 24 .add 23 1,iM 7 24]
def sn:aE:=(.seq (sq Ir (.cond (Tm 22) .skip (.exit 0))) (.seq (.block 1 (sq XR (.seq (sq XS (.cond (Tm 29) (.region XT) .skip)) (.seq (sq IW (.cond (Tm 40) (.region IX) .skip)) (sq AY (.region AZ)))))) (.region BA)))
def OM:Rg:=[iM 55 5,iK 56 38 55,iM 4 56]
def IV:aE:=(sq In (sq Io (sq Ip (.seq (sq Iq (.block 0 (.loop sn))) (sq OM .ret)))))
def ahJ:List Nat:=[51]
def Vx:bB:=⟨2,57,IV,[.tmp 4]⟩
def sr:Rg:=[iZ 4]
def ss:Rg:=[iM 10 0,iN 11 10,iM 12 1,iN 13 12,iB 14 .add 11 13,iA 15 (.ayV 1 4 [(.int .u32 0)] (Tm 14) (Tm 14)),iM 5 15]
def su:Rg:=[iI 6 0]
def sv:Rg:=[iM 16 6,iM 17 0,iN 18 17,iB 19 .lss 16 18]
def OO:Rg:=[iA 7 (.mv (.const (.int .u64 0)))]
def OP:Rg:=[iI 8 0]
def sw:Rg:=[iM 22 8,iM 23 1,iN 24 23,iB 25 .lss 22 24]
def sx:Rd:=[(iM 28 0,false),(iM 29 6,false),(iX 30 1 28 29,false),(iL 31 30,false),(iA 32 (.conv .u64 (Tm 31)),false),(iM 33 1,false),(iM 34 8,false),(iX 35 1 33 34,false),(iL 36 35,false),(iA 37 (.conv .u64 (Tm 36)),false),(iB 38 .mul 32 37,false),(iM 39 5,false),(iM 40 6,false),(iM 41 8,false),(iB 42 .add 40 41,false),(iX 43 1 39 42,false),(iL 44 43,false),(iA 45 (.conv .u64 (Tm 44)),false),(iB 46 .add 38 45,false),(iM 47 7,false),(iB 48 .add 46 47,false),(iM 9 48,false)]
def sy:Rg:=[iM 49 5,iM 50 6,iM 51 8,iB 52 .add 50 51,iM 53 9,iA 54 (.conv .u32 (Tm 53)),iX 55 1 49 52,iS 1 55 54]
def s7:Rg:=[iM 56 9,iA 57 (.bin .shr (Tm 56) (.const (.int .u64 32))),iM 7 57]
def fg:Rg:=[iM 26 8,iC 27 .add 26 1,iM 8 27]
def IY:aE:=(.seq (sq sw (.cond (Tm 25) .skip (.exit 2))) (.seq (.block 3 (dq sx (sq sy (.region s7)))) (.region fg)))
def IZ:Rg:=[iM 58 5,iM 59 6,iM 60 1,iN 61 60,iB 62 .add 59 61,iM 63 7,iA 64 (.conv .u32 (Tm 63)),iX 65 1 58 62,iS 1 65 64]
def fh:Rg:=[iM 20 6,iC 21 .add 20 1,iM 6 21]
def ff:aE:=(.seq (sq sv (.cond (Tm 19) .skip (.exit 0))) (.seq (.block 1 (sq OO (.seq (sq OP (.block 2 (.loop IY))) (.region IZ)))) (.region fh)))
def fi:Rg:=[iM 66 5,iK 67 38 66,iM 4 67]
def DD:aE:=(sq sr (sq ss (.seq (sq su (.block 0 (.loop ff))) (sq fi .ret))))
def aaA:List Nat:=[]
def Is:bB:=⟨2,68,DD,[.tmp 4]⟩
def Hj:Rg:=[iI 2 0]
def Hk:Rg:=[iM 5 0,iK 6 38 5,iM 0 6]
def Hl:Rg:=[iM 7 0,iN 8 7,iC 9 .eql 8 0]
def Hm:Rg:=[iI 2 0]
def Hn:Rg:=[iM 10 0,iN 11 10,iC 12 .sub 11 1,iA 13 (.bin .mul (Ci 32) (Tm 12)),iM 3 13]
def Ho:Rg:=[iM 14 0,iM 15 0,iN 16 15,iC 17 .sub 16 1,iX 18 1 14 17,iL 19 18,iM 4 19]
def Hp:Rg:=[iM 20 4,iA 21 (.bin .gtr (Tm 20) (.const (.int .u32 0)))]
def Hq:Rg:=[iM 24 3,iC 25 .add 24 1,iM 3 25]
def Hr:Rg:=[iM 22 4,iA 23 (.bin .quo (Tm 22) (.const (.int .u32 2))),iM 4 23]
def Hi:aE:=(.seq (sq Hp (.cond (Tm 21) .skip (.exit 0))) (.seq (.block 1 (.region Hq)) (.region Hr)))
def rx:Rg:=[iM 26 3,iM 2 26]
def IL:aE:=(sq Hj (sq Hk (.seq (sq Hl (.cond (Tm 9) (sq Hm .ret) .skip)) (sq Hn (.seq (sq Ho (.block 0 (.loop Hi))) (sq rx .ret))))))
def agV:List Nat:=[]
def Vn:bB:=⟨1,27,IL,[.tmp 2]⟩
def aaB:Rg:=[iZ 4]
def aaC:Rg:=[iM 9 0,iN 10 9,iC 11 .eql 10 0]
def aaD:Rg:=[iZ 4]
def aaE:Rg:=[iM 12 1,iC 13 .quo 12 32,iA 14 (.ayV 1 4 [(.int .u32 0)] (Tm 13) (Tm 13)),iM 5 14]
def aaF:Rg:=[iA 6 (.mv (.const (.int .u64 0)))]
def aaG:Rg:=[iI 7 0]
def aaH:Rg:=[iM 15 7,iM 16 0,iN 17 16,iB 18 .lss 15 17]
def aaI:Rg:=[iM 21 0,iM 22 7,iX 23 1 21 22,iL 24 23,iA 25 (.conv .u64 (Tm 24)),iM 26 1,iC 27 .rem 26 32,iA 28 (.conv .u64 (Tm 27)),iB 29 .shl 25 28,iM 30 6,iB 31 .or 29 30,iM 8 31]
def aaJ:Rg:=[iM 32 5,iM 33 8,iA 34 (.conv .u32 (Tm 33)),iA 35 (.ayS true 1 1 [(.int .u32 0)] [(0,(Tm 34))]),iA 36 (.append 1 4 (Tm 32) (Tm 35)),iM 5 36]
def aaK:Rg:=[iM 37 8,iA 38 (.bin .shr (Tm 37) (.const (.int .u64 32))),iM 6 38]
def Rw:Rg:=[iM 19 7,iC 20 .add 19 1,iM 7 20]
def Rv:aE:=(.seq (sq aaH (.cond (Tm 18) .skip (.exit 0))) (.seq (.block 1 (sq aaI (sq aaJ (.region aaK)))) (.region Rw)))
def Rx:Rg:=[iM 39 5,iM 40 6,iA 41 (.conv .u32 (Tm 40)),iA 42 (.ayS true 1 1 [(.int .u32 0)] [(0,(Tm 41))]),iA 43 (.append 1 4 (Tm 39) (Tm 42)),iK 44 38 43,iM 4 44]
def XV:aE:=(sq aaB (.seq (sq aaC (.cond (Tm 11) (sq aaD .ret) .skip)) (sq aaE (sq aaF (.seq (sq aaG (.block 0 (.loop Rv))) (sq Rx .ret))))))
def aqM:List Nat:=[35,42]
def uup:bB:=⟨2,45,XV,[.tmp 4]⟩
def Hy:Rg:=[iZ 4]
def Hz:Rg:=[iM 8 1,iC 9 .quo 8 32,iM 10 0,iN 11 10,iB 12 .geq 9 11]
def Ia:Rg:=[iZ 4]
def Ib:Rg:=[iZ 5]
def Ic:Rg:=[iM 13 1,iC 14 .quo 13 32,iM 6 14]
def Ie:Rg:=[iM 15 6,iM 16 0,iN 17 16,iB 18 .lss 15 17]
def If:Rg:=[iM 21 0,iM 22 6,iX 23 1 21 22,iL 24 23,iA 25 (.conv .u64 (Tm 24)),iM 7 25]
def Ig:Rg:=[iM 26 6,iC 27 .add 26 1,iM 28 0,iN 29 28,iB 30 .lss 27 29]
def Ih:Rg:=[iM 31 7,iM 32 0,iM 33 6,iC 34 .add 33 1,iX 35 1 32 34,iL 36 35,iA 37 (.conv .u64 (Tm 36)),iA 38 (.bin .shl (Tm 37) (.const (.int .u64 32))),iB 39 .or 31 38,iM 7 39]
def XQ:Rg:=[iM 40 5,iM 41 7,iM 42 1,iC 43 .rem 42 32,iA 44 (.conv .u64 (Tm 43)),iB 45 .shr 41 44,iA 46 (.conv .u32 (Tm 45)),iA 47 (.ayS true 1 1 [(.int .u32 0)] [(0,(Tm 46))]),iA 48 (.append 1 4 (Tm 40) (Tm 47)),iM 5 48]
def OH:Rg:=[iM 19 6,iC 20 .add 19 1,iM 6 20]
def ry:aE:=(.seq (sq Ie (.cond (Tm 18) .skip (.exit 0))) (.seq (.block 1 (sq If (.seq (sq Ig (.cond (Tm 30) (.region Ih) .skip)) (.region XQ)))) (.region OH)))
def rz:Rg:=[iM 49 5,iK 50 38 49,iM 4 50]
def IQ:aE:=(sq Hy (.seq (sq Hz (.cond (Tm 12) (sq Ia .ret) .skip)) (sq Ib (.seq (sq Ic (.block 0 (.loop ry))) (sq rz .ret)))))
def ahA:List Nat:=[47]
def Vt:bB:=⟨2,51,IQ,[.tmp 4]⟩
open Go Go.Na
theorem qB (P:List Nat) (v:Nat):aH P++[[.int .u32 (v:Int)]]=aH (P++[v]):=by simp[aH]
theorem qA {P:List Nat} (h:P.length≤35184372087808):roomFor (aH P).length 1 4:=by
 unfold roomFor;rw[bV];simp only[maxLen]; omega
def QR (a b:List Nat) (v:PV) (c i:Nat):PF:=(((((PF.nil.set 0 (aI a)).set 1 (aI b)).set 5 (v)).set 6 (.int .u64 c)).set 7 (.int .i64 i))
theorem Z7 {C:Ctx} (L:pR C) (a b:List Nat) (ha:Lim a) (hb:Lim b) (η:val b≤val a) (hl:b.length≤a.length) (h1:a.length≤35184372087808) :
  DC.wp C (aT Il.res (cL (aI (aJ (val a-val b))))) (PF.args [aI a,aI b]) .nil:=by
 simp only[go_sem,DC,sa,sb,sd,se,Il];refine wp_loop (α:=List Nat × Nat × PV × PH) (fun s=>QR a b s.2.2.1 s.2.1 s.1.length) (fun s=>s.2.2.2)
  (fun s=>s.1.length≤a.length∧Lim s.1∧s.2.1≤1∧val (a.take s.1.length)+4294967296 ^ s.1.length*s.2.1=val s.1+val (b.take s.1.length)∧bY s.2.2.2 1 s.2.2.1 (aH s.1)) (fun s=>a.length-s.1.length) ([],0,.aA,.nil) ⟨by simp,by simp[Lim],by simp,by simp[val],.nil⟩ ?_ a_ ?_
 ·unfold QR;exact Lq
 rintro⟨P,c,v,H0⟩ ⟨hP,j,hc,B,W⟩;simp only at hP j hc B W ⊢;simp only[go_sem,fa,sf,QR];by_cases X:P.length<a.length
 ·have F:(P.length:Int)<(a.length:Nat):=Om;have ε:=ha _ (aAG X);have δ:=bZ a X;have β:(aH a)[P.length]?=some [.int .u32 ((a[P.length]:Nat):Int)]:=bL a X;generalize hx:a[P.length]=x at *
  have ex:IntKind.u64.wrap ((x:Nat):Int)=((x:Nat):Int):=aZ Om;have fin:∀ (t:Nat) (E:PF),t<4294967296→val (b.take (P.length+1))=val (b.take P.length)+4294967296 ^ P.length*t →
    E 0=some (aI a)→E 1=some (aI b)→E 5=some v→E 8=some (.int .u64 (c+t:Nat))→E 7=some (.int .i64 P.length) →
    ∀ K:cK,(∀ A l v' V H2,A.length=P.length+1→Lim A→l≤1→val (a.take (P.length+1))+4294967296 ^ A.length*l=val A+val (b.take (P.length+1))→(QR a b v' l A.length).le V→bY H2 1 v' (aH A)→K .normal V H2) →
    aE.wp C (.seq (.region OJ) (.seq (.region OK) (.seq (.seq (.region IS) (.cond (.tmp 35) (.seq (.region IT) (.region IU)) .skip)) (.region xW)))) (fZ 1 (mE C (aE.wp C (.region xX)) K)) E H0:=by
   intro t E ht w g0 g1 g5 g8 g7 K hK;have step:∀ (d l:Nat),d<4294967296→l≤1→x+4294967296*l=d+(c+t)→val (a.take (P.length+1))+4294967296 ^ (P.length+1)*l=val (P++[d])+val (b.take (P.length+1)):=by
    intro d l hd ζ he;have h2:4294967296 ^ P.length*(x+4294967296*l)=4294967296 ^ P.length*(d+(c+t)):=by rw[he]
    rw[aAM,aAM,aAM] at h2;rw[jO,aCD,aAZ,δ,w];omega
   simp only[go_sem,OJ,g0,g7,β,ex,OK,IS,g8];by_cases c2:x<c+t
   ·have I:((x:Nat):Int)<((c+t:Nat):Int):=Om;have R:IntKind.u64.wrap ((x:Int)+4294967296)=((x+4294967296:Nat):Int):=by rw[show (x:Int)+4294967296=((x+4294967296:Nat):Int) by omega];exact aZ Om
    have M:IntKind.u64.wrap (((x+4294967296:Nat):Int)-((c+t:Nat):Int))=((x+4294967296-(c+t):Nat):Int):=by rw[show ((x+4294967296:Nat):Int)-((c+t:Nat):Int)=((x+4294967296-(c+t):Nat):Int) by omega];exact aZ Om
    have N:IntKind.u32.wrap ((x+4294967296-(c+t):Nat):Int)=((x+4294967296-(c+t):Nat):Int):=by rw[cI,aBQ Om]
    have O:(1:Nat)*1≤16777216:=by decide
    simp only[go_sem,I,IT,R,IU,xW,g5,g8,M,N,O];refine jH (src:=[[.int .u32 ((x+4294967296-(c+t):Nat):Int)]]) W rfl (qA Om) fun v' H' u _=>?_;rw[qB] at u;simp only[go_sem,xX,g7,dN (Om:P.length<9223372036854775807)];refine hK _ 1 v' _ H' (by simp) (j.app fun y U=>by simp at U; subst U; omega) (aAF _) ?_ ?_ u
    ·rw[aAE,aAI];exact step _ 1 Om (aAF _) Om
    ·unfold QR;rw[aAE,aAI];exact Lq
   ·have I:¬ ((x:Nat):Int)<((c+t:Nat):Int):=Om;have M:IntKind.u64.wrap (((x:Nat):Int)-((c+t:Nat):Int))=((x-(c+t):Nat):Int):=by rw[show ((x:Nat):Int)-((c+t:Nat):Int)=((x-(c+t):Nat):Int) by omega];exact aZ Om
    have N:IntKind.u32.wrap ((x-(c+t):Nat):Int)=((x-(c+t):Nat):Int):=by rw[cI,aBQ Om]
    have O:(1:Nat)*1≤16777216:=by decide
    simp only[go_sem,I,xW,g5,g8,M,N,O];refine jH (src:=[[.int .u32 ((x-(c+t):Nat):Int)]]) W rfl (qA Om) fun v' H' u _=>?_;rw[qB] at u;simp only[go_sem,xX,g7,dN (Om:P.length<9223372036854775807)];refine hK _ 0 v' _ H' (by simp) (j.app fun y U=>by simp at U; subst U; omega) (by decide) ?_ ?_ u
    ·rw[aAE,aAI];exact step _ 0 Om (by decide) Om
    ·unfold QR;rw[aAE,aAI];exact Lq
  simp only[aE.wp,go_sem] at fin;simp only[go_sem,F,sg,sk];by_cases Y:P.length<b.length
  ·have J:(P.length:Int)<(b.length:Nat):=Om;have γ:=hb _ (aAG Y);have w:=bZ b Y;have eb:IntKind.u64.wrap ((b[P.length]:Nat):Int)=((b[P.length]:Nat):Int):=aZ Om;have es:IntKind.u64.wrap ((c:Int)+(b[P.length]:Int))=((c+b[P.length]:Nat):Int):=fH Om;simp only[go_sem,J,sm,bL b Y,eb,es];refine fin b[P.length] _ γ w rfl rfl rfl rfl rfl _ ?_;intro A l v' V H2 R M N S Z e6;rw[← R] at S;exact aL (α:=List Nat × Nat × PV × PH) (A,l,v',H2) ⟨by simp only; omega,M,N,S,e6⟩ (by simp only; omega) Z b_
  ·have J:¬ (P.length:Int)<(b.length:Nat):=Om;have w:val (b.take (P.length+1))=val (b.take P.length)+4294967296 ^ P.length*0:=by rw[aAQ Om,aAQ Om]; simp
   simp only[go_sem,J];refine fin 0 _ (by decide) w rfl rfl rfl rfl rfl _ ?_;intro A l v' V H2 R M N S Z e6;rw[← R] at S;exact aL (α:=List Nat × Nat × PV × PH) (A,l,v',H2) ⟨by simp only; omega,M,N,S,e6⟩ (by simp only; omega) Z b_
 ·have e:P.length=a.length:=Om;have F:¬ (P.length:Int)<(a.length:Nat):=Om;have hV:val P=val a-val b:=by
   rw[e,aBT,aAQ hl] at B;have hlt:=fG j;rw[e] at hlt;rcases aCH c with h | h
   ·subst h; omega
   ·have:c=1:=Om;subst this; omega
  simp only[go_sem,F,fb];have hs:=L.trim _ j Om;rw[hV] at hs;refine tU hs W rfl fun F1 H1 _=>?_;simp only[go_sem];exact aV (.inr rfl) .nil rfl a_ ⟨.refl _,rfl⟩
def rL (a b:List Nat) (o i:Nat):PF:=((((PF.nil.set 0 (aI a)).set 1 (aI b)).set 5 (.osl o 1 0 (a.length+b.length))).set 6 (.int .i64 i))
def utG (a b:List Nat) (o i c j:Nat):PF:=((((((PF.nil.set 0 (aI a)).set 1 (aI b)).set 5 (.osl o 1 0 (a.length+b.length))).set 6 (.int .i64 i)).set 7 (.int .u64 c)).set 8 (.int .i64 j))
theorem Vy {C:Ctx} (a b:List Nat) (ha:Lim a) (hb:Lim b) (h1:a.length≤35184372087808) (h2:b.length≤35184372087808) (L:List Nat) (i:Nat) (hi:i<a.length) (O:DK a b L i) (q:Nat) (K:cK) (F:PF) (H:PH) (N:(rL a b q i).le F) (hH:H q=some (.rows 1 (aH L)))
  (hK:∀ L' F' H',DK a b L' (i+1)→(rL a b q i).le F'→H' q=some (.rows 1 (aH L'))→K .normal F' H') :
  aE.wp C (.block 1 (.seq (.region OO) (.seq (.seq (.region OP) (.block 2 (.loop IY))) (.region IZ)))) K F H:=by
 have f0:=N 0 _ (by unfold rL; simp only[go_sem]; rfl);have f1:=N 1 _ (by unfold rL; simp only[go_sem]; rfl);have f5:=N 5 _ (by unfold rL; simp only[go_sem]; rfl);have f6:=N 6 _ (by unfold rL; simp only[go_sem]; rfl);have hx:=ha _ (aAG hi);have β:=bZ a hi;generalize δ:a[i]=x at *
 have X:(aH a)[i]?=some [.int .u32 ((x:Nat):Int)]:=by rw[bL a hi,δ]
 simp only[go_sem,OO,OP];refine wp_loop (α:=List Nat × Nat × Nat) (fun t=>utG a b q i t.2.1 t.2.2) (fun t=>PH.nil.set q (.rows 1 (aH t.1)))
  (fun t=>t.2.2≤b.length∧t.1.length=a.length+b.length∧Lim t.1∧t.2.1<4294967296∧val t.1+4294967296 ^ (i+t.2.2)*t.2.1=val (a.take i)*val b+4294967296 ^ i*(x*val (b.take t.2.2))∧∀ j y,i+b.length≤j→t.1[j]?=some y→y=0) (fun t=>b.length-t.2.2) (L,0,0)
  ⟨by simp,O.len,O.lim,by simp,by simp[val,O.v],O.z⟩ ?_ (e_ a_ hH) ?_
 ·unfold utG;exact Lq
 rintro⟨M,c,j⟩ ⟨hj,W,l,Z,A,S⟩;simp only at hj W l Z A S;simp only[go_sem,IY,sw,utG];by_cases U:j<b.length
 ·have B:(j:Int)<(b.length:Nat):=Om;have R:=hb _ (aAG U);have γ:=bZ b U;generalize ε:b[j]=y at *
  have Y:(aH b)[j]?=some [.int .u32 ((y:Nat):Int)]:=by rw[bL b U,ε]
  have e:i+j<M.length:=Om;have J:=l _ (aAG e);have w:=ED e;generalize ζ:M[i+j]=z at *
  have I:(aH M)[i+j]?=some [.int .u32 ((z:Nat):Int)]:=by rw[bL M e,ζ]
  have ex:IntKind.u64.wrap ((x:Nat):Int)=((x:Nat):Int):=aZ Om;have ey:IntKind.u64.wrap ((y:Nat):Int)=((y:Nat):Int):=aZ Om;have ez:IntKind.u64.wrap ((z:Nat):Int)=((z:Nat):Int):=aZ Om;have em:=O5 hx R;have θ:x*y≤4294967295*4294967295:=aDJ Om Om;have e1:IntKind.u64.wrap (((x*y:Nat):Int)+(z:Int))=((x*y+z:Nat):Int):=fH Om;have e2:IntKind.u64.wrap (((x*y+z:Nat):Int)+(c:Int))=((x*y+z+c:Nat):Int):=fH Om;have E:IntKind.i64.wrap ((i:Int)+(j:Int))=((i+j:Nat):Int):=gY Om;have hlt:((i+j:Nat):Int)<((a.length+b.length:Nat):Int):=Om;generalize ht:x*y+z+c=t at *
  have η:t<4294967296*4294967296:=Om;have u:(aH M).set (i+j) [.int .u32 ((t%4294967296:Nat):Int)]=aH (M.set (i+j) (t%4294967296)):=fS M (i+j) _;simp only[go_sem,B];refine bN .nil dC a_ ?_;simp only[go_sem,sx,X,Y,ex,ey,em,E,hlt,I,ez,e1,e2,sy,cI,u,s7,xT,fg,wZz j];refine aL (M.set (i+j) (t%4294967296),t/4294967296,j+1) ⟨by simp only; omega,by simp only[aBW]; exact W,l.set _ (aBX _ (by decide)),by simp only; omega,?_,fy S _ _ Om⟩ (by simp only; omega) ?_ (e_ a_ Sq)
  ·simp only;have V:=w (t%4294967296);have h4:4294967296 ^ (i+(j+1))*(t/4294967296)+4294967296 ^ (i+j)*(t%4294967296)=4294967296 ^ (i+j)*t:=by rw[← aCQ,aCD,aAZ,← aAM,aDS]
   have h5:4294967296 ^ (i+j)*t=4294967296 ^ (i+j)*(x*y)+4294967296 ^ (i+j)*z+4294967296 ^ (i+j)*c:=by rw[← ht,aAM,aAM]
   have h6:4294967296 ^ i*(x*val (b.take (j+1)))=4294967296 ^ i*(x*val (b.take j))+4294967296 ^ (i+j)*(x*y):=by rw[γ,aAM,aAM,Nat.pow_add];congr 1;rw[Nat.mul_left_comm x,aAZ]
   omega
  ·exact Lq
 ·have he:j=b.length:=Om;have B:¬ (j:Int)<(b.length:Nat):=Om;subst he;have e:i+b.length<M.length:=Om;have J:M[i+b.length]=0:=S _ _ (aAF _) (aAH e);have w:=ED e;have I:(aH M)[i+b.length]?=some [.int .u32 ((0:Nat):Int)]:=by rw[bL M e,J]
  have E:IntKind.i64.wrap ((i:Int)+(b.length:Int))=((i+b.length:Nat):Int):=gY Om;have hlt:((i+b.length:Nat):Int)<((a.length+b.length:Nat):Int):=Om;have u:(aH M).set (i+b.length) [.int .u32 ((c%4294967296:Nat):Int)]=aH (M.set (i+b.length) c):=by rw[aBQ Z]; exact fS M _ _
  simp only[go_sem,B,IZ,E,cI,hlt,I,u];refine hK (M.set (i+b.length) c) _ _ ⟨by rw[aBW]; exact W,l.set _ Z,?_,fun j y hj R=>?_⟩ (by unfold rL; exact Lq) Sq
  ·have V:=w c;rw[J,Nat.mul_zero,aBP] at V;rw[V,A,aBT,β,aBI,aAZ]
  ·rw[List.getElem?_set_ne Om] at R;exact S j y Om R
theorem Z9 {C:Ctx} (L:pR C) (a b:List Nat) (O:Lim a) (hb:Lim b) (V:a.length≤8388608) (W:b.length≤8388608) :
  DD.wp C (aT Is.res (cL (aI (aJ (val a*val b))))) (PF.args [aI a,aI b]) .nil:=by
 have w:IntKind.i64.wrap ((a.length:Int)+(b.length:Int))=((a.length+b.length:Nat):Int):=gY Om;have E:((a.length+b.length:Nat):Int)*((4:Nat):Int)≤140737488355328:=Om;have F:((a.length+b.length:Nat):Int)≤9223372036854775807:=Om;have R:aAC (a.length+b.length) [PV.int .u32 0]=aH (aAC (a.length+b.length) 0):=by simp[aH]
 simp only[go_sem,DD,sr,ss,Is,aAA,w,E,F,R];refine aP fun o X=>?_;simp only[go_sem,su];refine wp_loop (α:=List Nat × Nat) (fun t=>rL a b o t.2) (fun t=>PH.nil.set o (.rows 1 (aH t.1))) (fun t=>t.2≤a.length∧DK a b t.1 t.2) (fun t=>a.length-t.2) (aAC (a.length+b.length) 0,0)
  ⟨by simp,by simp,wE _,by simp[val,sC],fun j x _ J=>by rw[List.getElem?_replicate] at J; split at J<;>simp_all⟩ ?_ (e_ a_ Sq) ?_
 ·unfold rL;exact Lq
 rintro⟨M,i⟩ ⟨hi,l⟩;simp only at hi l;simp only[go_sem,ff,sv,rL];by_cases K:i<a.length
 ·have u:(i:Int)<(a.length:Nat):=Om;have y:=Vy (C:=C) a b O hb Om Om M i K l o;simp only[go_sem] at y;simp only[go_sem,u];refine y _ _ _ (by unfold rL; exact Lq) Sq ?_;intro L' S H' B e A;have N:=e 6 _ (by unfold rL; simp only[go_sem]; rfl);have g0:=e 0 _ (by unfold rL; simp only[go_sem]; rfl);have g1:=e 1 _ (by unfold rL; simp only[go_sem]; rfl);have U:=e 5 _ (by unfold rL; simp only[go_sem]; rfl);simp only[go_sem,fh,N,wZz i];refine aL (L',i+1) ⟨by simp only; omega,B⟩ (by simp only; omega) ?_ (e_ a_ A);exact Lq
 ·have he:i=a.length:=Om;subst he;have u:¬ (a.length:Int)<(a.length:Nat):=Om;have hV:val M=val a*val b:=by rw[l.v,aBT]
  simp only[go_sem,fi];have I:=L.trim _ l.lim (by rw[l.len]; omega);rw[hV] at I;refine qG (o:=o) (s:=1) (k:=a.length+b.length) (rs:=aH M) (v:=aI (aJ (val a*val b))) ?_ rfl Sq (by rw[bV,l.len]; exact aAF _) ?_
  ·rw[aAQ (by rw[bV,l.len]; exact aAF _)]; exact I
  ·simp only[go_sem];exact aV (.inr rfl) .nil rfl a_ ⟨.refl _,rfl⟩
structure Wg (C:Ctx):Prop extends vd C where
 minus:∀ a b,Lim a→Lim b→val b≤val a→b.length≤a.length→a.length≤35184372087808→aG C 42 [aI a,aI b] .nil (aM (aI (aJ (val a-val b))))
 times:∀ a b,Lim a→Lim b→a.length≤8388608→b.length≤8388608→aG C 44 [aI a,aI b] .nil (aM (aI (aJ (val a*val b))))
def wX (a:List Nat) (i:Nat):Nat:=a.getD i 0
theorem v8 {a:List Nat} (h:Lim a) (i:Nat):wX a i<4294967296:=by
 unfold wX;rw[aAL];rcases aAV i a.length with h1 | h1
 ·rw[aAH h1]; exact h _ (aAG h1)
 ·rw[aBN h1]; decide
theorem TK {a:List Nat} {i:Nat} (h:i<a.length):wX a i=a[i]:=by simp[wX,aAL,h]
theorem KQ {a:List Nat} {i:Nat} (h:¬ i<a.length):wX a i=0:=by simp[wX,aAL,h]
theorem OQ (a:List Nat) (i:Nat):val (a.take (i+1))=val (a.take i)+4294967296 ^ i*wX a i:=by
 rcases aAV i a.length with h | h
 ·rw[TK h]; exact bZ a h
 ·rw[KQ Om,aAQ Om,aAQ Om]; simp
def tQ (a b:List Nat) (v:PV) (c i:Nat):PF:=(((((PF.nil.set 0 (aI a)).set 1 (aI b)).set 5 (v)).set 6 (.int .u64 c)).set 7 (.int .i64 i))
theorem ahI {C:Ctx} (L:pR C) (a b:List Nat) (ha:Lim a) (hb:Lim b) (h1:a.length≤8388608) (h2:b.length≤8388608) :
  IV.wp C (aT Vx.res (cL (aI (aJ (val a+val b))))) (PF.args [aI a,aI b]) .nil:=by
 simp only[go_sem,IV,In,Io,Ip,Iq,Vx];refine wp_loop (α:=List Nat × Nat × PV × PH) (fun s=>tQ a b s.2.2.1 s.2.1 s.1.length) (fun s=>s.2.2.2)
  (fun s=>s.1.length≤max a.length b.length+1∧(s.1.length≤max a.length b.length∨s.2.1=0)∧Lim s.1∧s.2.1≤1∧val s.1+4294967296 ^ s.1.length*s.2.1=val (a.take s.1.length)+val (b.take s.1.length)∧bY s.2.2.2 1 s.2.2.1 (aH s.1)) (fun s=>max a.length b.length+1-s.1.length) ([],0,.aA,.nil)
  ⟨by simp,by simp,by simp[Lim],by simp,by simp[val],.nil⟩ ?_ a_ ?_
 ·unfold tQ;exact Lq
 rintro⟨P,c,v,H0⟩ ⟨hP,η,u,hc,J,hO⟩;simp only at hP η u hc J hO ⊢;have ν:=v8 ha P.length;have ξ:=v8 hb P.length;have κ:=OQ a P.length;have μ:=OQ b P.length;generalize hx:wX a P.length=x at *
 generalize hy:wX b P.length=y at *
 have ex:IntKind.u64.wrap ((x:Nat):Int)=((x:Nat):Int):=aZ Om;have ey:IntKind.u64.wrap ((y:Nat):Int)=((y:Nat):Int):=aZ Om;have R:IntKind.u64.wrap ((c:Int)+(x:Int))=((c+x:Nat):Int):=fH Om;have S:IntKind.u64.wrap (((c+x:Nat):Int)+(y:Int))=((c+x+y:Nat):Int):=fH Om;have ι:P.length<a.length→(aH a)[P.length]?=some [.int .u32 ((x:Nat):Int)]:=fun h=>by rw[bL a h,← hx,TK h]
 have γ:P.length<b.length→(aH b)[P.length]?=some [.int .u32 ((y:Nat):Int)]:=fun h=>by rw[bL b h,← hy,TK h]
 have δ:¬ P.length<a.length→x=0:=fun h=>by rw[← hx,KQ h]
 have U:¬ P.length<b.length→y=0:=fun h=>by rw[← hy,KQ h]
 have body:(P.length≤max a.length b.length)→∀ K:cK,(∀ l A v' V H2,l.length=P.length+1→Lim l→A≤1→(P.length+1≤max a.length b.length∨A=0)→val l+4294967296 ^ l.length*A=val (a.take (P.length+1))+val (b.take (P.length+1))→(tQ a b v' A l.length).le V→bY H2 1 v' (aH l)→K .normal V H2) →
   ∀ F:PF,(tQ a b v c P.length).le F→aE.wp C (.seq (.block 1 (.seq (.region XR) (.seq (.seq (.region XS) (.cond (.tmp 29) (.region XT) .skip)) (.seq (.seq (.region IW) (.cond (.tmp 40) (.region IX) .skip)) (.seq (.region AY) (.region AZ)))))) (.region BA)) K F H0:=by
  intro ο K hK F Z;have g0:F 0=some (aI a):=Z 0 _ (by unfold tQ; simp only[go_sem]);have g1:F 1=some (aI b):=Z 1 _ (by unfold tQ; simp only[go_sem]);have g5:F 5=some v:=Z 5 _ (by unfold tQ; simp only[go_sem]);have g6:F 6=some (.int .u64 c):=Z 6 _ (by unfold tQ; simp only[go_sem]);have B:F 7=some (.int .i64 P.length):=Z 7 _ (by unfold tQ; simp only[go_sem]);have fin:∀ M:PF,M 0=some (aI a)→M 1=some (aI b)→M 5=some v→M 7=some (.int .i64 P.length)→M 8=some (.int .u64 (c+x+y:Nat)) →
    aE.wp C (.seq (.region AY) (.region AZ)) (fZ 1 (mE C (aE.wp C (.region BA)) K)) M H0:=by
   intro M q0 q1 q5 q7 q8;have θ:(1:Nat)*1≤16777216:=by decide
   generalize ht:c+x+y=t at *
   have ρ:t<2*4294967296:=Om;simp only[go_sem,AY,q5,q8,θ,cI];refine jH (src:=[[.int .u32 ((t%4294967296:Nat):Int)]]) hO rfl (qA Om) fun v' H' β _=>?_;rw[qB] at β;simp only[go_sem,AZ,q8,xT,BA,q7,dN (Om:P.length<9223372036854775807)];refine hK (P++[t%4294967296]) (t/4294967296) v' _ H' (by simp) (u.app fun y hy=>by simp at hy; subst hy; omega) Om ?_ ?_ ?_ β
   ·rcases aAV P.length (max a.length b.length) with h | h
    ·exact .inl h
    ·right;have h1:=δ Om;have h2:=U Om;omega
   ·rw[jO,aAE,aAI,κ,μ,aCD,aAZ,aCQ,← aAM];rw[show t%4294967296+4294967296*(t/4294967296)=t from Nat.mod_add_div t 4294967296];have h3:4294967296 ^ P.length*t=4294967296 ^ P.length*c+4294967296 ^ P.length*x+4294967296 ^ P.length*y:=by rw[← ht,aAM,aAM]
    omega
   ·unfold tQ;rw[aAE,aAI];exact Lq
  simp only[aE.wp,go_sem] at fin;simp only[go_sem,XR,g6,XS,B,g0];by_cases c1:P.length<a.length
  ·have j:(P.length:Int)<(a.length:Nat):=Om;simp only[go_sem,j,XT,g0,B,ι c1,ex,R,IW,g1];by_cases N:P.length<b.length
   ·have e:(P.length:Int)<(b.length:Nat):=Om;simp only[go_sem,e,IX,g1,B,γ N,ey,S];exact fin _ (by simp only[go_sem,g0]) (by simp only[go_sem,g1]) (by simp only[go_sem,g5]) (by simp only[go_sem,B]) rfl
   ·have e:¬ (P.length:Int)<(b.length:Nat):=Om;have h0:=U N;simp only[go_sem,e];exact fin _ (by simp only[go_sem,g0]) (by simp only[go_sem,g1]) (by simp only[go_sem,g5]) (by simp only[go_sem,B]) (by simp only[go_sem,h0])
  ·have j:¬ (P.length:Int)<(a.length:Nat):=Om;have h0:=δ c1;simp only[go_sem,j,IW,g1,B];by_cases N:P.length<b.length
   ·have e:(P.length:Int)<(b.length:Nat):=Om;have ε:IntKind.u64.wrap ((c:Int)+(y:Int))=((c+x+y:Nat):Int):=by rw[h0]; exact fH Om
    simp only[go_sem,e,IX,g1,B,γ N,ey,ε];exact fin _ (by simp only[go_sem,g0]) (by simp only[go_sem,g1]) (by simp only[go_sem,g5]) (by simp only[go_sem,B]) rfl
   ·have e:¬ (P.length:Int)<(b.length:Nat):=Om;have ζ:=U N;simp only[go_sem,e];exact fin _ (by simp only[go_sem,g0]) (by simp only[go_sem,g1]) (by simp only[go_sem,g5]) (by simp only[go_sem,B]) (by simp only[go_sem,h0,ζ])
 simp only[aE.wp,go_sem] at body;have w:¬ P.length<a.length→¬ P.length<b.length→c=0→∀ F:PF,F 5=some v→aE.wp C (.seq (.region OM) .ret) (aT [.tmp 4] (cL (aI (aJ (val a+val b))))) F H0:=by
  intro n1 n2 n3 F f5;have hV:val P=val a+val b:=by rw[n3,aAQ Om,aAQ Om] at J;omega
  have hs:=L.trim _ u Om;rw[hV] at hs;simp only[go_sem,OM,f5];refine tU hs hO rfl fun F1 H1 _=>?_;simp only[go_sem];exact aV (.inr rfl) .nil rfl a_ ⟨.refl _,rfl⟩
 simp only[aE.wp,go_sem] at w;simp only[go_sem,sn,Ir,tQ];by_cases c1:P.length<a.length
 ·have j:(P.length:Int)<(a.length:Nat):=Om;simp only[go_sem,j];refine body Om _ ?_ _ (by unfold tQ; exact Lq);intro l A v' V H2 R S W E I X Y;rw[← R] at I E;exact aL (α:=List Nat × Nat × PV × PH) (l,A,v',H2) ⟨by simp only; omega,E,S,W,I,Y⟩ (by simp only; omega) X b_
 ·have j:¬ (P.length:Int)<(a.length:Nat):=Om;simp only[go_sem,j];by_cases N:P.length<b.length
  ·have e:(P.length:Int)<(b.length:Nat):=Om;simp only[go_sem,e];refine body Om _ ?_ _ (by unfold tQ; exact Lq);intro l A v' V H2 R S W E I X Y;rw[← R] at I E;exact aL (α:=List Nat × Nat × PV × PH) (l,A,v',H2) ⟨by simp only; omega,E,S,W,I,Y⟩ (by simp only; omega) X b_
  ·have e:¬ (P.length:Int)<(b.length:Nat):=Om;simp only[go_sem,e];by_cases c3:c=0
   ·have O:¬ (c:Int)>0:=Om;simp only[go_sem,O];exact w c1 N c3 _ rfl
   ·have O:(c:Int)>0:=Om;simp only[go_sem,O];refine body Om _ ?_ _ (by unfold tQ; exact Lq);intro l A v' V H2 R S W E I X Y;rw[← R] at I E;exact aL (α:=List Nat × Nat × PV × PH) (l,A,v',H2) ⟨by simp only; omega,E,S,W,I,Y⟩ (by simp only; omega) X b_
structure Wh (C:Ctx):Prop extends Wg C where
 plus:∀ a b,Lim a→Lim b→a.length≤8388608→b.length≤8388608→aG C 43 [aI a,aI b] .nil (aM (aI (aJ (val a+val b))))
def Hh (k:Nat) (v:Nat):PF:=((PF.nil.set 3 (.int .i64 k)).set 4 (.int .u32 v))
theorem agU {C:Ctx} (L:pR C) (xs:List Nat) (K:Lim xs) (U:xs.length≤35184372087808) :
  IL.wp C (aT Vn.res (aM (.int .i64 (cN (val xs):Nat)))) (PF.args [aI xs]) .nil:=by
 simp only[go_sem,IL,Hj,Hk,Vn];refine aB (L.trim xs K U) rfl ?_;have V:=fR K;simp only[go_sem,Hl,aAA,bH,AX];by_cases y:nl (val xs)=0
 ·simp only[go_sem,decide_eq_true y,Hm];refine cD (.inr rfl) rfl ?_;have:val xs=0:=lC.1 y;simp[dB,this,lF]
 obtain⟨n,R⟩:∃ n,nl (val xs)=n+1:=⟨nl (val xs)-1,by omega⟩;obtain⟨t,x,B⟩:=G5 (xs:=aJ (val xs)) (bA _) (by rw[aY]; exact R);have u:t<4294967296:=bA _ t (aCA x);have S:val xs=val ((aJ (val xs)).take n)+4294967296 ^ n*t:=by
  have:=aY (val xs);have e:n<(aJ (val xs)).length:=by rw[bH]; omega
  have O:(aJ (val xs))[n]=t:=by rw[aAH e] at x; exact aCI.inj x
  conv=>lhs; rw[← this,← aAQ (l:=aJ (val xs)) (i:=n+1) (by rw[bH]; omega)]
  rw[bZ _ e,O]
 have hb:cN (val xs)=32*n+cN t:=by have I:=fG ((bA (val xs)).take n);rw[aAN,bH,aCF Om] at I;have w:=vr (lo:=val ((aJ (val xs)).take n)) (k:=32*n) (hi:=t) (by rw[Nat.pow_mul]; exact I) B;rw[← w,Nat.pow_mul];exact congrArg cN S
 have j:(aH (aJ (val xs)))[n]?=some [.int .u32 (t:Nat)]:=by simp[aH,x]
 have M:IntKind.i64.wrap (((nl (val xs):Nat):Int)-1)=(n:Int):=by rw[wrap_i64 Om Om]; omega
 have N:IntKind.i64.wrap (32*(n:Int))=((32*n:Nat):Int):=by rw[wrap_i64 Om Om]; omega
 simp only[go_sem,decide_eq_false y,Hn,Ho,aAA,bH,M,N,j];refine wp_loop (α:=Nat × Nat) (fun a=>Hh a.1 a.2) (fun _=>.nil) (fun a=>a.1+cN a.2=32*n+cN t∧a.2<4294967296) (fun a=>a.2) (32*n,t) ⟨rfl,u⟩ ?_ a_ ?_
 ·unfold Hh;exact Lq
 rintro⟨k,v⟩ ⟨w,hlt⟩;simp only at w hlt;have J:cN t≤32:=(mL t 32).2 u;simp only[go_sem,Hi,Hp,Hh];by_cases F:(v:Int)>0
 ·have E:v≠0:=Om;have A:IntKind.u32.wrap (Int.tdiv (v:Int) 2)=((v/2:Nat):Int):=by rw[show Int.tdiv (v:Int) 2=((v/2:Nat):Int) from Int.ofNat_tdiv v 2,cI,aBQ Om]
  simp only[go_sem,F,Hq,Hr,A,wZz k];refine aL (k+1,v/2) ⟨?_,?_⟩ (Nat.div_lt_self Om (by decide)) ?_ a_
  ·have:=rA E;simp only; omega
  ·simp only; omega
  ·exact Lq
 ·have:v=0:=Om;subst this;simp only[go_sem,F,rx];refine cD (.inr rfl) rfl ?_;rw[lF] at w;simp only[dB,PV.int.injEq,true_and];omega
theorem qx (n:Nat):4294967296 ^ (n/32)*2 ^ (n%32)=2 ^ n:=by
 rw[show (4294967296:Nat)=2 ^ 32 by decide,← Nat.pow_mul,← Nat.pow_add];congr 1;omega
theorem Zy (n:Nat):IntKind.i64.wrap (Int.tdiv (n:Int) 32)=IntKind.i64.wrap ((n/32:Nat):Int):=by
 rw[show Int.tdiv (n:Int) 32=((n/32:Nat):Int) from Int.ofNat_tdiv n 32]
theorem Zz (n:Nat):Int.tmod (n:Int) 32=((n%32:Nat):Int):=Int.ofNat_tmod n 32
def ahN (a:List Nat) (n:Nat) (v:PV) (c i:Nat):PF:=(((((PF.nil.set 0 (aI a)).set 1 (.int .i64 n)).set 5 (v)).set 6 (.int .u64 c)).set 7 (.int .i64 i))
theorem aqL {C:Ctx} (L:pR C) (a:List Nat) (n:Nat) (ha:Lim a) (h1:a.length≤8388608) (hn:n≤8388608) (h0:a.length=0→val a=0) :
  XV.wp C (aT uup.res (mN 1 (aH (aJ (val a*2 ^ n))))) (PF.args [aI a,.int .i64 n]) .nil:=by
 simp only[go_sem,XV,aaB,aaC,uup,aAA,AX];by_cases F:a.length=0
 ·simp only[go_sem,decide_eq_true F,aaD];rw[h0 F,Nat.zero_mul,gS];exact DZ (.inr rfl) rfl
 have ez:IntKind.i64.wrap (Int.tdiv (n:Int) 32)=((n/32:Nat):Int):=by rw[Zy,XW Om]
 have em:=Zz n;have eu:IntKind.u64.wrap ((n%32:Nat):Int)=((n%32:Nat):Int):=aZ Om;have W:=qx n;have V:n%32<32:=aBX _ (by decide);have hz:n/32≤8388608:=Om;generalize ζ:n/32=z at *
 generalize δ:n%32=s at *
 have S:((z:Nat):Int)*((4:Nat):Int)≤140737488355328:=Om;have U:((z:Nat):Int)≤9223372036854775807:=Om;have Y:aAC z [PV.int .u32 0]=aH (aAC z 0):=by simp[aH]
 have M:2 ^ s≤2147483648:=Nat.pow_le_pow_right (show 0<2 by decide) (Om:s≤31);have B:0<2 ^ s:=aDB (by decide);simp only[go_sem,decide_eq_false F,aaE,ez,S,U,Y];refine aP fun o ho=>?_;simp only[go_sem,aaF,aaG];refine wp_loop (α:=List Nat × Nat × Nat × PV × PH) (fun t=>ahN a n t.2.2.2.1 t.2.1 t.2.2.1) (fun t=>t.2.2.2.2)
  (fun t=>t.2.2.1≤a.length∧t.1.length=z+t.2.2.1∧Lim t.1∧t.2.1<2 ^ s∧val t.1+4294967296 ^ t.1.length*t.2.1=val (a.take t.2.2.1)*2 ^ n∧bY t.2.2.2.2 1 t.2.2.2.1 (aH t.1)) (fun t=>a.length-t.2.2.1) (aAC z 0,0,0,.osl o 1 0 z,PH.nil.set o (.rows 1 (aH (aAC z 0))))
  ⟨by simp,by simp,wE _,B,by simp[val,sC],.inr ⟨o,aH (aAC z 0),by rw[bV,aEA],by simp only[go_sem],by rw[bV]; exact aAF _,aBT⟩⟩ ?_ b_ ?_
 ·unfold ahN;exact Lq
 rintro⟨P,c,i,v,H0⟩ ⟨hi,Z,j,hc,u,O⟩;simp only at hi Z j hc u O ⊢;simp only[go_sem,Rv,aaH,ahN];by_cases I:i<a.length
 ·have w:(i:Int)<(a.length:Nat):=Om;have γ:=ha _ (aAG I);have X:=bZ a I;have R:=bL a I;generalize hx:a[i]=x at *
  have ε:x*2 ^ s≤4294967295*2147483648:=aDJ Om M;have ex:IntKind.u64.wrap ((x:Nat):Int)=((x:Nat):Int):=aZ Om;have β:2 ^ s*x=x*2 ^ s:=aBA _ _;have K:shift .shl .u64 (x:Int) (s:Int)=some (.int .u64 ((2 ^ s*x:Nat):Int)):=ID Om Om;have J:=orI (a:=2 ^ s*x) (b:=c) (n:=c+2 ^ s*x) Om Om (by rw[Nat.or_comm]; exact Fr hc Om) Om;have E:(c+2 ^ s*x)/4294967296<2 ^ s:=by rw[aDI (by decide)];have:2 ^ s*(x+1)≤2 ^ s*4294967296:=aCR _ Om;rw[aAM,Nat.mul_one] at this;omega
  have A:(1:Nat)*1≤16777216:=by decide
  simp only[go_sem,w,aaI,R,ex,em,eu,K,J,aaJ,cI,A];refine jH (src:=[[.int .u32 (((c+2 ^ s*x)%4294967296:Nat):Int)]]) O rfl (qA Om) fun v' H' l _=>?_;rw[qB] at l;simp only[go_sem,aaK,xT,Rw,wZz i];refine aL (P++[(c+2 ^ s*x)%4294967296],(c+2 ^ s*x)/4294967296,i+1,v',H') ⟨by simp only; omega,by simp; omega,j.app fun y hy=>by simp at hy; subst hy; exact aBX _ (by decide),E,?_,l⟩ (by simp only; omega) ?_ b_
  ·simp only;have hp:4294967296 ^ P.length*(2 ^ s*x)=4294967296 ^ i*x*2 ^ n:=by rw[Z,Nat.pow_add,← W];rw[aAZ,Nat.mul_left_comm (4294967296 ^ i),← aAZ (4294967296 ^ z),aBA (4294967296 ^ z*2 ^ s),aAZ,aBA x]
   rw[jO,aAE,aAI,aCD,aAZ,aCQ,← aAM,Nat.mod_add_div,X,aAM,aBI,← aCQ,u,hp]
  ·exact Lq
 ·have e:i=a.length:=Om;subst e;have w:¬ (a.length:Int)<(a.length:Nat):=Om;have A:(1:Nat)*1≤16777216:=by decide
  have hV:val (P++[c])=val a*2 ^ n:=by rw[jO,u,aBT]
  have N:Lim (P++[c]):=j.app fun x hx=>by simp at hx; omega
  have ec:IntKind.u32.wrap ((c:Nat):Int)=((c:Nat):Int):=by rw[cI,aBQ Om]
  simp only[go_sem,w,Rx,ec,A];refine jH (src:=[[.int .u32 ((c:Nat):Int)]]) O rfl (qA Om) fun v' H' l _=>?_;rw[qB] at l;have V:=L.trimM _ N (by simp; omega);rw[hV] at V;refine t6 V l rfl fun F1 H1 _ r H2 hr _=>?_;simp only[go_sem];exact Zl (.inr rfl) hr rfl
def OG (a:List Nat) (n:Nat) (v:PV) (i:Nat):PF:=((((PF.nil.set 0 (aI a)).set 1 (.int .i64 n)).set 5 (v)).set 6 (.int .i64 i))
theorem agZ {C:Ctx} (L:pR C) (a:List Nat) (n:Nat) (M:Lim a) (h1:a.length≤8388608) (hn:n≤1000000000) :
  IQ.wp C (aT Vt.res (cL (aI (aJ (val a/2 ^ n))))) (PF.args [aI a,.int .i64 n]) .nil:=by
 have ez:IntKind.i64.wrap (Int.tdiv (n:Int) 32)=((n/32:Nat):Int):=by rw[Zy,XW Om]
 have em:=Zz n;have eu:IntKind.u64.wrap ((n%32:Nat):Int)=((n%32:Nat):Int):=aZ Om;have O:=qx n;have U:n%32<32:=aBX _ (by decide);have hz:n/32≤1000000000:=Om;generalize κ:n/32=z at *
 generalize ι:n%32=s at *
 simp only[go_sem,IQ,Hy,Hz,Vt,aAA,ez];by_cases c0:a.length≤z
 ·have u:((z:Nat):Int)≥(a.length:Nat):=Om;have hq:val a/2 ^ n=0:=by refine aDG (Nat.lt_of_lt_of_le (fG M) ?_);rw[← O];exact aCX (Nat.pow_le_pow_right (by decide) c0) (Nat.le_mul_of_pos_right _ (aDB (by decide)))
  simp only[go_sem,u,Ia];rw[hq,gS];exact aV (vs:=[.aA]) (.inr rfl) .nil rfl a_ ⟨.nil 1,rfl⟩
 have u:¬ ((z:Nat):Int)≥(a.length:Nat):=Om;have hR:val a/2 ^ n=val (a.drop z)/2 ^ s:=by rw[uT M Om,← O,Nat.div_div_eq_div_mul]
 have I:Lim (a.drop z):=M.drop z;simp only[go_sem,u,Ib,Ic,ez];refine wp_loop (α:=List Nat × PV × PH) (fun t=>OG a n t.2.1 (z+t.1.length)) (fun t=>t.2.2)
  (fun t=>z+t.1.length≤a.length∧t.1=eA t.1.length (val (a.drop z)/2 ^ s)∧bY t.2.2 1 t.2.1 (aH t.1)) (fun t=>a.length-t.1.length) ([],.aA,.nil)
  ⟨by simp; omega,rfl,.nil⟩ ?_ a_ ?_
 ·unfold OG
  (repeat' (first|exact c_|refine d_ ?_ ?_))<;>first|(simp only[go_sem,aCL]<;>rfl)|rfl
 rintro⟨P,v,H0⟩ ⟨hP,hD,hO⟩;simp only at hP hD hO ⊢;simp only[go_sem,ry,Ie,OG];have E:Lim P:=by rw[hD]; exact nA _ _
 by_cases V:z+P.length<a.length
 ·have w:((z+P.length:Nat):Int)<(a.length:Nat):=Om;have θ:=M _ (aAG V);have γ:=bL a V;have ε:P.length≤(a.drop z).length:=by rw[aBR]; omega
  have R:=uT I ε;have j:(a.drop z).drop P.length=a[z+P.length]::a.drop (z+P.length+1):=by rw[List.drop_drop,aCK V]
  generalize hx:a[z+P.length]=x at *
  have ex:IntKind.u64.wrap ((x:Nat):Int)=((x:Nat):Int):=aZ Om;have δ:(1:Nat)*1≤16777216:=by decide
  have ew:IntKind.i64.wrap (((z+P.length:Nat):Int)+1)=((z+P.length+1:Nat):Int):=dN Om;have fin:∀ (t:Nat) (F:PF),t<18446744073709551616→val (a.drop z)/4294967296 ^ P.length%(4294967296*4294967296)=t→F 0=some (aI a)→F 1=some (.int .i64 n)→F 5=some v→F 6=some (.int .i64 (z+P.length:Nat))→F 7=some (.int .u64 t) →
    ∀ K:cK,(∀ v' S H2,(OG a n v' (z+(P.length+1))).le S→bY H2 1 v' (aH (P++[t/2 ^ s%4294967296]))→(P++[t/2 ^ s%4294967296])=eA (P.length+1) (val (a.drop z)/2 ^ s)→K .normal S H2) →
    aE.wp C (.region XQ) (fZ 1 (mE C (aE.wp C (.region OH)) K)) F H0:=by
   intro t F ht ζ f0 f1 f5 f6 f7 K hK;have B:shift .shr .u64 (t:Int) (s:Int)=some (.int .u64 ((t/2 ^ s:Nat):Int)):=aqG Om;simp only[go_sem,XQ,f5,f7,f1,em,eu,B,cI,δ];refine jH (src:=[[.int .u32 ((t/2 ^ s%4294967296:Nat):Int)]]) hO rfl (qA Om) fun v' H' J _=>?_;rw[qB] at J;simp only[go_sem,OH,f6,ew];refine hK v' _ H' ?_ J ?_
   ·unfold OG;exact Lq
   ·rw[vY,← hD];congr 2;have e:val (a.drop z)/4294967296 ^ P.length=t%4294967296+4294967296*(t/4294967296+4294967296*(val (a.drop z)/4294967296 ^ P.length/(4294967296*4294967296))):=by have:=Nat.mod_add_div (val (a.drop z)/4294967296 ^ P.length) (4294967296*4294967296);rw[ζ] at this;have h2:=Nat.mod_add_div t 4294967296;rw[aAM,← aCQ,h2,← aAZ];exact this.symm
    have:=SL U e;rw[this];congr 2;have h2:=Nat.mod_add_div t 4294967296;omega
  simp only[aE.wp,go_sem] at fin;simp only[go_sem,w,If,γ,ex,Ig,ew];by_cases W:z+P.length+1<a.length
  ·have A:((z+P.length+1:Nat):Int)<(a.length:Nat):=Om;have η:=M _ (aAG W);have N:=bL a W;rw[aCK W] at j;generalize hy:a[z+P.length+1]=y at *
   have ey:IntKind.u64.wrap ((y:Nat):Int)=((y:Nat):Int):=aZ Om;have B:shift .shl .u64 (y:Int) ((32:Nat):Int)=some (.int .u64 ((2 ^ 32*y:Nat):Int)):=ID (by decide) Om;have β:=orI (a:=x) (b:=2 ^ 32*y) (n:=x+2 ^ 32*y) Om Om (Fr Om Om) Om;simp only[go_sem,A,Ih,ew,N,ey,show shift .shl .u64 (y:Int) 32=_ from B,β];refine fin (x+2 ^ 32*y) _ Om ?_ rfl rfl rfl rfl rfl _ ?_
   ·rw[← R,j];simp only[val];omega
   ·intro v' S H2 X Y Z;refine aL (α:=List Nat × PV × PH) (P++[(x+2 ^ 32*y)/2 ^ s%4294967296],v',H2) ⟨by simp; omega,by simpa using Z,Y⟩ (by simp; omega) ?_ b_;simp only[aAE,aAI];exact X
  ·have A:¬ ((z+P.length+1:Nat):Int)<(a.length:Nat):=Om;rw[aDW (l:=a) (i:=z+P.length+1) Om] at j;simp only[go_sem,A];refine fin x _ Om ?_ rfl rfl rfl rfl rfl _ ?_
   ·rw[← R,j];simp only[val];omega
   ·intro v' S H2 X Y Z;refine aL (α:=List Nat × PV × PH) (P++[x/2 ^ s%4294967296],v',H2) ⟨by simp; omega,by simpa using Z,Y⟩ (by simp; omega) ?_ b_;simp only[aAE,aAI];exact X
 ·have e:z+P.length=a.length:=Om;have w:¬ ((z+P.length:Nat):Int)<(a.length:Nat):=Om;have hV:val P=val (a.drop z)/2 ^ s:=by rw[hD];refine oU (Nat.lt_of_le_of_lt (aDH _ _) ?_);have:=fG I;rw[aBR] at this;rw[show P.length=a.length-z by omega];exact this
  have U:=L.trim _ E Om;rw[hV,← hR] at U;simp only[go_sem,w,rz];refine tU U hO rfl fun F1 H1 _=>?_;simp only[go_sem];exact aV (.inr rfl) .nil rfl a_ ⟨.refl _,rfl⟩
structure KE (C:Ctx):Prop extends Wh C where
 bits:∀ xs,Lim xs→xs.length≤35184372087808→aG C 31 [aI xs] .nil (aM (.int .i64 (cN (val xs):Nat)))
 upM:∀ (a:List Nat) (n:Nat),Lim a→a.length≤8388608→n≤8388608→(a.length=0→val a=0)→aG C 45 [aI a,.int .i64 n] .nil (mN 1 (aH (aJ (val a*2 ^ n))))
 down:∀ (a:List Nat) (n:Nat),Lim a→a.length≤8388608→n≤1000000000→aG C 40 [aI a,.int .i64 n] .nil (aM (aI (aJ (val a/2 ^ n))))
def udS:Spec:=fun name vs=>match name,vs with
 | 35,[.int _ v]=>some ([],fun _=>aM (aI (aJ v.toNat)))
 | 44,[x,y]=>some ([],fun _=>aM (aI (aJ (val (lS x)*val (lS y)))))
 | 32,[x,.osl q _ _ _]=>some ([q],fun e r H'=>H'=e∧∀ xs,Lim xs→e q=some (.rows 1 (aH xs))→r=.int .i64 (eN (val (lS x)) (val xs)))
 | _,_=>none
theorem agY (v:Nat):udS 35 [.int .u64 v]=some ([],fun _=>aM (aI (aJ v))):=rfl
theorem Z3 (x y:List Nat):udS 44 [aI x,aI y]=some ([],fun _=>aM (aI (aJ (val x*val y)))):=by
 show some ([],fun _=>aM (aI (aJ (val (lS (aI x))*val (lS (aI y))))))=_; rw[fM,fM]
theorem abG (q:Nat) (x L:List Nat):(PH.nil.set q (.rows 1 (aH L)))=(PH.nil.set q (.rows 1 (aH L)))∧∀ xs,Lim xs→(PH.nil.set q (.rows 1 (aH L))) q=some (.rows 1 (aH xs))→(PV.int .i64 (eN (val x) (val L)))=.int .i64 (eN (val (lS (aI x))) (val xs)):=by
 refine⟨rfl,fun xs j e=>?_⟩;rw[cG] at e;have:aH L=aH xs:=(bF.rows.inj (aCI.inj e)).2;rw[MU this,fM]
def duF (n o l:Nat) (y:List Nat) (e u j:Nat) (k:Int):PF :=
 ((((((PF.nil.set 10 (.int .i64 n)).set 11 (.osl o 1 0 l)).set 12 (aI y)).set 13 (.int .u64 e)).set 14 (.osl u 1 0 j)).set 15 (.int .i64 k))
abbrev eG (X:List Nat) (Z:List (List PV)):List (List PV):=aH X++Z
theorem JI {X:List Nat} {Z:List (List PV)} {i:Nat} (h:i<X.length):(eG X Z)[i]?=some [.int .u32 ((X[i]:Nat):Int)]:=by
 rw[eG,aCB (by rw[bV]; exact h),bL X h]
theorem ta {X:List Nat} {Z:List (List PV)} {i:Nat} (h:i<X.length) (v:Nat):(eG X Z).set i [.int .u32 (v:Int)]=eG (X.set i v) Z:=by
 rw[eG,List.set_append_left _ _ (by rw[bV]; exact h),fS]
theorem s9 {X:List Nat} {Z:List (List PV)} {j m:Nat} (h:j+m≤X.length):((eG X Z).drop j).take m=aH ((X.drop j).take m):=by
 rw[eG,List.drop_append_of_le_length (by rw[bV]; omega),List.take_append_of_le_length (by rw[aBR,bV]; omega)];unfold aH;rw[← List.map_drop,← List.map_take]
theorem aqK {C:Ctx} (L:KE C) (n o A:Nat) (y:List Nat) (B w lq j:Nat) (X:List Nat) (Z:List (List PV)) (Y:w≠o) (hy:Lim y) (hX:Lim X) (δ:X.length=A) (hl:A≤5000) (hj:j+(y.length+1)≤A) (N:0<val y)
  (qv:bF) (g0:Nat) (hg:val ((X.drop j).take (y.length+1))/val y≤g0) (V:g0<4294967296) (K:cK) (F:PF) (H:PH) (hF:((duF n o A y B w lq j).set 17 (.int .u64 g0)).le F) (hH:((PH.nil.set o (.rows 1 (eG X Z))).set w qv).le H)
  (hK:∀ F' H',((duF n o A y B w lq j).set 17 (.int .u64 (val ((X.drop j).take (y.length+1))/val y:Nat))).le F'→((PH.nil.set o (.rows 1 (eG X Z))).set w qv).le H'→K .normal F' H') :
  aE.wp C (.block 4 (.loop vM)) K F H:=by
 have e:¬ o=w:=fun h=>Y h.symm;have l:((X.drop j).take (y.length+1)).length=y.length+1:=by rw[aAN,aBR]; omega
 have E:Lim ((X.drop j).take (y.length+1)):=(hX.drop _).take _;have I:=s9 (X:=X) (Z:=Z) (j:=j) (m:=y.length+1) Om;have J:j+(y.length+1)≤(eG X Z).length:=by rw[eG,aAE,bV]; omega
 have S:aH ((X.drop j).take (y.length+1))≠[]:=fun h=>by have:=congrArg List.length h;rw[bV,l] at this;simp at this
 generalize hW:(X.drop j).take (y.length+1)=W at *
 generalize M:val W/val y=R at *
 simp only[go_sem];refine wp_loop (α:=Nat) (fun g=>(duF n o A y B w lq j).set 17 (.int .u64 g)) (fun _=>(PH.nil.set o (.rows 1 (eG X Z))).set w qv) (fun g=>R≤g∧g<4294967296) (fun g=>g) g0 ⟨hg,V⟩ hF hH ?_;rintro g ⟨γ,hlt⟩;have e1:IntKind.i64.wrap ((j:Int)+(y.length:Int))=((j+y.length:Nat):Int):=gY Om;have e2:IntKind.i64.wrap (((j+y.length:Nat):Int)+1)=((j+y.length+1:Nat):Int):=dN Om;have b1:(j:Int)≤((j+y.length+1:Nat):Int):=Om;have b2:((j+y.length+1:Nat):Int)≤(A:Nat):=Om;have b3:j+y.length+1-j=y.length+1:=Om;have mk:=L.make g Om;have tm:=L.times y (aJ g) hy (bA _) Om (by have O:nl g≤1:=pJ (by rw[Nat.pow_one]; exact hlt);rw[bH]; omega)
 rw[aY] at tm;have β:(aJ (val y*g)).length≤35184372087808:=by have O:nl g≤1:=pJ (by rw[Nat.pow_one]; exact hlt);have h2:=wH (a:=val y) (b:=g) (fR hy) O;rw[bH]; omega
 have cm:=L.cmp (aJ (val y*g)) W (bA _) E β Om;rw[aY] at cm;simp only[go_sem,vM];refine bN .nil udS a_ ?_;simp only[go_sem,SW,duF];refine dL (agY g) mk Sq a_ ?_;simp only[go_sem];have tS:=Z3 y (aJ g);rw[aY] at tS;refine dL tS tm Sq a_ ?_;simp only[go_sem,aAA,e1,e2,b1,b2,b3];refine zV (src:=aH W) ?_ ?_ (fun h=>absurd h S) fun _ x u=>?_
 ·simp only[go_sem,e,J,I]
 ·unfold roomFor;rw[bV,l];simp only[maxLen]; omega
 refine⟨a_,?_⟩;rw[bV,l];have n1:¬ x=w:=(iY.1 u).1;refine abK (o:=x) (s:=1) (rs:=aH W) (vs:=[aI (aJ (val y*g)),.osl x 1 0 (y.length+1)]) (v:=.int .i64 (eN (val y*g) (val W))) rfl (.int _ _) Sq ?_ ?_ ?_ Sq a_ ?_
 ·rw[aBG,aBG,aCP,rT (by rw[bV,l]; exact aAF _),aAQ (by rw[bV,l]; exact aAF _)];exact cm
 ·have:=abG x (aJ (val y*g)) W;rw[aY] at this;exact this
 ·rintro r H' ⟨O,h2⟩;have:=h2 W E (by rw[cG]);rw[fM,aY] at this;exact⟨this,O⟩
 simp only[go_sem];by_cases c:val W<val y*g
 ·have U:eN (val y*g) (val W)=1:=by unfold eN;rw[if_neg Om,if_pos c]
  have hq:R<g:=by rw[← M]; exact (aDI N).2 (by rw[aBA]; exact c)
  have ew:IntKind.u64.wrap ((g:Int)-1)=((g-1:Nat):Int):=by rw[wrap_u64 Om Om]; omega
  simp only[go_sem,U,show (1:Int)>0 by decide,SX,ew];refine aL (g-1) ⟨by omega,by omega⟩ Om ?_ ?_
  ·exact Lq
  ·refine e_ (e_ a_ ?_) ?_
   ·have n2:¬ o=x:=fun h=>by subst h;rw[aQ,if_neg e,cG] at u;cases u
    simp only[go_sem,n2,e]
   ·have n3:¬ w=x:=fun h=>n1 h.symm;simp only[go_sem,n3]
 ·have U:¬ eN (val y*g) (val W)>0:=by unfold eN;rw[if_neg c];split<;>decide
  have hq:g=R:=by
   have:g≤R:=by rw[← M]; exact (Nat.le_div_iff_mul_le N).2 (by rw[aBA]; omega)
   omega
  simp only[go_sem,U];refine hK _ _ ?_ ?_
  ·unfold duF
   (repeat' (first|exact c_|refine d_ ?_ ?_))<;>first|(simp only[go_sem,← hq]<;>rfl)|rfl
  ·refine e_ (e_ a_ ?_) ?_
   ·have n2:¬ o=x:=fun h=>by subst h;rw[aQ,if_neg e,cG] at u;cases u
    simp only[go_sem,n2,e]
   ·have n3:¬ w=x:=fun h=>n1 h.symm;simp only[go_sem,n3]
theorem alP (R k:Nat) (h:k<nl R):∃ u:k<(aJ R).length,(aJ R)[k]=R/4294967296 ^ k%4294967296:=by
 have e:k<(aJ R).length:=by rw[bH]; exact h
 refine⟨e,?_⟩;have j:=uT (bA R) (Nat.le_of_lt e);rw[aY,aCK e] at j;have l:=bA R _ (aAG e);simp only[val] at j;rw[← j,Nat.add_mul_mod_self_left,aBQ l]
theorem adP (R k:Nat) (h:nl R≤k):R/4294967296 ^ k%4294967296=0:=by
 rw[aDG ((jF R k).1 h)]
theorem anJ {A P W Z:List Nat} {i:Nat} (e:P.length=i) (hi:i<W.length) (v:Nat):(A++(P++W.drop i)++Z).set (A.length+i) v=A++((P++[v])++W.drop (i+1))++Z :=
 MU (by rw[← fS]; exact EB e hi v)
theorem atD {C:Ctx} (n o E:Nat) (y:List Nat) (M x Y j:Nat) (X:List Nat) (Z:List (List PV)) (J:x≠o) (U:X.length=E) (hl:E≤5000) (hj:j+(y.length+1)≤E)
  (qv:bF) (g R:Nat) (K:cK) (F:PF) (H:PH) (hF:((((duF n o E y M x Y j).set 17 (.int .u64 g)).set 18 (aI (aJ R))).set 19 (.int .i64 0)).le F) (hH:((PH.nil.set o (.rows 1 (eG X Z))).set x qv).le H)
  (hK:∀ F' H',((duF n o E y M x Y j).set 17 (.int .u64 g)).le F'→((PH.nil.set o (.rows 1 (eG (X.take j++eA (y.length+1) R++X.drop (j+(y.length+1))) Z))).set x qv).le H'→K .normal F' H') :
  aE.wp C (.block 6 (.loop vN)) K F H:=by
 have u:¬ o=x:=fun h=>J h.symm;have hA:(X.take j).length=j:=by rw[aAN]; omega
 have ε:((X.drop j).take (y.length+1)).length=y.length+1:=by rw[aAN,aBR]; omega
 have θ:(X.drop (j+(y.length+1))).length=E-(j+(y.length+1)):=by rw[aBR,U]
 have B:X.take j++(X.drop j).take (y.length+1)++X.drop (j+(y.length+1))=X:=by rw[aBE,← List.drop_drop,aDA,aDA]
 rw[← B] at hH;generalize γ:X.take j=A at *
 generalize δ:(X.drop j).take (y.length+1)=W at *
 generalize η:X.drop (j+(y.length+1))=w at *
 simp only[go_sem];refine wp_loop (α:=List Nat) (fun P=>(((duF n o E y M x Y j).set 17 (.int .u64 g)).set 18 (aI (aJ R))).set 19 (.int .i64 P.length)) (fun P=>(PH.nil.set o (.rows 1 (eG (A++(P++W.drop P.length)++w) Z))).set x qv)
  (fun P=>P.length≤y.length+1∧P=eA P.length R) (fun P=>y.length+1-P.length) [] ⟨aAP _,rfl⟩ hF (by simpa using hH) ?_
 rintro P ⟨hP,hD⟩;simp only[go_sem,vN,SY,duF];by_cases c:P.length<y.length+1
 ·have O:(P.length:Int)≤(y.length:Nat):=Om;have ei:IntKind.i64.wrap ((j:Int)+(P.length:Int))=((j+P.length:Nat):Int):=gY Om;have β:(A++(P++W.drop P.length)++w).length=E:=by simp only[aAE,aBR]; omega
  have hi:j+P.length<(A++(P++W.drop P.length)++w).length:=Om;have b1:((j+P.length:Nat):Int)<(E:Nat):=Om;have r1:=JI (Z:=Z) hi;have s1:=ta (Z:=Z) hi 0;have N:j+P.length<((A++(P++W.drop P.length)++w).set (j+P.length) 0).length:=by rw[aBW]; exact hi
  have l:=fun v=>anJ (A:=A) (P:=P) (W:=W) (Z:=w) (i:=P.length) rfl Om v;rw[hA] at l;generalize ζ:A++(P++W.drop P.length)++w=XX at *
  have r2:(eG (A++((P++[0])++W.drop (P.length+1))++w) Z)[j+P.length]?=some [.int .u32 ((0:Nat):Int)]:=by rw[← l 0,JI N,List.getElem_set_self]
  have s2:∀ v,(eG (A++((P++[0])++W.drop (P.length+1))++w) Z).set (j+P.length) [.int .u32 ((v:Nat):Int)]=eG (A++((P++[v])++W.drop (P.length+1))++w) Z:=by intro v;rw[← l 0,ta N,List.set_set,l]
  have azJ:=vY P.length R;rw[← hD] at azJ;have ew:IntKind.i64.wrap ((P.length:Int)+1)=((P.length+1:Nat):Int):=dN Om;simp only[go_sem,O,SZ,ei,b1,u,r1,show ([PV.int .u32 (0:Int)])=[PV.int .u32 ((0:Nat):Int)] from rfl,s1,TA,bH];by_cases c2:P.length<nl R
  ·have I:(P.length:Int)<(nl R:Nat):=Om;obtain⟨S,V⟩:=alP R P.length c2;have hr:=bL (aJ R) S;rw[V] at hr;simp only[go_sem,I,TB,hr,ei,b1,u,r2,s2,List.set_set,l,CX,ew];refine aL (P++[R/4294967296 ^ P.length%4294967296]) ⟨by simp; omega,by rw[aAE,aAI]; exact azJ.symm⟩ (by simp; omega) ?_ ?_
   ·rw[aAE,aAI];exact Lq
   ·rw[aAE,aAI];refine e_ (e_ a_ ?_) ?_<;>simp only[go_sem,u,show ¬ x=o from J]
  ·have I:¬ (P.length:Int)<(nl R:Nat):=Om;have V:=adP R P.length Om;rw[V] at azJ;simp only[go_sem,I,l,CX,ew];refine aL (P++[0]) ⟨by simp; omega,by rw[aAE,aAI]; exact azJ.symm⟩ (by simp; omega) ?_ ?_
   ·rw[aAE,aAI];exact Lq
   ·rw[aAE,aAI];refine e_ (e_ a_ ?_) ?_<;>simp only[go_sem,u,show ¬ x=o from J]
 ·have O:¬ (P.length:Int)≤(y.length:Nat):=Om;have e:P.length=y.length+1:=Om;simp only[go_sem,O];refine hK _ _ (by unfold duF; exact Lq) ?_;have h2:A++eA (y.length+1) R++w=A++(P++W.drop P.length)++w:=by rw[aDW Om,aBU,← e,← hD]
  rw[h2];exact b_
theorem adB {y W:List Nat} {m:Nat} (F:Lim y) (hW:Lim W) (B:y.length=m+1) (A:W.length=m+2) (E:0<y[m]):val W/val y≤(4294967296*W[m+1]+W[m])/y[m]:=by
 have x:=bZ y (Om:m<y.length);rw[aAQ Om] at x;have l:=bZ W (Om:m+1<W.length);rw[aAQ Om,bZ W (Om:m<W.length)] at l;have u:=fG (hW.take m);rw[aAN,aCF Om] at u;have w:0<4294967296 ^ m:=aDB (by decide);have hb:4294967296 ^ m*y[m]≤val y:=Om;have j:0<4294967296 ^ m*y[m]:=Nat.mul_pos w E;have e:val W=val (W.take m)+4294967296 ^ m*(4294967296*W[m+1]+W[m]):=by rw[l,aCD,aAM,aAZ]; omega
 refine aCX (Nat.div_le_div_left hb j) ?_;rw[← Nat.div_div_eq_div_mul,e,Nat.add_mul_div_left _ _ w,aDG u,aAX];exact aAF _
theorem Z4 {C:Ctx} (L:KE C) (U0 n o w l u m:Nat) (y z:List Nat) (S:u≠o) (hy:Lim y) (N:y.length=m+1) (ht:0<y[m]) (f':w=l+(m+1)) (V:w≤5000) (X:List Nat) (M:pC U0 (val y) (m+1) w l l X (aAC l 0)) (K:cK) (F:PF) (H:PH)
  (hF:(duF n o w y (y[m]) u l ((l:Int)-1)).le F) (hH:((PH.nil.set o (.rows 1 (eG X (aH z)))).set u (.rows 1 (aH (aAC l 0)))).le H)
  (hK:∀ X' Q' F' H',pC U0 (val y) (m+1) w l 0 X' Q'→(duF n o w y (y[m]) u l (-1)).le F'→((PH.nil.set o (.rows 1 (eG X' (aH z)))).set u (.rows 1 (aH Q'))).le H'→K .normal F' H') :
  aE.wp C (.block 2 (.loop vO)) K F H:=by
 have x:¬ o=u:=fun h=>S h.symm;have p':¬ u=o:=S;have hV:val y<4294967296 ^ (m+1):=by have:=fG hy; rw[N] at this; exact this
 have ν:0<val y:=by have h1:=bZ y (Om:m<y.length);rw[aAQ Om] at h1;have:0<4294967296 ^ m*y[m]:=Nat.mul_pos (aDB (by decide)) ht;omega
 have u':=hy _ (aAG (Om:m<y.length));generalize htop:y[m]=e at *
 simp only[go_sem];refine wp_loop (α:=Nat × List Nat × List Nat) (fun t=>duF n o w y e u l ((t.1:Int)-1)) (fun t=>(PH.nil.set o (.rows 1 (eG t.2.1 (aH z)))).set u (.rows 1 (aH t.2.2)))
  (fun t=>t.1≤l∧pC U0 (val y) (m+1) w l t.1 t.2.1 t.2.2) (fun t=>t.1) (l,X,aAC l 0) ⟨aAF _,M⟩ hF hH ?_
 rintro⟨k,X,Q⟩ ⟨hk,M⟩;simp only at hk M;simp only[go_sem,vO,SQ,duF];by_cases h0:0<k
 ·obtain⟨j,rfl⟩:∃ j,k=j+1:=⟨k-1,by omega⟩;have hz:((j+1:Nat):Int)-1=(j:Int):=Om;have b':(j:Int)≥0:=Om;have dst:=wc M hV Om f';rw[show m+1+1=m+2 from rfl] at dst;obtain⟨hlt,Θ⟩:=dst;have ξ:=M.lu';have q':=M.lq';have R:((X.drop j).take (m+2)).length=m+2:=by rw[aAN,aBR]; omega
  have γ:Lim ((X.drop j).take (m+2)):=(M.limU.drop _).take _;have s':m+1<((X.drop j).take (m+2)).length:=Om;have r':m<((X.drop j).take (m+2)).length:=Om;have a1:j+(m+1)<X.length:=Om;have a0:j+m<X.length:=Om;have w1:((X.drop j).take (m+2))[m+1]=X[j+(m+1)]:=by simp
  have w0:((X.drop j).take (m+2))[m]=X[j+m]:=by simp
  have ρ:=adB hy γ N R (by rw[htop]; exact ht);rw[w1,w0,htop] at ρ;have r1:=JI (Z:=aH z) a1;have r0:=JI (Z:=aH z) a0;have l1:=M.limU _ (aAG a1);have l0:=M.limU _ (aAG a0);generalize w':X[j+(m+1)]=E at *
  generalize v':X[j+m]=J at *
  have e1:IntKind.i64.wrap ((j:Int)+(y.length:Int))=((j+(m+1):Nat):Int):=by rw[N]; exact gY Om
  have e0:IntKind.i64.wrap (((j+(m+1):Nat):Int)-1)=((j+m:Nat):Int):=by rw[wrap_i64 Om Om]; omega
  have b1:((j+(m+1):Nat):Int)<(w:Nat):=Om;have b0:((j+m:Nat):Int)<(w:Nat):=Om;have Γ:IntKind.u64.wrap ((E:Nat):Int)=((E:Nat):Int):=aZ Om;have ω:IntKind.u64.wrap ((J:Nat):Int)=((J:Nat):Int):=aZ Om;have η:shift .shl .u64 (E:Int) 32=some (.int .u64 ((2 ^ 32*E:Nat):Int)):=ID (s:=32) Om Om;have ψ:(2:Nat) ^ 32=4294967296:=by decide
  have ε:=orI (a:=2 ^ 32*E) (b:=J) (n:=2 ^ 32*E+J) Om Om (Nat.two_pow_add_eq_or_of_lt Om E).symm Om;rw[ψ] at η ε;have Φ:¬ ((e:Nat):Int)=0:=Om;have υ:(4294967296*E+J)/e<18446744073709551616:=Nat.lt_of_le_of_lt (aDH _ _) Om;have ζ:IntKind.u64.wrap (Int.tdiv ((4294967296*E+J:Nat):Int) ((e:Nat):Int))=(((4294967296*E+J)/e:Nat):Int):=by rw[show Int.tdiv ((4294967296*E+J:Nat):Int) ((e:Nat):Int)=(((4294967296*E+J)/e:Nat):Int) from rfl];exact aZ υ
  have φ:val ((X.drop j).take (m+2))/val y<4294967296:=(aDI ν).2 (by rw[aBA]; exact hlt);have ο:=s9 (X:=X) (Z:=aH z) (j:=j) (m:=m+2) Om;have σ:j+(m+2)≤(eG X (aH z)).length:=by rw[eG,aAE,bV]; omega
  have δ:val ((X.drop j).take (m+2))-val y*(val ((X.drop j).take (m+2))/val y)=val ((X.drop j).take (m+2))%val y:=by have:=aDS (val ((X.drop j).take (m+2))) (val y);omega
  have I:val y*(val ((X.drop j).take (m+2))/val y)≤val ((X.drop j).take (m+2)):=Nat.mul_div_le _ _;clear w1 w0;have gu:=fun g0=>aqK (C:=C) L n o w y e u l j X (aH z) S hy M.limU ξ V Om ν (.rows 1 (aH Q)) g0;rw[N,show m+1+1=m+2 from rfl] at gu;generalize hW:(X.drop j).take (m+2)=W at *
  generalize t':val W/val y=O at *
  have Λ:aH W≠[]:=fun h=>by have:=congrArg List.length h;rw[bV,R] at this;simp at this
  have tail:∀ (g0:Nat) (F:PF) (H:PH),O≤g0→g0<4294967296→((duF n o w y e u l j).set 17 (.int .u64 g0)).le F→((PH.nil.set o (.rows 1 (eG X (aH z)))).set u (.rows 1 (aH Q))).le H →
    aE.wp C (.seq (.block 4 (.loop vM)) (.seq (.region CV) (.seq (.seq (.region CW) (.block 6 (.loop vN))) (.region CY)))) (fZ 3 (mE C (aE.wp C (.region CZ)) (jU (fun (t:Nat × List Nat × List Nat)=>duF n o w y e u l ((t.1:Int)-1)) (fun t=>(PH.nil.set o (.rows 1 (eG t.2.1 (aH z)))).set u (.rows 1 (aH t.2.2))) (fun t=>t.1≤l∧pC U0 (val y) (m+1) w l t.1 t.2.1 t.2.2) (fun t=>t.1) (j+1) (fZ 2 K)))) F H:=by
   intro g0 F H hg a' hF hH;have gu:=gu g0 hg a';simp only[go_sem] at gu;simp only[go_sem];refine gu _ F H hF hH ?_;intro Y H1 A κ;have f11:Y 11=some (.osl o 1 0 w):=A 11 _ (by unfold duF; simp only[go_sem]);have β:Y 12=some (aI y):=A 12 _ (by unfold duF; simp only[go_sem]);have θ:Y 15=some (.int .i64 j):=A 15 _ (by unfold duF; simp only[go_sem]);have ι:Y 17=some (.int .u64 (O:Nat)):=A 17 _ (by unfold duF; simp only[go_sem]);have Δ:Y 10=some (.int .i64 n):=A 10 _ (by unfold duF; simp only[go_sem]);have f13:Y 13=some (.int .u64 e):=A 13 _ (by unfold duF; simp only[go_sem]);have f14:Y 14=some (.osl u 1 0 l):=A 14 _ (by unfold duF; simp only[go_sem]);have ho:H1 o=some (.rows 1 (eG X (aH z))):=κ o _ (by simp only[go_sem,x]);have τ:H1 u=some (.rows 1 (aH Q)):=κ u _ Sq;have b3:(j:Int)≤((j+(m+1)+1:Nat):Int):=Om;have b4:((j+(m+1)+1:Nat):Int)≤(w:Nat):=Om;have b5:j+(m+1)+1-j=m+2:=Om;have e2:IntKind.i64.wrap (((j+(m+1):Nat):Int)+1)=((j+(m+1)+1:Nat):Int):=dN Om;simp only[go_sem,CV,f11,θ,β,aAA,e1,e2,b3,b4,b5];refine zV (src:=aH W) ?_ ?_ (fun h=>absurd h Λ) fun _ o' U=>?_
   ·simp only[go_sem,ho,σ,ο]
   ·unfold roomFor;rw[bV,R];simp only[maxLen]; omega
   rw[bV,R];have n1:¬ u=o':=fun h=>by subst h; rw[τ] at U; cases U
   have n2:¬ o=o':=fun h=>by subst h; rw[ho] at U; cases U
   have nq:nl O≤1:=pJ (by rw[Nat.pow_one]; exact φ);have tm:=L.times y (aJ O) hy (bA _) Om (by rw[bH]; omega);rw[aY] at tm;have nW:=fR γ;have mn:=L.minus W (aJ (val y*O)) γ (bA _) (by rw[aY]; exact I) (by rw[bH]; exact aCX (jQ I) nW) Om;rw[aY,δ] at mn;have Ξ:(aH W).take (m+2)=aH W:=aAQ (by rw[bV]; omega);simp only[go_sem,ι];refine aB (L.make O Om) Sq ?_;simp only[go_sem,β];refine aB tm Sq ?_;simp only[go_sem];refine qR (o:=o') (s:=1) (rs:=aH W) mn Sq (by simp only[go_sem,show m+2≤W.length by omega,Ξ]) ?_;simp only[go_sem,CW];have Ω:(eG X (aH z)).map (fun r=>r.map (PV.bP o' 1 (aH W)))=eG X (aH z):=by
    have:eG X (aH z)=aH (X++z):=by simp[eG,aH]
    rw[this]; exact rS _ _ _ _
   have Ψ:(aH Q).map (fun r=>r.map (PV.bP o' 1 (aH W)))=aH Q:=rS _ _ _ _;have ur:=atD (C:=C) n o w y e u l j X (aH z) S ξ V Om (.rows 1 (aH Q)) O (val W%val y);rw[N,show m+1+1=m+2 from rfl] at ur;simp only[go_sem] at ur;refine ur _ _ _ ?_ ?_ ?_
   ·unfold duF
    (repeat' (first|exact c_|refine d_ ?_ ?_))<;>first|(simp only[go_sem,Δ,f11,β,f13,f14,θ,ι,n1,n2]<;>rfl)|rfl
   ·refine e_ (e_ a_ ?_) ?_
    ·simp only[go_sem,x,n2,ho,bF.frz,Ω]
    ·simp only[go_sem,n1,τ,bF.frz,Ψ]
   intro F3 H3 B μ;have i':F3 10=some (.int .i64 n):=B 10 _ (by unfold duF; simp only[go_sem]);have j':F3 11=some (.osl o 1 0 w):=B 11 _ (by unfold duF; simp only[go_sem]);have k':F3 12=some (aI y):=B 12 _ (by unfold duF; simp only[go_sem]);have l':F3 13=some (.int .u64 e):=B 13 _ (by unfold duF; simp only[go_sem]);have χ:F3 14=some (.osl u 1 0 l):=B 14 _ (by unfold duF; simp only[go_sem]);have m':F3 15=some (.int .i64 j):=B 15 _ (by unfold duF; simp only[go_sem]);have n':F3 17=some (.int .u64 O):=B 17 _ (by unfold duF; simp only[go_sem]);have g':H3 o=some (.rows 1 (eG (X.take j++eA (m+2) (val W%val y)++X.drop (j+(m+2))) (aH z))):=μ o _ (by simp only[go_sem,x]);have h':H3 u=some (.rows 1 (aH Q)):=μ u _ Sq;have e':j<Q.length:=Om;have rq:=bL Q e';have d':(j:Int)<(l:Nat):=Om;have sq:=fS Q j O;have ec:IntKind.u32.wrap ((O:Nat):Int)=((O:Nat):Int):=by rw[cI,aBQ φ]
   have ej:IntKind.i64.wrap ((j:Int)-1)=(j:Int)-1:=wrap_i64 Om Om;simp only[go_sem,CY,χ,m',n',d',h',rq,ec,sq,CZ,ej];refine aL (α:=Nat × List Nat × List Nat) (j,_,_) ⟨by simp only; omega,Θ⟩ (by simp only; omega) ?_ ?_
   ·unfold duF
    (repeat' (first|exact c_|refine d_ ?_ ?_))<;>first|(simp only[go_sem,i',j',k',l',χ]<;>rfl)|rfl
   ·refine e_ (e_ a_ ?_) ?_
    ·simp only[go_sem,x,g']
    ·simp only[go_sem]
  simp only[aE.wp,go_sem] at tail;simp only[go_sem,hz,b'];refine bN .nil dC a_ ?_;simp only[go_sem,SR,e1,e0,b1,b0,x,r1,r0,Γ,ω,η,ε,SS,Φ,ζ,SU];by_cases c:(4294967296*E+J)/e>4294967295
  ·have c':(((4294967296*E+J)/e:Nat):Int)>4294967295:=Om;simp only[go_sem,c',SV];exact tail 4294967295 _ _ Om (by decide) (by unfold duF; exact Lq) b_
  ·have c':¬ (((4294967296*E+J)/e:Nat):Int)>4294967295:=Om;simp only[go_sem,c'];exact tail _ _ _ ρ Om (by unfold duF; exact Lq) b_
 ·have:k=0:=Om;subst this;have hz:¬ ((0:Nat):Int)-1≥0:=by decide
  simp only[go_sem,hz];refine hK X Q _ _ M ?_ b_;unfold duF
  (repeat' (first|exact c_|refine d_ ?_ ?_))<;>first|(simp only[go_sem,show ((0:Nat):Int)-1=-1 from rfl]<;>rfl)|rfl
def agX (a:List Nat) (d q k r:Nat):PF:=(((((PF.nil.set 0 (aI a)).set 1 (aI [d])).set 6 (.osl q 1 0 a.length)).set 7 (.int .u64 r)).set 8 (.int .i64 ((k:Int)-1)))
theorem Vp {C:Ctx} (L:KE C) (a:List Nat) (d:Nat) (ha:Lim a) (l:0<d) (hd:d<4294967296) (h1:a.length≤1000) (F:PF) (f0:F 0=some (aI a)) (f1:F 1=some (aI [d])) :
  aE.wp C (.seq (.region IM) (.seq (.region IN) (.seq (.seq (.region IP) (.block 0 (.loop CO))) (.seq (.region CP) .ret)))) (aT [.tmp 4,.tmp 5] (cL (qI (val a) d))) F .nil:=by
 have Y:(a.length:Int)*((4:Nat):Int)≤140737488355328:=Om;have Z:(a.length:Int)≤9223372036854775807:=Om;have hz:aAC a.length [PV.int .u32 0]=aH (aAC a.length 0++[]):=by simp[aH]
 simp only[go_sem,IM,f0,aAA,Y,Z,hz];refine aP fun o ho=>?_;simp only[go_sem,IN,IP,f0,aAA];refine wp_loop (α:=Nat × List Nat × Nat) (fun t=>agX a d o t.1 t.2.2) (fun t=>PH.nil.set o (.rows 1 (aH (aAC t.1 0++t.2.1))))
  (fun t=>t.1+t.2.1.length=a.length∧Lim t.2.1∧t.2.2<d∧val t.2.1*d+t.2.2=val (a.drop t.1)) (fun t=>t.1) (a.length,[],0) ⟨by simp,by simp[Lim],l,by simp[val]⟩ ?_ ?_ ?_
 ·unfold agX
  (repeat' (first|exact c_|refine d_ ?_ ?_))<;>first|(simp only[go_sem,f0,f1,wrap_i64 (Om:-9223372036854775808≤(a.length:Int)-1) (Om:(a.length:Int)-1≤9223372036854775807)]<;>rfl)|rfl
 ·exact e_ a_ Sq
 rintro⟨k,S,r⟩ ⟨hk,j,N,e⟩;simp only at hk j N e;simp only[go_sem,CO,d8,agX];by_cases h0:0<k
 ·obtain⟨m,rfl⟩:∃ m,k=m+1:=⟨k-1,by omega⟩;have A:((m+1:Nat):Int)-1=(m:Int):=Om;have W:(m:Int)≥0:=Om;have w:m<a.length:=Om;have hlt:(m:Int)<(a.length:Nat):=Om;have γ:=ha _ (aAG w);have u:val (a.drop m)=a[m]+4294967296*val (a.drop (m+1)):=by rw[aCK w]; rfl
  have U:=bL a w;generalize hx:a[m]=x at *
  have ex:IntKind.u64.wrap ((x:Nat):Int)=((x:Nat):Int):=aZ Om;have ed:IntKind.u64.wrap ((d:Nat):Int)=((d:Nat):Int):=aZ Om;have J:shift .shl .u64 (r:Int) 32=some (.int .u64 ((2 ^ 32*r:Nat):Int)):=ID (s:=32) Om Om;have O:(2:Nat) ^ 32=4294967296:=by decide
  have B:=orI (a:=2 ^ 32*r) (b:=x) (n:=2 ^ 32*r+x) Om Om (Nat.two_pow_add_eq_or_of_lt Om r).symm Om;rw[O] at J B;have hq:(4294967296*r+x)/d<4294967296:=by rw[aDI l];have:4294967296*(r+1)≤4294967296*d:=aCR _ N;omega
  have V:¬ ((d:Nat):Int)=0:=Om;have E:IntKind.u64.wrap (Int.tdiv ((4294967296*r+x:Nat):Int) ((d:Nat):Int))=(((4294967296*r+x)/d:Nat):Int):=by rw[show Int.tdiv ((4294967296*r+x:Nat):Int) ((d:Nat):Int)=(((4294967296*r+x)/d:Nat):Int) from rfl];exact aZ Om
  have I:Int.tmod ((4294967296*r+x:Nat):Int) ((d:Nat):Int)=(((4294967296*r+x)%d:Nat):Int):=rfl;have ec:IntKind.u32.wrap (((4294967296*r+x)/d:Nat):Int)=(((4294967296*r+x)/d:Nat):Int):=by rw[cI,aBQ hq]
  have K:aAC (m+1) 0++S=aAC m 0++(0::S):=by rw[List.replicate_succ',aBE]; rfl
  have X:(aH (aAC m 0++(0::S)))[m]?=some [.int .u32 ((0:Nat):Int)]:=by rw[bL _ (by simp)]; simp
  have M:(aH (aAC m 0++(0::S))).set m [.int .u32 (((4294967296*r+x)/d:Nat):Int)]=aH (aAC m 0++(((4294967296*r+x)/d)::S)):=by rw[fS,aDQ _ _ (by simp)]; simp
  simp only[go_sem,A,W,d9,J,U,ex,B,el,ed,V,E,ec,hlt,K,X,M,SM,I,SN];refine aL (m,((4294967296*r+x)/d)::S,(4294967296*r+x)%d) ⟨by simp only[aBV]; omega,fun y hy=>?_,aBX _ l,?_⟩ (by simp only; omega) ?_ (e_ a_ Sq)
  ·rw[aAK] at hy;rcases hy with rfl | hy
   ·exact hq
   ·exact j y hy
  ·simp only[val];rw[u,← e,aBI,aAM,aAZ];have:=aDS (4294967296*r+x) d;rw[aBA d] at this;omega
  ·(repeat' (first|exact c_|refine d_ ?_ ?_))<;>first|(simp only[go_sem,wrap_i64 (Om:-9223372036854775808≤(m:Int)-1) (Om:(m:Int)-1≤9223372036854775807)]<;>rfl)|rfl
 ·have:k=0:=Om;subst this;have A:¬ ((0:Nat):Int)-1≥0:=by decide
  rw[aBM] at e;have hS:S.length=a.length:=Om;have hq:val S=val a/d:=by rw[← e,aBA,Nat.mul_add_div l,aDG N,aBP]
  have β:r=val a%d:=by rw[← e,aBA,Nat.mul_add_mod,aBQ N]
  have δ:aAC 0 0++S=S:=by simp
  have hl:=L.trim S j Om;have R:(aH S).take a.length=aH S:=aAQ (by rw[bV]; omega);simp only[go_sem,A,CP,aDN];refine qR (o:=o) (s:=1) (rs:=aH S) hl Sq (by simp only[go_sem,R,show a.length≤S.length by omega]) ?_;simp only[go_sem];refine aB (L.make r Om) Sq ?_;simp only[go_sem];refine aV (vs:=[aI (aJ (val S)),aI (aJ r)]) (.inr rfl) .nil Ev a_ ⟨?_,rfl⟩;rw[hq,β];exact .refl _
theorem ajB {B m:Nat} (h:nl B=m+1):32*m<cN B∧cN B≤32*(m+1):=by
 refine⟨?_,(rP B (m+1)).2 Om⟩;rcases aAV (32*m) (cN B) with h1 | h1
 ·exact h1
 ·have:=(rP B m).1 h1;omega
theorem ajC {B:Nat} (h:B≠0):2 ^ (cN B-1)≤B:=by
 rcases aAV B (2 ^ (cN B-1)) with h1 | h1
 ·have j:=(mL B _).2 h1;have l:cN B≠0:=fun e=>h (kD.1 e);omega
 ·exact h1
theorem Vq {C:Ctx} (L:KE C) (A B:Nat) (hB:B≠0) (hA:nl A≤512) (Ψ:nl B≤512) :
  zS.wp C (aT kf.res (cL (qI A B))) (PF.args [aI (aJ A),aI (aJ B)]) .nil:=by
 have R:=bA A;have LB:=bA B;have vA:=aY A;have vB:=aY B;have lA:(aJ A).length=nl A:=rfl;have lB:(aJ B).length=nl B:=rfl;simp only[go_sem,zS,dy,dz,kf];refine aB (L.cmp _ _ R LB Om Om) rfl ?_;rw[vA,vB];by_cases c1:A<B
 ·have hc:eN A B<0:=by simp[eN,c1]
  simp only[go_sem,hc,d6];refine aB (L.trim _ R Om) rfl ?_;rw[vA];simp only[go_sem];refine aV (vs:=[.aA,aI (aJ A)]) (.inr rfl) .nil rfl a_ ⟨?_,rfl⟩;rw[qI,aDG c1,aBQ c1,gS];exact CoL.tup (CoL.cons (.nil 1) (CoL.cons (.refl _) .nil))
 have hc:¬ eN A B<0:=by unfold eN;rw[if_neg c1];split<;>decide
 have τ:0<B:=aCT hB;have e':nl B≠0:=fun h=>hB (lC.1 h);simp only[go_sem,hc,d7,aAA,lB];by_cases c2:nl B=1
 ·have S:B<4294967296:=by have:=(jF B 1).1 Om; simpa using this
  have ω:aJ B=[B]:=oN hB S;have sh:=Vp (C:=C) L (aJ A) B R τ S Om;rw[vA] at sh;simp only[aE.wp,go_sem] at sh;simp only[go_sem,bO (Om:((nl B:Nat):Int)=1)];exact sh _ rfl (by simp only[go_sem,ω])
 obtain⟨m,hm⟩:∃ m,nl B=m+1:=⟨nl B-1,by omega⟩;have d':1≤m:=Om;obtain⟨b',β⟩:=ajB hm;obtain⟨n,hn⟩:∃ n,n+cN B=32*(m+1):=⟨32*(m+1)-cN B,by omega⟩;have δ:n<32:=Om;have K:0<2 ^ n:=aDB (by decide);have V:B<2 ^ cN B:=(mL B _).1 (aAF _);have U:=ajC hB;have Y:B*2 ^ n<4294967296 ^ (m+1):=by have:B*2 ^ n<2 ^ cN B*2 ^ n:=Nat.mul_lt_mul_of_pos_right V K;rw[← Nat.pow_add,show cN B+n=32*(m+1) by omega,Nat.pow_mul] at this;exact this
 have Ξ:4294967296 ^ m*2147483648≤B*2 ^ n:=by have:2 ^ (cN B-1)*2 ^ n≤B*2 ^ n:=aBC _ U;rw[← Nat.pow_add,show cN B-1+n=32*m+31 by omega,Nat.pow_add,Nat.pow_mul] at this;exact this
 have nV:nl (B*2 ^ n)=m+1:=by
  have I:=(jF (B*2 ^ n) (m+1)).2 Y;rcases aAV (nl (B*2 ^ n)) (m+1) with h | h
  ·have:=(jF (B*2 ^ n) m).1 Om;have Δ:0<4294967296 ^ m:=aDB (by decide);omega
  ·omega
 have a':B*2 ^ n≠0:=Nat.mul_ne_zero hB Om;have g':nl (A*2 ^ n)≤nl A+1:=wH (aAF _) (pJ (by rw[Nat.pow_one]; exact Nat.pow_lt_pow_right (a:=2) (m:=n) (n:=32) (by decide) δ));have χ:B*2 ^ n≤A*2 ^ n:=aBC _ Om;have h':m+1≤nl (A*2 ^ n):=by rw[← nV]; exact jQ χ
 have Ω:A*2 ^ n≠0:=Om;have μ:IntKind.i64.wrap (32*((nl B:Nat):Int))=((32*(m+1):Nat):Int):=by rw[wrap_i64 Om Om]; omega
 have en:IntKind.i64.wrap (((32*(m+1):Nat):Int)-((cN B:Nat):Int))=(n:Int):=by rw[wrap_i64 Om Om]; omega
 have bt:=L.bits (aJ B) LB Om;rw[vB] at bt;have ua:=L.upM (aJ A) n R Om Om (fun h=>by have:=fG R; rw[h] at this; omega);have ub:=(L.upM (aJ B) n LB Om Om (fun h=>by have:=fG LB; rw[h] at this; omega)).freeze;rw[vA] at ua;rw[vB] at ub;have tail:∀ (o:Nat) (F:PF) (H:PH),F 0=some (aI (aJ A))→F 1=some (aI (aJ B))→F 10=some (.int .i64 n)→F 11=some (.osl o 1 0 (nl (A*2 ^ n)+2))→F 12=some (aI (aJ (B*2 ^ n)))→H o=some (.rows 1 (aH (aJ (A*2 ^ n))++[[.int .u32 0],[.int .u32 0]])) →
   aE.wp C (.seq (.region CQ) (.seq (.region CR) (.seq (.region CS) (.seq (.seq (.region CU) (.block 2 (.loop vO))) (.seq (.region DA) .ret))))) (aT [.tmp 4,.tmp 5] (cL (qI A B))) F H:=by
  intro o F H f0 f1 ν f11 ξ hH;have LU:=bA (A*2 ^ n);have LV:=bA (B*2 ^ n);have vU:=aY (A*2 ^ n);have vV:=aY (B*2 ^ n);have lU:(aJ (A*2 ^ n)).length=nl (A*2 ^ n):=rfl;have lV:(aJ (B*2 ^ n)).length=m+1:=nV;have eu:IntKind.i64.wrap (((nl (A*2 ^ n):Nat):Int)+1)=((nl (A*2 ^ n)+1:Nat):Int):=dN Om;have b1:((nl (A*2 ^ n)+1:Nat):Int)≤((nl (A*2 ^ n)+2:Nat):Int):=Om;simp only[go_sem,CQ,f11,f0,ν];refine aB ua.freeze rfl ?_;obtain⟨e,c'⟩:∃ e,nl (A*2 ^ n)+1-(m+1)=e:=⟨_,rfl⟩;have Γ:nl (A*2 ^ n)+1=e+(m+1):=Om;have em:IntKind.i64.wrap (((m+1:Nat):Int)-1)=((m:Nat):Int):=by rw[wrap_i64 Om Om]; omega
  have u:m<(aJ (B*2 ^ n)).length:=Om;have rm:=bL (aJ (B*2 ^ n)) u;have tl:=LV _ (aAG u);have htop:0<(aJ (B*2 ^ n))[m]:=by
   have I:=bZ (aJ (B*2 ^ n)) u;rw[aAQ Om,vV] at I;have h2:=fG (LV.take m);rw[aAN,aCF Om] at h2;have Δ:0<4294967296 ^ m:=aDB (by decide);rcases aCH (aJ (B*2 ^ n))[m] with h | h
   ·rw[h] at I; omega
   ·exact h
  have κ:2147483648≤(aJ (B*2 ^ n))[m]:=by
   have I:=bZ (aJ (B*2 ^ n)) u;rw[aAQ Om,vV] at I;have h2:=fG (LV.take m);rw[aAN,aCF Om] at h2;rcases aAV (aJ (B*2 ^ n))[m] 2147483648 with h | h
   ·exfalso;have h3:4294967296 ^ m*((aJ (B*2 ^ n))[m]+1)≤4294967296 ^ m*2147483648:=aCR _ h;rw[aAM,Nat.mul_one] at h3;omega
   ·exact h
  have y:=Z4 (C:=C) L (A*2 ^ n) n o (nl (A*2 ^ n)+1) e;have hI:pC (A*2 ^ n) (val (aJ (B*2 ^ n))) (m+1) (nl (A*2 ^ n)+1) e e (aJ (A*2 ^ n)++[0]) (aAC e 0):=by
   refine⟨by rw[aAE,lU]; rfl,aEA,LU.app fun x O=>by simp at O; omega,wE _,?_,?_,fun i x _ O=>Jf O⟩
   ·rw[gT,vU,sC]; simp[val]
   ·have Φ:(aJ (A*2 ^ n)++[0]).length=nl (A*2 ^ n)+1:=by rw[aAE,lU]; rfl
    have Λ:val (aJ (A*2 ^ n)++[0])=A*2 ^ n:=by rw[gT,vU]; simp[val]
    rw[uT (LU.app fun x O=>by simp at O; omega) Om,Λ,vV,aDI (aDB (by decide))];have I:A*2 ^ n<4294967296 ^ nl (A*2 ^ n):=(jF _ _).1 (aAF _);have O:nl (A*2 ^ n)=m+e:=Om;rw[O,Nat.pow_add] at I;have h2:4294967296 ^ m*4294967296 ^ e≤(B*2 ^ n)*4294967296 ^ e:=aBC _ Om;omega
  have M:aH (aJ (A*2 ^ n))++[[PV.int .u32 0],[PV.int .u32 0]]=eG (aJ (A*2 ^ n)++[0]) (aH [0]):=by simp[eG,aH]
  rw[M] at hH;generalize θ:(aJ (B*2 ^ n))[m]=ι at *
  have et:IntKind.u64.wrap ((ι:Nat):Int)=((ι:Nat):Int):=aZ Om;have k2:IntKind.i64.wrap (((nl (A*2 ^ n)+1:Nat):Int)-((m+1:Nat):Int))=((e:Nat):Int):=by rw[wrap_i64 Om Om]; omega
  have k3:((e:Nat):Int)*((4:Nat):Int)≤140737488355328:=Om;have k4:((e:Nat):Int)≤9223372036854775807:=Om;have hz:aAC e [PV.int .u32 0]=aH (aAC e 0):=by simp[aH]
  have jq:IntKind.i64.wrap ((e:Int)-1)=(e:Int)-1:=wrap_i64 Om Om;simp only[go_sem,aAA,lU,eu,b1,CR,ξ,lV,em,rm,et,CS,k2,k3,k4,hz];refine aP fun E η=>?_;have ε:E≠o:=by rintro rfl; rw[hH] at η; cases η
  have l:¬ o=E:=fun h=>ε h.symm;have w:=y E m (aJ (B*2 ^ n)) [0] ε LV lV (by rw[θ]; exact htop) Γ Om _ hI;rw[θ] at w;simp only[go_sem] at w;simp only[go_sem,CU,jq];refine w _ _ _ ?_ ?_ ?_
  ·unfold duF;exact Lq
  ·refine e_ (e_ a_ ?_) ?_
   ·simp only[go_sem,l,hH]
   ·simp only[go_sem]
  clear w y;intro X Q F1 H1 j J W;have ο:F1 10=some (.int .i64 n):=J 10 _ (by unfold duF; simp only[go_sem]);have ρ:F1 11=some (.osl o 1 0 (nl (A*2 ^ n)+1)):=J 11 _ (by unfold duF; simp only[go_sem]);have σ:F1 14=some (.osl E 1 0 e):=J 14 _ (by unfold duF; simp only[go_sem]);have ζ:H1 o=some (.rows 1 (eG X (aH [0]))):=W o _ (by simp only[go_sem,l]);have Θ:H1 E=some (.rows 1 (aH Q)):=W E _ Sq;have hu:val X<val (aJ (B*2 ^ n)):=by have:=j.r; rwa [aBM] at this
  have N:=j.v;rw[vV] at hu N;have φ:val Q=A/B:=by
   have:A*2 ^ n/(B*2 ^ n)=val Q:=by rw[← N,Nat.add_mul_div_right _ _ Om,aDG hu,aAX]
   rw[← this,Nat.mul_div_mul_right _ _ K]
  have ψ:val X/2 ^ n=A%B:=by
   have:A*2 ^ n%(B*2 ^ n)=val X:=by rw[← N,Nat.add_mul_mod_self_right,aBQ hu]
   rw[← this,Nat.mul_mod_mul_right,Nat.mul_div_cancel _ K]
  have lX:=j.lu';have lQ:=j.lq';have υ:(aH Q).take e=aH Q:=aAQ (by rw[bV]; omega);have α:(eG X (aH [0])).take (nl (A*2 ^ n)+1)=aH X:=by rw[eG,List.take_append_of_le_length (by rw[bV]; omega),aAQ (by rw[bV]; omega)]
  have Z:nl (A*2 ^ n)+1≤(eG X (aH [0])).length:=by rw[eG,aAE,bV]; omega
  have γ:(eG X (aH [0])).map (fun r=>r.map (PV.bP E 1 (aH Q)))=eG X (aH [0]):=by
   have:eG X (aH [0])=aH (X++[0]):=by simp[eG,aH]
   rw[this]; exact rS _ _ _ _
  have nX:=fR j.limU;have t1:=L.trim Q j.limQ Om;have t2:=L.trim X j.limU Om;have dn:=L.down (aJ (val X)) n (bA _) (by rw[bH]; omega) Om;rw[aY,ψ] at dn;rw[φ] at t1;generalize aH [0]=Z0 at ζ α Z γ;simp only[go_sem,DA,σ];refine qR (o:=E) (s:=1) (rs:=aH Q) t1 Θ (by simp only[go_sem,υ,show e≤Q.length by omega]) ?_;simp only[go_sem,ρ,l];refine qR (o:=o) (s:=1) (rs:=eG X Z0) t2 (by simp only[go_sem,l,ζ,bF.frz,γ]) (by simp only[go_sem,α,Z]) ?_;simp only[go_sem,ο];refine aB dn rfl ?_;simp only[go_sem];exact aV (vs:=[aI (aJ (A/B)),aI (aJ (A%B))]) (.inr rfl) .nil rfl a_ ⟨.refl _,rfl⟩
 simp only[aE.wp,go_sem] at tail;simp only[go_sem,bC (Om:¬ ((nl B:Nat):Int)=1),SO,aAA,lB];refine aB bt rfl ?_;simp only[go_sem,μ,en,SP];refine dS ua rfl a_ fun r H1 hr _=>?_;have β:(2:Nat)*1≤16777216:=by decide
 rcases hr with ⟨h0,_⟩ | ⟨o,rs,rfl,rfl,hrl,hrt⟩
 ·exfalso;have:=congrArg List.length h0;rw[bV,bH] at this;simp at this;omega
 rw[PH.nL];rw[bV,bH] at hrl hrt;simp only[go_sem,β,bV,bH];refine OV (src:=[[.int .u32 0],[.int .u32 0]]) (rs:=rs) rfl ?_ Sq hrl ?_ fun o' f'=>?_
 ·unfold roomFor;simp only[maxLen,aBV,aCL]; omega
 ·rw[hrt];simp only[go_sem];refine aB ub rfl ?_;simp only[go_sem];exact tail o _ _ rfl rfl rfl rfl rfl Sq
 ·rw[hrt];simp only[go_sem];refine aB ub rfl ?_;simp only[go_sem];exact tail o' _ _ rfl rfl rfl rfl rfl Sq
def bR (C:Ctx) (k:Nat) (e:bB):Prop:=∀ (args:List PV) (H:PH) (R:PV→PH→Prop),args.length≤e.ntmps→e.body.wp C (aT e.res R) (PF.args args) H→aG C k args H R
theorem bR.go {C:Ctx} {k:Nat} {e:bB} (r:bR C k e) {args:List PV} {H:PH} {R:PV→PH→Prop} (h:e.body.wp C (aT e.res R) (PF.args args) H) (j:Nat.ble args.length e.ntmps=true):aG C k args H R:=r args H R (Nat.le_of_ble_eq_true j) h
abbrev wO (C:Ctx):Prop:=∀ n:Nat,n<100→aG C 195 [.int .i64 n] .nil (aM (.str (bU n)))
section
variable {C:Ctx} {F F':PF} {H:PH}
theorem cQ (e:F.le F') {x:aN} {v:PV} (h:x.ev F=some v):x.ev F'=some v:=by
 cases x
 ·exact e _ _ h
 all_goals exact h
theorem DO (e:F.le F'):∀ {xs:List aN} {vs:List PV},aN.evs F xs=some vs→aN.evs F' xs=some vs
 | [],_,h=>h
 | x::xs,vs,h=>by
  rw[nZ] at h ⊢;cases l:x.ev F with
  | none=>simp[l] at h
  | some v =>
   cases j:aN.evs F xs with
   | none=>simp[j] at h
   | some ws =>rw[l,j] at h;rw[cQ e l,DO e j];exact h
theorem wt (e:F.le F'):∀ {ps:List (Nat × Nat × aN)} {cs ds:List PV},pT cs F ps=some ds→pT cs F' ps=some ds
 | [],_,_,h=>h
 | (u,size,x)::ps,cs,ds,h=>by
  simp only[pT] at h ⊢;cases j:x.ev F with
  | none=>simp[j] at h
  | some v =>
   rw[j] at h;rw[cQ e j];simp only at h ⊢;split at h
   ·rename_i l; rw[if_pos l]; exact wt e h
   ·cases h
theorem BG (e:F.le F') {size:Nat}:∀ {ps:List (Nat × aN)} {cs ds:List (List PV)},iD size cs F ps=some ds→iD size cs F' ps=some ds
 | [],_,_,h=>h
 | (i,x)::ps,cs,ds,h=>by
  simp only[iD] at h ⊢;cases j:x.ev F with
  | none=>simp[j] at h
  | some v =>
   rw[j] at h;rw[cQ e j];simp only at h ⊢;split at h
   ·rename_i l; rw[if_pos l]; exact BG e h
   ·cases h
theorem KJ (e:F.le F') {d n:Int} {x:Option aN} (h:bnd F d x=some n):bnd F' d x=some n:=by
 cases x with
 | none=>exact h
 | some x =>
  simp only[bnd] at h ⊢;cases j:x.ev F with
  | none=>simp[j] at h
  | some v=>rw[cQ e j,← j]; exact h
theorem Fw {op:POp} {v:PV} (j:F.le F') (h:aO op F H=some v):aO op F' H=some v:=by
 cases op
 case mv x=>exact cQ j h
 case pick c a b =>
  simp only[aO] at h ⊢;cases I:c.ev F with
  | none=>simp[I] at h
  | some t =>
   rw[I] at h;rw[cQ j I];cases t<;>simp only at h ⊢<;>try cases h
   rename_i t;cases t
   ·simp only[aDF,if_false] at h ⊢; exact cQ j h
   ·simp only[if_true] at h ⊢; exact cQ j h
 case same x =>
  simp only[aO] at h ⊢;cases e:x.ev F with
  | none=>simp[e] at h
  | some a=>rw[cQ j e,← e]; exact h
 case un o x =>
  simp only[aO] at h ⊢;cases e:x.ev F with
  | none=>simp[e] at h
  | some a=>rw[cQ j e,← e]; exact h
 case conv k x =>
  simp only[aO] at h ⊢;cases e:x.ev F with
  | none=>simp[e] at h
  | some a=>rw[cQ j e,← e]; exact h
 case azA x =>
  simp only[aO] at h ⊢;cases e:x.ev F with
  | none=>simp[e] at h
  | some a=>rw[cQ j e,← e]; exact h
 case azR o x =>
  simp only[aO] at h ⊢;cases e:x.ev F with
  | none=>simp[e] at h
  | some a=>rw[cQ j e,← e]; exact h
 case field o n x =>
  simp only[aO] at h ⊢;cases e:x.ev F with
  | none=>simp[e] at h
  | some a=>rw[cQ j e,← e]; exact h
 case azO x =>
  simp only[aO] at h ⊢;cases e:x.ev F with
  | none=>simp[e] at h
  | some a=>rw[cQ j e,← e]; exact h
 case isNil n x =>
  simp only[aO] at h ⊢;cases e:x.ev F with
  | none=>simp[e] at h
  | some a=>rw[cQ j e,← e]; exact h
 case lenM x =>
  simp only[aO] at h ⊢;cases e:x.ev F with
  | none=>simp[e] at h
  | some a=>rw[cQ j e,← e]; exact h
 case azZ x =>
  simp only[aO] at h ⊢;cases e:x.ev F with
  | none=>simp[e] at h
  | some a=>rw[cQ j e,← e]; exact h
 case extract x i =>
  simp only[aO] at h ⊢;cases e:x.ev F with
  | none=>simp[e] at h
  | some a=>rw[cQ j e,← e]; exact h
 case azB x =>
  simp only[aO] at h ⊢;cases e:x.ev F with
  | none=>simp[e] at h
  | some a=>rw[cQ j e,← e]; exact h
 case len x =>
  simp only[aO] at h ⊢;cases e:x.ev F with
  | none=>simp[e] at h
  | some a=>rw[cQ j e,← e]; exact h
 case box r x =>
  cases r
  ·cases h
  simp only[aO] at h ⊢;cases e:x.ev F with
  | none=>simp[e] at h
  | some a=>rw[cQ j e,← e]; exact h
 case load n p =>
  cases n
  all_goals
   simp only[aO] at h ⊢;cases e:p.ev F with
   | none=>simp[e] at h
   | some a=>rw[cQ j e,← e]; exact h
 case bin o x y =>
  simp only[aO] at h ⊢;cases e:x.ev F with
  | none=>simp[e] at h
  | some a =>
   cases A:y.ev F with
   | none=>simp[e,A] at h
   | some b=>rw[cQ j e,cQ j A,← e,← A]; exact h
 case eqb n x y =>
  simp only[aO] at h ⊢;cases e:x.ev F with
  | none=>simp[e] at h
  | some a =>
   cases A:y.ev F with
   | none=>simp[e,A] at h
   | some b=>rw[cQ j e,cQ j A,← e,← A]; exact h
 case eqs n k x y =>
  simp only[aO] at h ⊢;cases e:x.ev F with
  | none=>simp[e] at h
  | some a =>
   cases A:y.ev F with
   | none=>simp[e,A] at h
   | some b=>rw[cQ j e,cQ j A,← e,← A]; exact h
 case azE s x i =>
  simp only[aO] at h ⊢;cases e:x.ev F with
  | none=>simp[e] at h
  | some a =>
   cases A:i.ev F with
   | none=>simp[e,A] at h
   | some b=>rw[cQ j e,cQ j A,← e,← A]; exact h
 case idxA n s x i =>
  simp only[aO] at h ⊢;cases e:x.ev F with
  | none=>simp[e] at h
  | some a =>
   cases A:i.ev F with
   | none=>simp[e,A] at h
   | some b=>rw[cQ j e,cQ j A,← e,← A]; exact h
 case idxV n s g x i =>
  simp only[aO] at h ⊢;cases e:x.ev F with
  | none=>simp[e] at h
  | some a =>
   cases A:i.ev F with
   | none=>simp[e,A] at h
   | some b=>rw[cQ j e,cQ j A,← e,← A]; exact h
 case azP x i =>
  simp only[aO] at h ⊢;cases e:x.ev F with
  | none=>simp[e] at h
  | some a =>
   cases A:i.ev F with
   | none=>simp[e,A] at h
   | some b=>rw[cQ j e,cQ j A,← e,← A]; exact h
 case azI m x y =>
  simp only[aO] at h ⊢;cases e:x.ev F with
  | none=>simp[e] at h
  | some a =>
   cases A:y.ev F with
   | none=>simp[e,A] at h
   | some b=>rw[cQ j e,cQ j A,← e,← A]; exact h
 case lookup sh z x k ok =>
  simp only[aO] at h ⊢;cases e:x.ev F with
  | none=>simp[e] at h
  | some a =>
   cases A:k.ev F with
   | none=>simp[e,A] at h
   | some b=>rw[cQ j e,cQ j A,← e,← A]; exact h
 case build z ps =>simp only[aO,aAJ] at h ⊢;obtain⟨cs,B,E⟩:=h;exact⟨cs,wt j B,E⟩
 case ayS r s l z ps =>
  cases r
  ·cases h
  simp only[aO] at h ⊢;split at h
  ·rename_i I;rw[if_pos I];rw[aAJ] at h ⊢;obtain⟨cs,B,E⟩:=h;exact⟨cs,BG j B,E⟩
  ·cases h
 case mkfn n cs =>simp only[aO,aAJ] at h ⊢;obtain⟨vs,B,E⟩:=h;exact⟨vs,DO j B,E⟩
 case sliceA n s x lo hi mx =>
  cases lo<;>cases hi<;>cases mx<;>simp only[aO] at h ⊢<;>try cases h
  cases e:x.ev F with
  | none=>simp[e] at h
  | some a=>rw[cQ j e,← e]; exact h
 case azK x lo hi =>
  simp only[aO] at h ⊢;cases e:x.ev F with
  | none=>simp[e] at h
  | some a =>
   rw[e] at h;rw[cQ j e];cases a<;>simp only at h ⊢<;>try cases h
   cases B:bnd F 0 lo with
   | none=>simp[B] at h
   | some l =>
    rename_i s;cases E:bnd F s.length hi with
    | none=>simp[B,E] at h
    | some u=>rw[KJ j B,KJ j E,← B,← E]; exact h
 case slice s x lo hi mx =>
  simp only[aO] at h ⊢;cases e:x.ev F with
  | none=>simp[e] at h
  | some a =>
   rw[e] at h;rw[cQ j e];have K:∀ (d:Int) (w:PV),(match bnd F 0 lo,bnd F d hi with
     | some a1,some a2=>match (generalizing:=false) mx with
      | none=>PV.slice s w a1 a2 none
      | some m=>(bnd F 0 (some m)).bind fun m=>PV.slice s w a1 a2 (some m)
     | _,_=>none)=some v→(match bnd F' 0 lo,bnd F' d hi with
     | some a1,some a2=>match (generalizing:=false) mx with
      | none=>PV.slice s w a1 a2 none
      | some m=>(bnd F' 0 (some m)).bind fun m=>PV.slice s w a1 a2 (some m)
     | _,_=>none)=some v:=by
    intro d w h;cases B:bnd F 0 lo with
    | none=>simp[B] at h
    | some l =>
     cases E:bnd F d hi with
     | none=>simp[B,E] at h
     | some u =>
      rw[B,E] at h;rw[KJ j B,KJ j E];cases mx with
      | none=>exact h
      | some m =>
       simp only at h ⊢;cases J:bnd F 0 (some m) with
       | none=>simp[J] at h
       | some q=>rw[KJ j J,← J]; exact h
   cases a<;>simp only at h ⊢<;>first | exact K _ _ h | cases h
 all_goals exact h
theorem vm {op:POp} {r:(Nat→PV) × bF} (e:F.le F') (h:cW op F=some r):cW op F'=some r:=by
 cases op
 case box b x =>
  cases b
  ·simp only[cW] at h ⊢;cases j:x.ev F with
   | none=>simp[j] at h
   | some a=>rw[cQ e j,← j]; exact h
  ·cases h
 case ayS b s l z ps =>
  cases b
  ·simp only[cW] at h ⊢;split at h
   ·rename_i A;rw[if_pos A];rw[aAJ] at h ⊢;obtain⟨cs,w,y⟩:=h;exact⟨cs,BG e w,y⟩
   ·cases h
  ·cases h
 case ayV s b z l c =>
  simp only[cW] at h ⊢;cases j:l.ev F with
  | none=>simp[j] at h
  | some a =>
   cases u:c.ev F with
   | none=>simp[j,u] at h
   | some b=>rw[cQ e j,cQ e u,← j,← u]; exact h
 all_goals exact h
theorem Jd {op:POp} {K:PV→PH→Prop} (e:F.le F') (h:bX op F H K):bX op F' H K:=by
 cases op
 case store n x y =>
  simp only[bX] at h ⊢;cases j:x.ev F with
  | none=>simp[j] at h
  | some a =>
   cases l:y.ev F with
   | none=>simp[j,l] at h
   | some b=>rw[cQ e j,cQ e l]; rw[j,l] at h; exact h
 case append s b x y =>
  simp only[bX] at h ⊢;cases j:x.ev F with
  | none=>simp[j] at h
  | some a =>
   cases l:y.ev F with
   | none=>simp[j,l] at h
   | some b=>rw[cQ e j,cQ e l]; rw[j,l] at h; exact h
 case azF sh x y z =>
  simp only[bX] at h ⊢;cases j:x.ev F with
  | none=>simp[j] at h
  | some a =>
   cases l:y.ev F with
   | none=>simp[j,l] at h
   | some b =>
    cases u:z.ev F with
    | none=>simp[j,l,u] at h
    | some c=>rw[cQ e j,cQ e l,cQ e u]; rw[j,l,u] at h; exact h
 case insert sh x y z =>
  simp only[bX] at h ⊢;cases j:x.ev F with
  | none=>simp[j] at h
  | some a =>
   cases l:y.ev F with
   | none=>simp[j,l] at h
   | some b =>
    cases u:z.ev F with
    | none=>simp[j,l,u] at h
    | some c=>rw[cQ e j,cQ e l,cQ e u]; rw[j,l,u] at h; exact h
 all_goals exact h
theorem PF.aqF (l:F.le F') (i:Nat) (v:PV):(F.set i v).le (F'.set i v):=by
 intro j u h;rw[mF] at h ⊢;split at h
 ·rename_i e; rw[if_pos e]; exact h
 ·rename_i e; rw[if_neg e]; exact l j u h
theorem PF.tL (e:F.le F') (d:Option Nat) (v:PV):(F.put d v).le (F'.put d v):=by
 cases d with
 | none=>exact e
 | some d=>exact PF.aqF e d v
theorem PF.apH (e:F.le F') (o s:Nat) (rs:List (List PV)):(F.frz o s rs).le (F'.frz o s rs):=by
 intro j u h;rw[kF,aAJ] at h ⊢;obtain⟨x,l,w⟩:=h;exact⟨x,e j x l,w⟩
theorem PF.le_trans {A B D:PF} (h:A.le B) (k:B.le D):A.le D:=fun i v hi=>k i v (h i v hi)
theorem iU.up {l:PF} {u:PH} (h:iU F H l u):∀ {F':PF},F.le F'→∃ e,iU F' H e u∧l.le e:=by
 induction h with
 | refl F H=>exact fun {F'} j=>⟨F',.refl _ _,j⟩
 | step o y _ A =>intro F' j;obtain⟨e,w,x⟩:=A (PF.apH j o _ _);exact⟨e,.step o y w,x⟩
theorem YN {name:Nat} {args:Option (List PV)} {d:Option Nat} {K1 K2:PF→PH→Prop} (A:∀ F F' H,F.le F'→K1 F H→K2 F' H) (j:F.le F') {e:Option (List PV)} (B:∀ vs,args=some vs→e=some vs) (h:sF C name args d K1 F H):sF C name e d K2 F' H:=by
 obtain⟨vs,l,R,u,w,x,y⟩:=h;exact⟨vs,l,R,B _ u,w,x,fun r H' a b=>A _ _ _ (PF.tL j d r) (y r H' a b)⟩
theorem Cf {cs:List PV} {args:List aN} (e:F.le F') (vs:List PV) (h:(aN.evs F args).map (·++cs)=some vs):(aN.evs F' args).map (·++cs)=some vs:=by
 rw[aAJ] at h ⊢;obtain⟨x,j,l⟩:=h;exact⟨x,DO e j,l⟩
theorem Kp {name:Nat} {args:List aN} {cs:List PV} {d:Option Nat} {K1 K2:PF→PH→Prop} (l:∀ F F' H,F.le F'→K1 F H→K2 F' H) (e:F.le F') (h:fU C name args cs d K1 F H):fU C name args cs d K2 F' H:=by
 rcases h with h | ⟨F1,H1,h1,h2⟩
 ·exact .inl (YN l e (Cf e) h)
 ·obtain⟨j,k1,k2⟩:=h1.up e;exact .inr ⟨j,H1,k1,YN l k2 (Cf k2) h2⟩
theorem MQ {op:POp} {d:Option Nat} {K1 K2:PF→PH→Prop} (u:∀ F F' H,F.le F'→K1 F H→K2 F' H) (e:F.le F') (h:mZ (cW op F) d K1 F H):mZ (cW op F') d K2 F' H:=by
 obtain⟨y,x,j,l⟩:=h;exact⟨y,x,vm e j,fun o w=>u _ _ _ (PF.tL e d _) (l o w)⟩
theorem gt {op:POp} {d:Option Nat} {K1 K2:PF→PH→Prop} (u:∀ F F' H,F.le F'→K1 F H→K2 F' H) (e:F.le F') (h:bQ (aO op F H) d K1 F H):bQ (aO op F' H) d K2 F' H:=by
 obtain⟨v,j,l⟩:=h;exact⟨v,Fw e j,u _ _ _ (PF.tL e d v) l⟩
theorem uy {op:POp} {d:Option Nat} {K1 K2:PF→PH→Prop} (j:∀ F F' H,F.le F'→K1 F H→K2 F' H) (e:F.le F') (h:bX op F H fun r H'=>K1 (F.put d r) H'):bX op F' H fun r H'=>K2 (F'.put d r) H' :=
 Jd e (zW (fun v H' l=>j _ _ _ (PF.tL e d v) l) h)
theorem aiL {op:POp} {d:Option Nat} {K1 K2:PF→PH→Prop} (j:∀ F F' H,F.le F'→K1 F H→K2 F' H) (e:F.le F') (h:wpOp C op d K1 F H):wpOp C op d K2 F' H:=by
 cases op
 case call n a=>exact Kp j e h
 case azQ x a =>
  have w:uW C (x.ev F) a d K1 F H:=h;show uW C (x.ev F') a d K2 F' H;cases K:x.ev F with
  | none=>rw[K] at w; exact w.elim
  | some u =>
   rw[cQ e K];rw[K] at w;cases u<;>first | exact Kp j e w | exact w.elim | skip
   obtain⟨l,N,A⟩:=w;refine⟨l,N,?_⟩;rcases A with ⟨vs,E,R,A,I,J,h5⟩ | ⟨F1,H1,k1,vs,E,R,A,I,J,h5⟩
   ·exact .inl ⟨vs,E,R,DO e A,I,J,fun r H' p q=>j _ _ _ (PF.tL e d r) (h5 r H' p q)⟩
   ·obtain⟨B,k2,M⟩:=k1.up e;exact .inr ⟨B,H1,k2,vs,E,R,DO M A,I,J,fun r H' p q=>j _ _ _ (PF.tL M d r) (h5 r H' p q)⟩
 case box r x=>cases r<;>first | exact MQ (op:=.box false x) j e h | exact gt (op:=.box true x) j e h
 case ayS r s l z ps=>cases r<;>first | exact MQ (op:=.ayS false s l z ps) j e h | exact gt (op:=.ayS true s l z ps) j e h
 case alloc cs=>exact MQ (op:=.alloc cs) j e h
 case ayV s b z l c=>exact MQ (op:=.ayV s b z l c) j e h
 case azV sh=>exact MQ (op:=.azV sh) j e h
 case store n x y=>exact uy (op:=.store n x y) j e h
 case append s b x y=>exact uy (op:=.append s b x y) j e h
 case azF sh x y z=>exact uy (op:=.azF sh x y z) j e h
 case insert sh x y z=>exact uy (op:=.insert sh x y z) j e h
 all_goals exact gt j e h
theorem NL {K1 K2:PF→PH→Prop} (l:∀ F F' H,F.le F'→K1 F H→K2 F' H):∀ {ops:List aU} {F F':PF} {H:PH},F.le F'→wpOps C ops K1 F H→wpOps C ops K2 F' H
 | [],_,_,_,j,h=>l _ _ _ j h
 | ⟨d,op,none⟩::u,_,_,_,j,h=>aiL (fun _ _ _ a b=>NL l a b) j h
 | ⟨d,op,some (t,w)⟩::u,F,F',H,j,h=>by
  rw[Kd] at h ⊢;unfold wC at h;split at h
  ·rename_i b hb;rw[j t _ hb];unfold wC;simp only;split at h
   ·rename_i e; rw[if_pos e]; exact aiL (fun _ _ _ a b=>NL l a b) j h
   ·rename_i e; rw[if_neg e]; exact NL l (PF.tL j d _) h
  ·rename_i hb;rw[j t _ hb];exact NL l (PF.tL j d _) h
  ·exact h.elim
theorem Fp {Hs:PH} {S:Spec} {st:Bool} {op:POp} {K:PV→PH→Prop} (e:F.le F') (h:(op.kind F).run C Hs S st K H):(op.kind F').run C Hs S st K H:=by
 have new:∀ op:POp,(Kind.new (cW op F)).run C Hs S st K H→(Kind.new (cW op F')).run C Hs S st K H:=fun op h=>by obtain⟨N,x,j,w⟩:=h;exact⟨N,x,vm e j,w⟩
 have calm:∀ op:POp,(Kind.calm (aO op F)).run C Hs S st K H→(Kind.calm (aO op F')).run C Hs S st K H:=fun op h=>by obtain⟨v,j,w⟩:=h;exact⟨v,Fw e j,w⟩
 have M:∀ op:POp,(Kind.write fun H K=>bX op F H K).run C Hs S st K H→(Kind.write fun H K=>bX op F' H K).run C Hs S st K H:=fun op h=>Jd (op:=op) e (show bX op F H (fun r H'=>Hs.le H'∧K r H') from h);cases op
 case call n a =>obtain⟨vs,D,R,j,w⟩:=h;exact⟨vs,D,R,DO e j,w⟩
 case azQ x a =>
  unfold POp.kind at h ⊢;simp only at h ⊢;cases A:x.ev F with
  | none=>rw[A] at h; exact h.elim
  | some u =>
   rw[A] at h;rw[cQ e A];cases u<;>simp only at h ⊢<;>first | exact h | skip
   obtain⟨vs,D,R,j,w⟩:=h;exact⟨vs,D,R,Cf e _ j,w⟩
 case insert sh x k v =>
  obtain⟨o,J,I,u,g,j,w⟩:=h;refine⟨o,J,I,u,g,?_,w⟩;cases A:x.ev F with
  | none=>simp[A] at j
  | some a =>
   cases B:k.ev F with
   | none=>simp[A,B] at j
   | some b =>
    cases E:v.ev F with
    | none=>simp[A,B,E] at j
    | some c=>rw[cQ e A,cQ e B,cQ e E]; rw[A,B,E] at j; exact j
 case box r x=>cases r<;>first | exact new (.box false x) h | exact calm (.box true x) h
 case ayS r s l z ps=>cases r<;>first | exact new (.ayS false s l z ps) h | exact calm (.ayS true s l z ps) h
 case alloc cs=>exact new (.alloc cs) h
 case ayV s b z l c=>exact new (.ayV s b z l c) h
 case azV sh=>exact new (.azV sh) h
 case store n x y=>exact M (.store n x y) h
 case append s b x y=>exact M (.append s b x y) h
 case azF sh x y z=>exact M (.azF sh x y z) h
 all_goals exact calm _ h
theorem adI {Hs:PH} {S:Spec} {st:Bool} {i:aU} {K:PV→PH→Prop} (j:F.le F') (h:(i.kind F).run C Hs S st K H):(i.kind F').run C Hs S st K H:=by
 unfold aU.kind at h ⊢;split
 ·rename_i l;rw[l] at h;exact Fp j h
 ·rename_i t u l;rw[l] at h;simp only at h;split at h
  ·rename_i b hb;rw[j t _ hb];simp only;split at h
   ·rename_i e; rw[if_pos e]; exact Fp j h
   ·rename_i e; rw[if_neg e]; exact h
  ·rename_i hb;rw[j t _ hb];exact h
  ·exact h.elim
theorem aaN {Hs:PH} {S:Spec} {K1 K2:PF→PH→Prop} (u:∀ F F' H,F.le F'→K1 F H→K2 F' H):∀ {ops:List (aU × Bool)} {F F':PF} {H:PH},Hs.le H→F.le F'→wpD C Hs S ops K1 F H→wpD C Hs S ops K2 F' H
 | [],_,_,_,_,e,h=>u _ _ _ e h
 | i::j,F,F',H,y,e,h=>by have w:(i.1.kind F).run C Hs S i.2 (fun v H'=>wpD C Hs S j K1 (F.put i.1.dst v) H') H:=h;exact adI e (Kind.rI (rE _ _) (fun v H' l x=>aaN u l (PF.tL e _ v) x) y w)
class Up (K:cK):Prop where
 up:∀ {e:kC} {F F':PF} {H:PH},F.le F'→K e F H→K e F' H
theorem vQ:∀ (c:aE) {K1 K2:cK} (_:∀ e F F' H,F.le F'→K1 e F H→K2 e F' H) {F F':PF} {H:PH},F.le F'→c.wp C K1 F H→c.wp C K2 F' H
 | .skip,_,_,u,_,_,_,l,h=>u _ _ _ _ l h
 | .region ops,_,_,u,_,_,_,l,h=>NL (u .normal) l h
 | .draw ops,_,_,u,_,_,_,l,⟨Hs,S,y,J⟩=>⟨Hs,S,y,aaN (u .normal) y l J⟩
 | .seq a b,K1,K2,u,_,_,_,l,h=>vQ a (K1:=mE C (b.wp C) K1) (K2:=mE C (b.wp C) K2) (fun e F F' H x w=>by
   cases e with
   | normal=>exact vQ b u x w
   | exit id=>exact u (.exit id) _ _ _ x w
   | ret=>exact u .ret _ _ _ x w) l h
 | .cond c a b,K1,K2,u,F,F',H,l,h=>by
  rw[ahW] at h ⊢;unfold PK at h;split at h
  ·rename_i t U;rw[cQ l U];unfold PK;simp only;split at h
   ·rename_i e; rw[if_pos e]; exact vQ a u l h
   ·rename_i e; rw[if_neg e]; exact vQ b u l h
  ·exact h.elim
 | .block id c,K1,K2,u,_,_,_,l,h=>vQ c (K1:=fZ id K1) (K2:=fZ id K2) (fun e F F' H x w=>by
   cases e with
   | normal=>exact u .normal _ _ _ x w
   | exit j =>
    rw[BD] at w ⊢;split at w
    ·rename_i e; rw[if_pos e]; exact u .normal _ _ _ x w
    ·rename_i e; rw[if_neg e]; exact u (.exit j) _ _ _ x w
   | ret=>exact u .ret _ _ _ x w) l h
 | .loop c,K1,K2,u,F,F',H,l,⟨α,E,Hs,I,m,M,F1,K,y,J,N,O,h5⟩=>by
  obtain⟨A,k1,k2⟩:=y.up l;refine⟨α,E,Hs,I,m,M,A,K,k1,J,PF.le_trans N k2,O,fun a R=>?_⟩;refine vQ c (K1:=jU E Hs I m (m a) K1) (K2:=jU E Hs I m (m a) K2) (fun e F F' H x w=>?_) PF.le_refl (h5 a R);cases e with
  | normal =>obtain⟨b,F2,H2,X,Y,Z,z4,z5⟩:=w;obtain⟨B,V,W⟩:=X.up x;exact⟨b,B,H2,V,Y,Z,PF.le_trans z4 W,z5⟩
  | exit id=>exact u (.exit id) _ _ _ x w
  | ret=>exact u .ret _ _ _ x w
 | .exit id,_,_,u,_,_,_,l,h=>u (.exit id) _ _ _ l h
 | .ret,_,_,u,_,_,_,l,h=>u .ret _ _ _ l h
instance Up.seq {K:cK} [Up K] (b:aE):Up (mE C (b.wp C) K) where
 up {e} {F} {F'} {H} hl hh:=by
  cases e with
  | normal=>exact vQ b (fun e F F' H a h=>Up.up a h) hl hh
  | exit id=>exact Up.up (K:=K) (e:=.exit id) hl hh
  | ret=>exact Up.up (K:=K) (e:=.ret) hl hh
instance Up.block {K:cK} [Up K] (id:Nat):Up (fZ id K) where
 up {e} {F} {F'} {H} hl hh:=by
  cases e with
  | normal=>exact Up.up (K:=K) (e:=.normal) hl hh
  | exit j =>
   rw[BD] at hh ⊢;split at hh
   ·rename_i e; rw[if_pos e]; exact Up.up (K:=K) (e:=.normal) hl hh
   ·rename_i e; rw[if_neg e]; exact Up.up (K:=K) (e:=.exit j) hl hh
  | ret=>exact Up.up (K:=K) (e:=.ret) hl hh
instance Up.loop {K:cK} [Up K] {α:Type} (l:α→PF) (Hs:α→PH) (u:α→Prop) (m:α→Nat) (n:Nat):Up (jU l Hs u m n K) where
 up {e} {F} {F'} {H} hl hh:=by
  cases e with
  | normal =>obtain⟨b,J,H2,y,A,B,E,I⟩:=hh;obtain⟨j,w,x⟩:=y.up hl;exact⟨b,j,H2,w,A,B,PF.le_trans E x,I⟩
  | exit id=>exact Up.up (K:=K) (e:=.exit id) hl hh
  | ret=>exact Up.up (K:=K) (e:=.ret) hl hh
theorem aqC {H:PH} (e:F.le F') {x:dT} {v:PV} (h:x.ev F H=some v):x.ev F' H=some v:=by
 cases x with
 | tmp t=>exact e t v h
 | cell t n =>
  cases n<;>simp only[dT.ev] at h ⊢<;>(cases j:F t with
   | none=>simp[j] at h
   | some a=>rw[e t a j,← j]; exact h)
theorem j7 {H:PH} (e:F.le F'):∀ {xs:List dT} {vs:List PV},dT.evs F H xs=some vs→dT.evs F' H xs=some vs
 | [],_,h=>h
 | x::xs,vs,h=>by
  rw[kP] at h ⊢;cases l:x.ev F H with
  | none=>simp[l] at h
  | some v =>
   cases j:dT.evs F H xs with
   | none=>simp[j] at h
   | some ws =>rw[l,j] at h;rw[aqC e l,j7 e j];exact h
instance Up.ret (res:List dT) (R:PV→PH→Prop):Up (aT res R) where
 up {e} {F} {F'} {H} hl hh:=by
  cases e with
  | exit id=>exact hh
  | normal=>obtain⟨vs,j,l⟩:=hh; exact⟨vs,j7 hl j,l⟩
  | ret=>obtain⟨vs,j,l⟩:=hh; exact⟨vs,j7 hl j,l⟩
end
open Go Go.RowKit
def asT (R:PH→Prop):cK
 | .normal,_,H=>R H
 | _,_,_=>False
theorem bK.setObj {E:Env} {H:PH} {w:World} {l:Nat} {o:Obj} {x:bF} (hW:bK E H w) (u:w.heap[l]?=some o) (F:∀ c t b,o≠.cells c t b) (I:KD E w l x):bK E (H.set l x) w:=by
 refine⟨fun b cs h=>?_,fun q y h=>?_,hW.s⟩
 ·obtain⟨B,ty,A,j⟩:=hW.g b cs h;have:¬ b=l:=fun e=>by rw[e,u] at j; exact F _ _ _ (by injection j)
  refine⟨fun y J=>B y ?_,ty,A,j⟩
  rwa [aQ,if_neg this] at J
 ·rw[aQ] at h;split at h
  ·rename_i e;cases h;subst e;exact⟨(aDZ.1 u).1,I⟩
  ·exact hW.h q y h
section
variable {C:Ctx} {T:Tbl}
end
open Go Go.RowKit
abbrev aiH (D:Nat):Deferred:={ target:=.collected D,args:=#[] }
theorem bK.alloc {E:Env} {H:PH} {w:World} (hW:bK E H w) (o:Obj):bK E H (w.alloc o):=by
 have e:(w.alloc o).heap.size=w.heap.size+1:=World.size_alloc w o;have hb:∀ b,b<w.heap.size→(w.alloc o).heap[b]?=w.heap[b]?:=fun b hlt=>Below.heap_alloc w o b hlt;exact hW.same Om (fun b hlt _=>hb b hlt) (fun q x hq=>hb q (hW.h q x hq).1)
section
variable {C:Ctx} {T:Tbl} {ds:List Deferred} {fu:Nat}
def aoM (C:Ctx) (name:Nat) (cs:List PV) (F:PF) (H:PH) (n t:Nat) (e j:Code) (u:PH→Prop):Prop :=
 ∀ l,H l=none→aG C name (aqR l::cs) (H.set l (.loop F n t e j)) (fun _ H'=>∃ H2,u H2∧H2.le H'∧H2 l=none∧H' l=some (.loop F n t e j))
end
open Go Go.RowKit
inductive YF where
 | seq (a:aE) (t:YF)
 | range (g:aN) (n t:Nat) (asg bdy:Code) (pas pbd rest:aE)
def YF.wp (C : Ctx) : YF → cK → PF → PH → Prop
  | .seq a t, K, F, H => a.wp C (mE C (t.wp C) K) F H
  | .range g n t asg bdy pas pbd rest, K, F, H => ∃ name cs KH, g.ev F = some (.fn name cs) ∧
      ((∀ (l : Nat) (x : PV) (J : PH) (J' : PH → Prop), J l = none → pas.wp C (mE C (pbd.wp C) (asT J')) (F.set t x) J →
        Wj C l [x] (J.set l (.loop F n t asg bdy)) (fun r H' => r = .bool true ∧ ∃ H2, J' H2 ∧ H2 l = none ∧ H' = H2.set l (.loop F n t asg bdy))) → aoM C name cs F H n t asg bdy KH) ∧
      ∀ H2, KH H2 → rest.wp C K F H2
namespace Tbl
variable (T:Tbl)
def tail (n:Nat):Code→Option YF
 | .seq (.rangeFunc g ps e j) l=>match T.opd g,T.code n e,T.code n j,T.code n l with
  | some y,some u,some w,some A=>match ps.toList with
   | [t]=>if t<n then some (.range y n t e j u w A) else none
   | _=>none
  | _,_,_,_=>none
 | .seq (.seq a (.block _ (.rangeFunc g ps e j))) l=>match T.code n a,T.opd g,T.code n e,T.code n j,T.code n l with
  | some x,some y,some u,some w,some A=>match ps.toList with
   | [t]=>if t<n then some (.seq x (.range y n t e j u w A)) else none
   | _=>none
  | _,_,_,_,_=>none
 | .seq a b=>match T.code n a,tail n b with
  | some x,some B=>some (.seq x B)
  | _,_=>none
 | _=>none
end Tbl
section
variable {C:Ctx} {T:Tbl} {fu:Nat}
def vg (n:Nat) (E:Env) (H:PH) (w:World) (K:cK) (Q:Exit→Act→World→Prop):Prop :=
 ∀ ds,(ds=[]∨∃ D,ds=[aiH D])→∀ e l u H' x j,dX ds n l u x→bK l H' j→Ext E H w l H' j→(∀ D,ds=[aiH D]→j.heap[D]?=some (.deferred (some []))∧H' D=none∧w.heap.size≤D)→K e u H'→Q e.out x j
theorem vg.after {n:Nat} {E u:Env} {H H':PH} {w y:World} {K:cK} {Q:Exit→Act→World→Prop} (h:vg n E H w K Q) (x:Ext E H w u H' y):vg n u H' y K Q :=
 fun ds j e A B H2 a2 M F hW J l I=>h ds j e A B H2 a2 M F hW (x.trans J) (fun D hD=>⟨(l D hD).1,(l D hD).2.1,aCX x.size (l D hD).2.2⟩) I
end
structure Wf where
 nparams:Nat
 ntmps:Nat
 body:YF
 res:List dT
namespace Tbl
variable (T:Tbl)
end Tbl
end Go.PM
namespace Go.PM
open Go
def ahZ (C:Ctx) (k:Nat) (e:Wf):Prop:=∀ (args:List PV) (H:PH) (R:PV→PH→Prop),args.length≤e.ntmps→e.body.wp C (aT e.res R) (PF.args args) H→aG C k args H R
theorem ahZ.go {C:Ctx} {k:Nat} {e:Wf} (r:ahZ C k e) {args:List PV} {H:PH} {R:PV→PH→Prop} (h:e.body.wp C (aT e.res R) (PF.args args) H) (j:Nat.ble args.length e.ntmps=true):aG C k args H R:=r args H R (Nat.le_of_ble_eq_true j) h
end Go.PM
