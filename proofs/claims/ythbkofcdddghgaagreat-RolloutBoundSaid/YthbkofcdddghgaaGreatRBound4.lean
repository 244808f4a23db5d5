/-
  Texts of ours, joined: RwW2 MdCode R1Code R1W1 R1W2 R1W3 R1W4 MkPlain MdPlain Mv1 MdP2 MkCode MkW1 MkW2 MkW3 MkW4 MkW5 MkW6 MkW7 MkW8 MkW9 MkW10 MkW11 MkW12 MkW13 MkW14 MkW15 MkW16 MdW1 MdW2 MdW3 MdW4 MdW5 MdW6 MdW7 MdW8 Mv. No condition.
-/
import Derived.Test.YthbkofcdddghgaaGreatRBound1
import Derived.Test.YthbkofcdddghgaaGreatRBound2
import Derived.Test.YthbkofcdddghgaaGreatRBound3
import Derived.Lib.ItoaNum
import Derived.Shelf.Sort.Plain
import Derived.Shelf.Slices.CompactI
import Derived.Shelf.Slices.In.SortNone
set_option linter.unusedSimpArgs false
set_option linter.unusedVariables false
open Nat renaming reduceEqDiff → γ, reduceAdd → δ, reduceSub → ε, reduceMul → ζ, reduceLT → η, reduceLeDiff → θ, reduceBEq → τ
open Int renaming reduceLT → ι, reduceLE → κ, reduceEq → μ, reduceToNat → ν, reduceAdd → ξ, reduceNeg → ο, reduceBEq → ρ, reduceBNe → σ
open List renaming reduceReplicate → υ
open List renaming length_map → bJC, range → bJD, replicate → bJE, getElem_mem → bJG, length_append → bJL, getElem?_eq_getElem → bJN, mem_cons → bJR, take_of_length_le → bJS, length_singleton → bJT, length_take → bJU, all_eq_true → bJW, getD_eq_getElem?_getD → bJX, take_length → bKB, append_assoc → bKD, mem_range → bKE, drop_zero → bKG, getElem?_map → bKH, mem_map → bKI, getElem?_eq_none → bKM, getElem?_eq_some_iff → bKN, mem_append → bKO, mem_singleton → bKP, length_cons → bKQ, not_mem_nil → bKS, drop_eq_getElem_cons → bKY, getElem?_append_right → bKZ, length_set → bLA, map_cons → bLB, take_succ_eq_append_getElem → bLC, append_nil → bLD, length_drop → bLF, Sublist → bLJ, getElem_map → bLK, getElem_of_mem → bLL, getElem?_append_left → bLN, length_nil → bLO, nodup_append → bLP, contains_iff_mem → bLR, map_append → bLS, mem_of_getElem? → bLT, take_append_drop → bLU, nil_append → bMC, length_replicate → bMG, getElem?_take → bMJ, drop_of_length_le → bMO, getElem?_drop → bMP, eq_nil_of_length_eq_zero → bMQ, set_append_right → bMR, getElem?_take_of_lt → bMS
open Nat renaming le_refl → bJF, gcd → bJH, zero_le → bJO, mul_add → bJP, lt_or_ge → bJV, mul_assoc → bJY, mul_comm → bKA, zero_add → bKC, add_mul → bKF, mul_le_mul_right → bKJ, mod_eq_of_lt → bKK, mod_lt → bKR, add_zero → bKU, pow_succ → bKV, min_eq_left → bLG, mul_le_mul_left → bLH, pos_of_ne_zero → bLI, add_assoc → bLM, pow_pos → bLV, div_lt_iff_lt_mul → bLX, sub_self → bLY, succ_mul → bLZ, eq_zero_or_pos → bMD, div_add_mod → bMK, div_eq_of_lt → bML
open Bool renaming false_and → bJI, not_true → bJK, true_and → bJM, not_false → bJQ, and_eq_true → bJZ, and_false → bKT, and_true → bLE, and_assoc → bMB, false_eq_true → bME
open Option renaming map_eq_some_iff → bJJ, map_some → bKL, getD_some → bLQ, some → bLW, bind_eq_some_iff → bMH, bind_some → bMM
open Array renaming replicate → bKW, length_toList → bMA, getElem?_eq_getElem → bMI, getElem?_eq_some_iff → bMN
open Int renaming tdiv → bKX, toNat_natCast → bMF
namespace Go.PM
open Go Go.Na
def aHD (a b:Int):PV:=.tup [.int .i64 a,.int .i64 b]
theorem bbK {C:Ctx} (f:aJ) (now:List (List Int)) (hl:iV now) (r:Int) (hc:aD C 262 [.agg f.cells,lay now,.int .i64 r] .nil (aE (.int .i64 (pB f now r)))) :
  BD.wp C (aT PT.res (aE (aHD (sS f now r) (pB f now r)))) (PF.args [.agg f.cells,lay now,.int .i64 r]) .nil:=by
 have hB:sS f now r=if pB f now r=0 then fO f now r now.length else 0:=rfl
 simp only[go_sem,γ,δ,ε,ζ,η,θ,ι,κ,μ,ν,ξ,ο,ρ,σ,τ,υ,reduceIte,reduceCtorEq,BD,asC,asD,PT]
 refine aA hc Ev ?_
 by_cases c:pB f now r≠0
 ·rw[if_neg c] at hB
  simp only[go_sem,γ,δ,ε,ζ,η,θ,ι,κ,μ,ν,ξ,ο,ρ,σ,τ,υ,reduceIte,reduceCtorEq,PU,cS c,asE]
  refine aM (.inr rfl) Ev ?_
  rw[hB]; rfl
 have c:pB f now r=0:=Decidable.not_not.1 c
 obtain⟨hu,ha⟩:=amV c
 rw[if_pos c] at hB
 rw[hB,c]
 have hV:=VF.of (nC hu).1
 have hd:=hV.small.bGY
 have hrows:=hl.rows
 have hvl:=(nC hu).2.1
 obtain⟨-,-,h0,h4⟩:=nC hu
 simp only[go_sem,γ,δ,ε,ζ,η,θ,ι,κ,μ,ν,ξ,ο,ρ,σ,τ,υ,reduceIte,reduceCtorEq,PU,cG (show (0:Int)=0 from rfl),asF,asG,bJC]
 refine wp_loop (α:=Nat) (fun v=>((((((PF.nil.set 2 (.int .i64 r)).set 3 (.bG f.cells)).set 9 (.int .i64 (fO f now r v))).set 29 (lay now)).set 30 (.int .i64 (now.length:Nat))).set 31 (.int .i64 v))) (fun _=>.nil) (fun v=>v≤now.length) (fun v=>now.length-v) 0 (bJO _) ?_ PH.nil_le ?_
 ·have:fO f now r 0=if (1:Int)<(f.bGY.length:Nat) then 1 else ((f.bGY.length:Nat):Int):=by
   unfold fO; split<;>omega
  (repeat' (first|exact PF.nil_le|refine PF.aI ?_ ?_))<;>first|(simp only[go_sem,γ,δ,ε,ζ,η,θ,ι,κ,μ,ν,ξ,ο,ρ,σ,τ,υ,reduceIte,reduceCtorEq,this,bJC]<;>rfl)|rfl
 intro v hv
 simp only[go_sem,γ,δ,ε,ζ,η,θ,ι,κ,μ,ν,ξ,ο,ρ,σ,τ,υ,reduceIte,reduceCtorEq,afT,asH]
 by_cases hlt:v<now.length
 ·have bHF:(v:Int)<(now.length:Nat):=by omega
  have hat:(now.map fun r=>[ints r])[v]?=some [ints now[v]]:=by simp[hlt]
  have hgd:now.getD v []=now[v]:=by simp[bJX,hlt]
  have hv2:v<f.bHA.length:=by omega
  obtain⟨hp,he⟩:=rW hV hv2
  have u:=uO hu hlt
  have hskip:=RU (f:=f) (now:=now) (r:=r) (v:=v)
  have hgo:=alM (f:=f) (now:=now) (r:=r) (v:=v)
  have hpos:=axL hu ha hlt
  have hbl:=DK hu ha (v+1) hlt
  have hbl0:=DK hu ha v Om
  have hbn:=oU f now r v
  have hbn1:=oU f now r (v+1)
  rw[hgd] at u hskip hgo hpos
  generalize now[v]=row at *
  simp only[go_sem,γ,δ,ε,ζ,η,θ,ι,κ,μ,ν,ξ,ο,ρ,σ,τ,υ,reduceIte,reduceCtorEq,bHF,asI,hat,asJ]
  refine aQ fun o ho=>?_
  simp only[go_sem,γ,δ,ε,ζ,η,θ,ι,κ,μ,ν,ξ,ο,ρ,σ,τ,υ,reduceIte,reduceCtorEq,asK,afU,bJC]
  refine wp_loop (α:=Nat) (fun k=>((((((((((((PF.nil.set 2 (.int .i64 r)).set 3 (.bG f.cells)).set 9 (.int .i64 (fO f now r v))).set 10 (.int .i64 v)).set 12 (.map o)).set 13 (.int .i64 ((bP (row.take k)).length:Nat))).set 29 (lay now)).set 30 (.int .i64 (now.length:Nat))).set 31 (.int .i64 v)).set 37 (ints row)).set 38 (.int .i64 (row.length:Nat))).set 39 (.int .i64 k)))
   (fun k=>PH.nil.set o (.map (false,[.int .i64]) (yE (bP (row.take k))))) (fun k=>k≤row.length) (fun k=>row.length-k) 0 (bJO _) (by (repeat' (first|exact PF.nil_le|refine PF.aI ?_ ?_))<;>first|(simp only[go_sem,γ,δ,ε,ζ,η,θ,ι,κ,μ,ν,ξ,ο,ρ,σ,τ,υ,reduceIte,reduceCtorEq,List.take_zero,bJC]<;>rfl)|rfl) ?_ ?_
  ·rw[List.take_zero,show bP []=[] from rfl,a8Q]; exact PH.le_refl
  intro k hk
  have hkl:=abK (row.take k)
  rw[bJU] at hkl
  simp only[go_sem,γ,δ,ε,ζ,η,θ,ι,κ,μ,ν,ξ,ο,ρ,σ,τ,υ,reduceIte,reduceCtorEq,afS,afV]
  by_cases klt:k<row.length
  ·have klt':(k:Int)<(row.length:Nat):=by omega
   have hra:(row.map fun n=>[PV.int .i64 n])[k]?=some [.int .i64 row[k]]:=by simp[klt]
   have hs:=aLL klt
   by_cases cg:0≤row[k]
   ·rw[if_pos cg] at hs
    have hlen:(bP (row.take (k+1))).length=(bP (row.take k)).length+1:=by rw[hs,bJL]; rfl
    simp only[go_sem,γ,δ,ε,ζ,η,θ,ι,κ,μ,ν,ξ,ο,ρ,σ,τ,υ,reduceIte,reduceCtorEq,klt',IQ,hra,IR,show row[k]≥0 from cg,afW,a8R,afX,dE (Om:(bP (row.take k)).length<9223372036854775807),IS,wZz k]
    refine aK (k+1) klt Om (by (repeat' (first|exact PF.nil_le|refine PF.aI ?_ ?_))<;>first|(simp only[go_sem,γ,δ,ε,ζ,η,θ,ι,κ,μ,ν,ξ,ο,ρ,σ,τ,υ,reduceIte,reduceCtorEq,hlen]<;>rfl)|rfl) ?_
    rw[hs]
    exact PH.aI PH.nil_le Sq
   ·rw[if_neg cg,bLD] at hs
    simp only[go_sem,γ,δ,ε,ζ,η,θ,ι,κ,μ,ν,ξ,ο,ρ,σ,τ,υ,reduceIte,reduceCtorEq,klt',IQ,hra,IR,show ¬ row[k]≥0 from cg,IS,wZz k]
    refine aK (k+1) klt Om (by (repeat' (first|exact PF.nil_le|refine PF.aI ?_ ?_))<;>first|(simp only[go_sem,γ,δ,ε,ζ,η,θ,ι,κ,μ,ν,ξ,ο,ρ,σ,τ,υ,reduceIte,reduceCtorEq,hs]<;>rfl)|rfl) ?_
    rw[hs]
    exact PH.le_refl
  ·have klt':¬ (k:Int)<(row.length:Nat):=by omega
   have:k=row.length:=by omega
   subst this
   rw[bKB] at hkl
   have hfull:=aeU (bP row)
   have hzero:=a1N (bP row)
   have hule:=XJ (bP row)
   simp only[go_sem,γ,δ,ε,ζ,η,θ,ι,κ,μ,ν,ξ,ο,ρ,σ,τ,υ,reduceIte,reduceCtorEq,klt',bKB,afY,a0Y,afZ]
   by_cases cz:(jN (bP row)).length=0
   ·have hn:¬ ((bP row).Nodup∧bP row≠[]):=fun h=>h.2 (hzero.1 cz)
    simp only[go_sem,γ,δ,ε,ζ,η,θ,ι,κ,μ,ν,ξ,ο,ρ,σ,τ,υ,reduceIte,reduceCtorEq,bW (show (((jN (bP row)).length:Nat):Int)=0 by omega),uR,wZz v]
    exact aK (v+1) hlt Om (by (repeat' (first|exact PF.nil_le|refine PF.aI ?_ ?_))<;>first|(simp only[go_sem,γ,δ,ε,ζ,η,θ,ι,κ,μ,ν,ξ,ο,ρ,σ,τ,υ,reduceIte,reduceCtorEq,hskip hn]<;>rfl)|rfl) PH.nil_le
   ·simp only[go_sem,γ,δ,ε,ζ,η,θ,ι,κ,μ,ν,ξ,ο,ρ,σ,τ,υ,reduceIte,reduceCtorEq,bF (show (((jN (bP row)).length:Nat):Int)≠0 by omega)]
    by_cases cn:(jN (bP row)).length=(bP row).length
    ·have hy:(bP row).Nodup∧bP row≠[]:=⟨hfull.1 cn,fun e=>cz (hzero.2 e)⟩
     have h1:=hpos hy
     have h2:=hgo hy rfl rfl
     obtain⟨u1,-,u3,u4,u5,u6⟩:=u
     rw[cn]
     have w1:IntKind.i64.wrap ((((bP row).length:Nat):Int)-(dM f v).k)=(((bP row).length:Nat):Int)-(dM f v).k:=wrap_i64 Om Om
     have w2:IntKind.i64.wrap ((((bP row).length:Nat):Int)-(dM f v).k-r)=(((bP row).length:Nat):Int)-(dM f v).k-r:=wrap_i64 Om Om
     simp only[go_sem,γ,δ,ε,ζ,η,θ,ι,κ,μ,ν,ξ,ο,ρ,σ,τ,υ,reduceIte,reduceCtorEq,cG (show (((bP row).length:Nat):Int)=((bP row).length:Nat) from rfl)]
     refine bU .nil eD PH.nil_le ?_
     simp only[go_sem,γ,δ,ε,ζ,η,θ,ι,κ,μ,ν,ξ,ο,ρ,σ,τ,υ,reduceIte,reduceCtorEq,agA,uQ hv2,hV.adC hv2,oP hp,he,w1,w2]
     have he10:(((bP row).length:Nat):Int)-(dM f v).k-r≤10:=by omega
     generalize (((bP row).length:Nat):Int)-(dM f v).k-r=e at *
     have w3:IntKind.i64.wrap ((((bP row).length:Nat):Int)+e)=(((bP row).length:Nat):Int)+e:=wrap_i64 Om Om
     have w4:IntKind.i64.wrap ((((bP row).length:Nat):Int)+e-1)=(((bP row).length:Nat):Int)+e-1:=wrap_i64 Om Om
     have he0:¬ e=0:=by omega
     have hq0:0≤bKX ((((bP row).length:Nat):Int)+e-1) e:=Int.tdiv_nonneg Om Om
     have w5:IntKind.i64.wrap (bKX ((((bP row).length:Nat):Int)+e-1) e)=bKX ((((bP row).length:Nat):Int)+e-1) e:=wrap_i64 Om (by
      have:bKX ((((bP row).length:Nat):Int)+e-1) e≤100:=by
       rw[h2] at hbl; split at hbl<;>omega
      omega)
     simp only[go_sem,γ,δ,ε,ζ,η,θ,ι,κ,μ,ν,ξ,ο,ρ,σ,τ,υ,reduceIte,reduceCtorEq,agB,w3,w4,he0,w5,uR,wZz v]
     exact aK (v+1) hlt Om (by (repeat' (first|exact PF.nil_le|refine PF.aI ?_ ?_))<;>first|(simp only[go_sem,γ,δ,ε,ζ,η,θ,ι,κ,μ,ν,ξ,ο,ρ,σ,τ,υ,reduceIte,reduceCtorEq,h2]<;>rfl)|rfl) PH.nil_le
    ·have hn:¬ ((bP row).Nodup∧bP row≠[]):=fun h=>cn (hfull.2 h.1)
     simp only[go_sem,γ,δ,ε,ζ,η,θ,ι,κ,μ,ν,ξ,ο,ρ,σ,τ,υ,reduceIte,reduceCtorEq,cS (show (((jN (bP row)).length:Nat):Int)≠((bP row).length:Nat) by omega),uR,wZz v]
     exact aK (v+1) hlt Om (by (repeat' (first|exact PF.nil_le|refine PF.aI ?_ ?_))<;>first|(simp only[go_sem,γ,δ,ε,ζ,η,θ,ι,κ,μ,ν,ξ,ο,ρ,σ,τ,υ,reduceIte,reduceCtorEq,hskip hn]<;>rfl)|rfl) PH.nil_le
 ·have bHF:¬ (v:Int)<(now.length:Nat):=by omega
  have:v=now.length:=by omega
  subst this
  simp only[go_sem,γ,δ,ε,ζ,η,θ,ι,κ,μ,ν,ξ,ο,ρ,σ,τ,υ,reduceIte,reduceCtorEq,bHF,agC]
  refine aM (.inr rfl) Ev ?_
  rfl
def axD:Rg:=[iI 4 0]
def axE:Rg:=[iM 7 0,iA 8 (.bHN (Tm 7)),iF 9 1 8,iL 10 9,iC 11 .rem 10 3,iM 5 11]
def axF:Rd:=[(iM 12 0,false),(iA 13 (.bHN (Tm 12)),false),(iF 14 1 13,false),(iL 15 14,false),(iM 16 0,false),(iA 17 (.bHN (Tm 16)),false),(iF 18 0 17,false),(iL 19 18,false),(iN 20 19,false),(iB 21 .lss 15 20,false)]
def axG:Rd:=[(iM 22 0,false),(iA 23 (.bHN (Tm 22)),false),(iF 24 0 23,false),(iL 25 24,false),(iM 26 0,false),(iA 27 (.bHN (Tm 26)),false),(iF 28 1 27,false),(iL 29 28,false),(iX 30 1 25 29,false),(iL 31 30,false),(iM 5 31,false)]
def UW:Rg:=[iM 32 0,iA 33 (.bHN (Tm 32)),iF 34 1 33,iL 35 34,iC 36 .add 35 1,iA 37 (.bHN (Tm 32)),iF 38 1 37,iS 1 38 36]
def UX:Rg:=[iM 39 1,iC 40 .lss 39 1]
def UY:Rg:=[iI 4 0]
def UZ:Rg:=[iM 41 5,iM 42 1,iB 43 .rem 41 42,iM 6 43]
def VA:Rg:=[iM 44 6,iC 45 .lss 44 0]
def VB:Rg:=[iM 46 6,iM 47 1,iB 48 .add 46 47,iM 4 48]
def KR:Rg:=[iM 49 6,iM 4 49]
def EQ:aC:=(sq axD (sq axE (.seq (dq axF (.cond (Tm 21) (.draw axG) .skip)) (sq UW (.seq (sq UX (.cond (Tm 40) (sq UY .ret) .skip)) (sq UZ (.seq (sq VA (.cond (Tm 45) (sq VB .ret) .skip)) (sq KR .ret))))))))
def bdQ:List Nat:=[]
def EP:aV:=⟨2,50,EQ,[.tmp 4]⟩
def awQ:Rg:=[iA 4 (.alloc [(.bool false),.aB,.aB])]
def awR:Rg:=[iM 8 0,iM 9 1,iK2 10 50 8 9,iM 7 10,iE 11 7 0,iE 12 7 1,iA 5 (.alloc [(.bool false),.aB,.aB]),iS 3 5 11,iM 6 12]
def awS:Rg:=[iO 13 3 5,iS 3 4 13]
def EL:aC:=(sq awQ (sq awR (sq awS .ret)))
def bdH:List Nat:=[]
def ZR:aV:=⟨2,14,EL,[.cell 4 (some 3)]⟩
def axB:Rg:=[iA 4 (.mv (.const (.str [])))]
def axC:Rg:=[iM 5 0,iM 6 1,iC 7 .quo 6 26,iC 8 .rem 7 26,iA 9 (.bin .add (Ci 97) (Tm 8)),iA 10 (.conv .u8 (Tm 9)),iM 11 1,iC 12 .rem 11 26,iA 13 (.bin .add (Ci 97) (Tm 12)),iA 14 (.conv .u8 (Tm 13)),iA 15 (.bHE true 1 3 [(.int .u8 0)] [(0,(Tm 5)),(1,(Tm 10)),(2,(Tm 14))]),iA 16 (.bHO (Tm 15)),iM 4 16]
def EO:aC:=(sq axB (sq axC .ret))
def bdO:List Nat:=[15]
def aaD:aV:=⟨2,17,EO,[.tmp 4]⟩
def aNG:Rg:=[iI 8 0]
def aNH:Rg:=[iM 10 0,iA 11 (.bHN (Tm 10)),iF 12 3 11,iL 13 12,iN 14 13,iM 9 14]
def aNI:Rd:=[(iM 15 0,true),(iM 16 0,true),(iA 17 (.bHN (Tm 16)),true),(iF 18 3 17,true),(iL 19 18,true),(iM 20 9,false),(iA 21 (.call 242 [(.const (.int .u8 110)),(Tm 20)]),true),(iM 22 1,true),(iM 23 2,true),(iM 24 3,true),(iA 25 (.call 241 [(Ci 0),(Ci 1)]),true),(iA 26 (.build [(.str []),(.int .i64 0),(.int .i64 0),(.int .i64 0),(.bool false),.aB,.aB] [(0,1,(Tm 21)),(1,1,(Tm 22)),(2,1,(Tm 23)),(3,1,(Tm 24)),(4,3,(Tm 25))]),false),(iA 27 (.bHE true 7 1 [(.str []),(.int .i64 0),(.int .i64 0),(.int .i64 0),(.bool false),.aB,.aB] [(0,(Tm 26))]),false),(iA 28 (.append 7 96 (Tm 19) (Tm 27)),true),(iA 29 (.bHN (Tm 15)),false),(iF 30 3 29,false)]
def aNJ:Rd:=[(iS 1 30 28,true)]
def aNK:Rg:=[iM 31 9,iM 8 31]
def KO:aC:=(sq aNG (sq aNH (.seq (dq aNI (.draw aNJ)) (sq aNK .ret))))
def bkO:List Nat:=[27]
def awO:aV:=⟨4,32,KO,[.tmp 8]⟩
def alY:Rg:=[iA 4 (.alloc [(.int .i64 0),.aB,.aB,.aB,.aB,.aB,.aB])]
def alZ:Rg:=[iM 20 0,iA 21 (.call 240 [(Tm 20),(Ci 2)]),iA 22 (.bin .add (Ci 1) (Tm 21)),iA 23 (.build [(.int .i64 0),.aB,.aB,.aB,.aB,.aB,.aB] [(0,1,(Tm 22))]),iA 5 (.alloc [(.int .i64 0),.aB,.aB,.aB,.aB,.aB,.aB]),iS 7 5 23]
def amA:Rg:=[iA 24 (.call 241 [(Ci 1),(Ci 1)]),iA 25 (.bHE true 3 1 [(.bool false),.aB,.aB] [(0,(Tm 24))]),iA 26 (.call 241 [(Ci 0),(Ci 1)]),iA 27 (.bHE true 3 1 [(.bool false),.aB,.aB] [(0,(Tm 26))]),iA 28 (.bHE true 1 1 [.aB] [(0,(Tm 27))]),iM 29 0,iA 30 (.call 240 [(Tm 29),(Ci 100)]),iA 31 (.bin .add (Ci 100) (Tm 30)),iA 32 (.call 241 [(Ci 1),(Tm 31)]),iA 33 (.bHE true 3 1 [(.bool false),.aB,.aB] [(0,(Tm 32))]),iA 34 (.build [(.str []),.aB,.aB,.aB] [(0,1,(.const (.str [100,105,115,107]))),(1,1,(Tm 25)),(2,1,(Tm 28)),(3,1,(Tm 33))]),iA 35 (.bHE true 4 1 [(.str []),.aB,.aB,.aB] [(0,(Tm 34))]),iF 36 1 5,iS 1 36 35]
def amB:Rg:=[iM 37 0,iA 38 (.call 240 [(Tm 37),(Ci 2)]),iA 39 (.bin .add (Ci 3) (Tm 38)),iM 40 0,iA 41 (.call 240 [(Tm 40),(Ci 9)]),iA 42 (.bin .add (Ci 8) (Tm 41)),iA 43 (.build [(.str []),(.int .i64 0),(.int .i64 0),(.int .i64 0)] [(0,1,(.const (.str [98,105,103]))),(1,1,(Tm 39)),(2,1,(Tm 42)),(3,1,(Ci 0))]),iM 44 0,iA 45 (.call 240 [(Tm 44),(Ci 3)]),iA 46 (.bin .add (Ci 1) (Tm 45)),iM 47 0,iA 48 (.call 240 [(Tm 47),(Ci 9)]),iA 49 (.bin .add (Ci 4) (Tm 48)),iA 50 (.build [(.str []),(.int .i64 0),(.int .i64 0),(.int .i64 0)] [(0,1,(.const (.str [111,108,100]))),(1,1,(Tm 46)),(2,1,(Tm 49)),(3,1,(Ci 0))]),iA 51 (.bHE true 4 2 [(.str []),(.int .i64 0),(.int .i64 0),(.int .i64 0)] [(0,(Tm 43)),(1,(Tm 50))]),iF 52 2 5,iS 1 52 51]
def amC:Rg:=[iA 53 (.call 241 [(Ci 0),(Ci 1)]),iA 54 (.build [(.str []),(.int .i64 0),(.int .i64 0),(.int .i64 0),(.bool false),.aB,.aB] [(2,1,(Ci (-1))),(4,3,(Tm 53))]),iA 55 (.bHE false 7 1 [(.str []),(.int .i64 0),(.int .i64 0),(.int .i64 0),(.bool false),.aB,.aB] [(0,(Tm 54))]),iF 56 3 5,iS 1 56 55]
def amD:Rg:=[iM 57 0,iA 58 (.call 240 [(Tm 57),(Ci 3)]),iA 59 (.bin .add (Ci 3) (Tm 58)),iM 6 59]
def amE:Rg:=[iI 7 0,iI 8 0,iI 9 0]
def amF:Rg:=[iI 10 0]
def amG:Rg:=[iM 60 10,iM 61 6,iB 62 .lss 60 61]
def amH:Rg:=[iM 65 10,iC 66 .eql 65 0,iM 67 66,gM 68 0 67 false,iG 69 (.call 240 [(Tm 68),(Ci 4)]) 67 false,gC 70 .eql 69 0 67 false,iQ 71 67 70]
def DX:Rg:=[iM 72 0,iA 73 (.call 240 [(Tm 72),(Ci 17)]),iA 74 (.bin .add (Ci 16) (Tm 73)),iA 75 (.call 243 [(Tm 5),(Ci 1),(Ci 0),(Tm 74)]),iM 7 75]
def DY:Rg:=[iM 76 7,iM 77 0,iA 78 (.call 240 [(Tm 77),(Ci 17)]),iA 79 (.bin .add (Ci 16) (Tm 78)),iA 80 (.call 243 [(Tm 5),(Ci 2),(Tm 76),(Tm 79)]),iM 8 80]
def DZ:Rg:=[iM 81 8,iM 82 0,iA 83 (.call 240 [(Tm 82),(Ci 9)]),iA 84 (.bin .add (Ci 8) (Tm 83)),iA 85 (.call 243 [(Tm 5),(Ci 3),(Tm 81),(Tm 84)]),iM 9 85]
def YW:Rg:=[iM 86 0,iA 87 (.call 240 [(Tm 86),(Ci 2)]),iC 88 .eql 87 0]
def YX:Rg:=[iM 89 8,iM 90 0,iA 91 (.call 240 [(Tm 90),(Ci 9)]),iA 92 (.bin .add (Ci 8) (Tm 91)),iA 93 (.call 243 [(Tm 5),(Ci 3),(Tm 89),(Tm 92)]),iM 9 93]
def tW:Rg:=[iM 94 9,iM 95 0,iA 96 (.call 240 [(Tm 95),(Ci 9)]),iA 97 (.bin .add (Ci 8) (Tm 96)),iA 98 (.call 243 [(Tm 5),(Ci 4),(Tm 94),(Tm 97)]),iM 11 98]
def tX:Rg:=[iM 99 0,iA 100 (.call 240 [(Tm 99),(Ci 2)]),iA 101 (.bin .add (Ci 1) (Tm 100)),iM 12 101]
def YY:Rg:=[iM 102 12,iC 103 .gtr 102 0,iM 104 103,gF 105 4 5 104 true,gL 106 105 104 true,gN 107 106 104 true,gC 108 .lss 107 9 104 true,iP 109 104 108]
def YZ:Rg:=[iI 13 0]
def ZA:Rg:=[iM 112 0,iA 113 (.call 240 [(Tm 112),(Ci 4)]),iC 114 .eql 113 0]
def ZB:Rg:=[iI 13 1]
def EA:Rd:=[(iF 115 4 5,true),(iL 116 115,true),(iF 117 4 5,false),(iL 118 117,false),(iN 119 118,false),(iA 120 (.call 242 [(.const (.int .u8 100)),(Tm 119)]),true),(iM 121 13,true),(iM 122 11,true),(iA 123 (.build [(.str []),(.int .i64 0),(.int .i64 0)] [(0,1,(Tm 120)),(1,1,(Tm 121)),(2,1,(Tm 122))]),false),(iA 124 (.bHE true 3 1 [(.str []),(.int .i64 0),(.int .i64 0)] [(0,(Tm 123))]),false),(iA 125 (.append 3 32 (Tm 116) (Tm 124)),true),(iF 126 4 5,false)]
def EB:Rd:=[(iS 1 126 125,true)]
def EC:Rg:=[iM 110 12,iC 111 .sub 110 1,iM 12 111]
def qL:aC:=(.seq (sq YY (.cond (Tm 109) .skip (.exit 2))) (.seq (.block 3 (sq YZ (.seq (sq ZA (.cond (Tm 114) (.region ZB) .skip)) (dq EA (.draw EB))))) (.region EC)))
def ED:Rg:=[iM 63 10,iC 64 .add 63 1,iM 10 64]
def DS:aC:=(.seq (sq amG (.cond (Tm 62) .skip (.exit 0))) (.seq (.block 1 (.seq (sq amH (.cond (Tm 71) (sq DX (sq DY (.region DZ))) (sq YW (.cond (Tm 88) (.region YX) .skip)))) (sq tW (sq tX (.block 2 (.loop qL)))))) (.region ED)))
def ZC:Rg:=[iM 127 0,iA 128 (.call 240 [(Tm 127),(Ci 2)]),iA 129 (.bin .add (Ci 1) (Tm 128)),iM 14 129]
def ZD:Rg:=[iM 130 14,iC 131 .gtr 130 0]
def EE:Rg:=[iM 134 0,iA 135 (.call 240 [(Tm 134),(Ci 2)]),iA 136 (.bin .add (Ci 1) (Tm 135)),iM 15 136]
def EF:Rg:=[iM 137 0,iA 138 (.call 240 [(Tm 137),(Ci 3)]),iM 16 138]
def EG:Rg:=[iM 139 14,iA 140 (.call 242 [(.const (.int .u8 112)),(Tm 139)]),iM 141 15,iM 142 16,iM 143 15,iM 144 0,iM 145 16,iC 146 .add 145 1,iK2 147 240 144 146,iB 148 .add 143 147,iA 149 (.bHE true 1 2 [(.int .i64 0)] [(0,(Ci 0)),(1,(Ci 1))]),iA 150 (.call 241 [(Ci 1),(Ci 1000)]),iA 151 (.call 241 [(Ci 30),(Ci 1)]),iA 152 (.build [(.str []),(.int .i64 0),(.int .i64 0),(.int .i64 0),(.int .i64 0),(.int .i64 0),(.int .i64 0),(.int .i64 0),(.int .i64 0),.aB,.aB,(.bool false),.aB,.aB,(.bool false),.aB,.aB] [(0,1,(Tm 140)),(1,1,(Tm 141)),(2,1,(Tm 142)),(3,1,(Tm 148)),(9,1,(Tm 149)),(11,3,(Tm 150)),(14,3,(Tm 151))]),iA 17 (.alloc [(.str []),(.int .i64 0),(.int .i64 0),(.int .i64 0),(.int .i64 0),(.int .i64 0),(.int .i64 0),(.int .i64 0),(.int .i64 0),.aB,.aB,(.bool false),.aB,.aB,(.bool false),.aB,.aB]),iS 17 17 152]
def EH:Rg:=[iM 153 0,iA 154 (.call 240 [(Tm 153),(Ci 4)]),iF 155 4 17,iA 156 (.idxA 5 1 (Tm 155) (Ci 3)),iS 1 156 154]
def EI:Rg:=[iM 157 0,iA 158 (.call 240 [(Tm 157),(Ci 3)]),iF 159 4 17,iA 160 (.idxA 5 1 (Tm 159) (Ci 4)),iS 1 160 158]
def EJ:Rg:=[iM 161 0,iA 162 (.call 240 [(Tm 161),(Ci 5)]),iC 163 .eql 162 0]
def EK:Rg:=[iA 164 (.bHE true 1 1 [(.int .i64 0)] [(0,(Ci 0))]),iF 165 9 17,iS 1 165 164]
def ZE:Rg:=[iI 18 0]
def ZF:Rg:=[iM 166 18,iM 167 16,iA 168 (.bHZ true (Tm 167) (Ci 1)),iB 169 .lss 166 168]
def ZG:Rd:=[(iF 172 10 17,true),(iL 173 172,true),(iA 174 (.call 241 [(Ci 1),(Ci 2)]),true),(iA 175 (.bHE true 3 1 [(.bool false),.aB,.aB] [(0,(Tm 174))]),false),(iA 176 (.append 3 56 (Tm 173) (Tm 175)),true),(iF 177 10 17,false)]
def ZH:Rd:=[(iS 1 177 176,true)]
def ZI:Rg:=[iM 170 18,iC 171 .add 170 1,iM 18 171]
def DT:aC:=(.seq (sq ZF (.cond (Tm 169) .skip (.exit 6))) (.seq (.block 7 (dq ZG (.draw ZH))) (.region ZI)))
def ZJ:Rg:=[iF 178 5 5,iL 179 178,iO 180 17 17,iA 181 (.bHE true 17 1 [(.str []),(.int .i64 0),(.int .i64 0),(.int .i64 0),(.int .i64 0),(.int .i64 0),(.int .i64 0),(.int .i64 0),(.int .i64 0),.aB,.aB,(.bool false),.aB,.aB,(.bool false),.aB,.aB] [(0,(Tm 180))]),iA 182 (.append 17 240 (Tm 179) (Tm 181)),iF 183 5 5,iS 1 183 182]
def ZK:Rg:=[iM 132 14,iC 133 .sub 132 1,iM 14 133]
def DU:aC:=(.seq (sq ZD (.cond (Tm 131) .skip (.exit 4))) (.seq (.block 5 (sq EE (sq EF (sq EG (sq EH (sq EI (.seq (sq EJ (.cond (Tm 163) (.region EK) .skip)) (.seq (sq ZE (.block 6 (.loop DT))) (.region ZJ))))))))) (.region ZK)))
def ZL:Rg:=[iM 184 0,iM 185 1,iK2 186 240 184 185,iA 187 (.bin .add (Ci 1) (Tm 186)),iM 19 187]
def ZM:Rg:=[iM 188 19,iC 189 .gtr 188 0]
def ZN:Rd:=[(iF 192 6 5,true),(iL 193 192,true),(iM 194 19,false),(iA 195 (.call 242 [(.const (.int .u8 118)),(Tm 194)]),true),(iM 196 0,true),(iF 197 5 5,true),(iL 198 197,true),(iN 199 198,true),(iK2 200 240 196 199,true),(iA 201 (.build [(.str []),(.int .i64 0)] [(0,1,(Tm 195)),(1,1,(Tm 200))]),false),(iA 202 (.bHE true 2 1 [(.str []),(.int .i64 0)] [(0,(Tm 201))]),false),(iA 203 (.append 2 24 (Tm 193) (Tm 202)),true),(iF 204 6 5,false)]
def ZO:Rd:=[(iS 1 204 203,true)]
def ZP:Rg:=[iM 190 19,iC 191 .sub 190 1,iM 19 191]
def DW:aC:=(.seq (sq ZM (.cond (Tm 189) .skip (.exit 8))) (.seq (.block 9 (dq ZN (.draw ZO))) (.region ZP)))
def ZQ:Rg:=[iO 205 7 5,iS 7 4 205]
def yX:aC:=(sq alY (sq alZ (sq amA (sq amB (sq amC (sq amD (sq amE (.seq (sq amF (.block 0 (.loop DS))) (.seq (sq ZC (.block 4 (.loop DU))) (.seq (sq ZL (.block 8 (.loop DW))) (sq ZQ .ret)))))))))))
def a4R:List Nat:=[25,27,28,33,35,51,124,149,164,175,181,202]
def KP:aV:=⟨2,206,yX,[.cell 4 (some 7)]⟩
def ZS:Rg:=[iA 3 (.box true (Tm 1)),iZ 4]
def ZT:Rg:=[iZ 5]
def ZU:Rg:=[iI 6 0]
def ZV:Rg:=[iM 11 6,iF 12 6 3,iL 13 12,iN 14 13,iB 15 .lss 11 14]
def ZW:Rg:=[iA 18 (.bHE false 1 0 [(.int .i64 0)] []),iM 7 18]
def ZX:Rg:=[iI 8 0]
def ZY:Rg:=[iM 19 8,iO 20 7 3,iM 21 6,iK2 22 245 20 21,iB 23 .lss 19 22]
def ZZ:Rg:=[iM 26 0,iF 27 4 3,iL 28 27,iN 29 28,iK2 30 240 26 29,iM 9 30]
def aaA:Rg:=[iI 10 0]
def aaB:Rg:=[iM 31 10,iF 32 4 3,iL 33 32,iN 34 33,iB 35 .lss 31 34,iM 36 35,gM 37 7 36 true,gM 38 9 36 true,gK2 39 247 37 38 36 true,iP 40 36 39]
def SA:Rg:=[iM 43 9,iC 44 .add 43 1,iF 45 4 3,iL 46 45,iN 47 46,iB 48 .rem 44 47,iM 9 48]
def SB:Rg:=[iM 41 10,iC 42 .add 41 1,iM 10 42]
def yY:aC:=(.seq (sq aaB (.cond (Tm 40) .skip (.exit 4))) (.seq (.block 5 (.region SA)) (.region SB)))
def SC:Rg:=[iM 49 7,iM 50 9,iK2 51 247 49 50,iM 52 51,gM 53 0 52 false,iG 54 (.call 240 [(Tm 53),(Ci 12)]) 52 false,gC 55 .eql 54 0 52 false,iQ 56 52 55]
def zA:Rg:=[iI 9 (-1)]
def zB:Rg:=[iM 57 7,iM 58 9,iA 59 (.bHE true 1 1 [(.int .i64 0)] [(0,(Tm 58))]),iA 60 (.append 1 8 (Tm 57) (Tm 59)),iM 7 60]
def zC:Rg:=[iM 24 8,iC 25 .add 24 1,iM 8 25]
def yZ:aC:=(.seq (sq ZY (.cond (Tm 23) .skip (.exit 2))) (.seq (.block 3 (sq ZZ (.seq (sq aaA (.block 4 (.loop yY))) (.seq (sq SC (.cond (Tm 56) (.region zA) .skip)) (.region zB))))) (.region zC)))
def SD:Rg:=[iM 61 5,iM 62 7,iA 63 (.bHE true 1 1 [.aB] [(0,(Tm 62))]),iA 64 (.append 1 24 (Tm 61) (Tm 63)),iM 5 64]
def SE:Rg:=[iM 16 6,iC 17 .add 16 1,iM 6 17]
def RZ:aC:=(.seq (sq ZV (.cond (Tm 15) .skip (.exit 0))) (.seq (.block 1 (sq ZW (.seq (sq ZX (.block 2 (.loop yZ))) (.region SD)))) (.region SE)))
def SF:Rg:=[iM 65 5,iM 4 65]
def vZ:aC:=(sq ZS (sq ZT (.seq (sq ZU (.block 0 (.loop RZ))) (sq SF .ret))))
def aXY:List Nat:=[3,59,63]
def BW:aV:=⟨2,66,vZ,[.tmp 4]⟩
def amJ:Rg:=[iA 3 (.box true (Tm 1)),iZ 4]
def amK:Rg:=[iO 7 7 3,iA 8 (.call 85 [(Tm 7),(.const .aB)]),iM 5 8]
def amL:Rg:=[iI 6 0]
def amM:Rg:=[iM 9 6,iM 10 5,iN 11 10,iB 12 .lss 9 11]
def amN:Rg:=[iM 15 0,iA 16 (.call 240 [(Tm 15),(Ci 9)])]
def xN:Rg:=[iC 18 .eql 16 0,iM 17 18]
def amO:Rg:=[iM 19 5,iM 20 6,iX 21 1 19 20,⟨none,.store 1 (Tm 21) (Ci 0),none⟩]
def KU:Rg:=[iC 23 .eql 16 1,iM 22 23]
def amP:Rg:=[iM 24 5,iM 25 6,iM 26 0,iM 27 5,iM 28 6,iX 29 1 27 28,iL 30 29,iC 31 .add 30 1,iK2 32 240 26 31,iX 33 1 24 25,iS 1 33 32]
def KV:Rg:=[iM 13 6,iC 14 .add 13 1,iM 6 14]
def aaE:aC:=(.seq (sq amM (.cond (Tm 12) .skip (.exit 0))) (.seq (.block 1 (sq amN (.block 2 (sq xN (.cond (Tm 17) (.region amO) (sq KU (.cond (Tm 22) (.region amP) .skip))))))) (.region KV)))
def ES:Rg:=[iM 34 5,iM 4 34]
def zD:aC:=(sq amJ (sq amK (.seq (sq amL (.block 0 (.loop aaE))) (sq ES .ret))))
def a4U:List Nat:=[3]
def KT:aV:=⟨2,35,zD,[.tmp 4]⟩
def awW:Rg:=[iA 2 (.alloc [(.int .i64 0),.aB,.aB,.aB,.aB,.aB,.aB,.aB,.aB]),iA 3 (.mv (.const (.lit (.pointer none))))]
def awX:Rg:=[iM 7 0,iA 8 (.build [.aB,(.int .i64 0)] [(0,1,(Tm 7))]),iA 9 (.box false (Tm 8)),iM 4 9]
def awY:Rg:=[iM 10 4,iA 11 (.call 244 [(Tm 10),(Ci 3)]),iA 5 (.alloc [(.int .i64 0),.aB,.aB,.aB,.aB,.aB,.aB]),iS 7 5 11]
def awZ:Rg:=[iM 12 4,iO 13 7 5,iK2 14 246 12 13,iM 6 14]
def axA:Rd:=[(iO 15 7 5,true),(iM 16 6,true),(iM 17 4,false),(iO 18 7 5,false),(iK2 19 248 17 18,true),(iA 20 (.build [(.int .i64 0),.aB,.aB,.aB,.aB,.aB,.aB,.aB,.aB] [(0,7,(Tm 15)),(7,1,(Tm 16)),(8,1,(Tm 19))]),false),(iM 21 4,true),(iS 9 2 20,true),(iM 3 21,false)]
def EN:aC:=(sq awW (sq awX (sq awY (sq awZ (dq axA .ret)))))
def bdM:List Nat:=[]
def aaC:aV:=⟨1,22,EN,[.cell 2 (some 9),.tmp 3]⟩
def aIS:Rg:=[iZ 2]
def aIT:Rg:=[iM 4 0,iN 5 4,iM 3 5]
def aIU:Rg:=[iM 6 3,iC 7 .gtr 6 0,iM 8 7,gM 9 0 8 true,gM 10 3 8 true,gC 11 .sub 10 1 8 true,iG 12 (.bHT 1 (Tm 9) (Tm 11)) 8 true,gL 13 12 8 true,iG 14 (.bin .eql (Tm 13) (.const (.int .u32 0))) 8 true,iP 15 8 14]
def aIV:Rg:=[iM 16 3,iC 17 .sub 16 1,iM 3 17]
def aIR:aC:=(.seq (sq aIU (.cond (Tm 15) .skip (.exit 0))) (.block 1 (.region aIV)))
def XN:Rg:=[iM 18 0,iM 19 3,iA 20 (.slice 1 (Tm 18) none (some (Tm 19)) none),iA 21 (.append 1 4 (.const .aB) (Tm 20)),iM 2 21]
def IG:aC:=(sq aIS (sq aIT (.seq (.block 0 (.loop aIR)) (sq XN .ret))))
def biE:List Nat:=[]
def afA:aV:=⟨1,22,IG,[.tmp 2]⟩
def aIG:Rg:=[iZ 2]
def aIH:Rg:=[iM 3 0,iA 4 (.conv .u32 (Tm 3)),iM 5 0,iA 6 (.bin .shr (Tm 5) (.const (.int .u64 32))),iA 7 (.conv .u32 (Tm 6)),iA 8 (.bHE true 1 2 [(.int .u32 0)] [(0,(Tm 4)),(1,(Tm 7))]),iK 9 38 8,iM 2 9]
def HX:aC:=(sq aIG (sq aIH .ret))
def bhW:List Nat:=[8]
def aeR:aV:=⟨1,10,HX,[.tmp 2]⟩
def aqO:Rg:=[iT 2 false]
def aqP:Rg:=[iM 3 0,iK 4 38 3,iN 5 4,iC 6 .gtr 5 512,iM 2 6]
def AS:aC:=(sq aqO (sq aqP .ret))
def a9E:List Nat:=[]
def OV:aV:=⟨1,7,AS,[.tmp 2]⟩
def aTV:Rg:=[iI 4 0]
def aTW:Rg:=[iM 6 0,iK 7 38 6,iM 8 1,iK 9 38 8,iM 0 7,iM 1 9]
def aTX:Rg:=[iM 10 0,iN 11 10,iM 12 1,iN 13 12,iB 14 .neq 11 13]
def aTY:Rg:=[iM 15 0,iN 16 15,iM 17 1,iN 18 17,iB 19 .lss 16 18]
def aTZ:Rg:=[iI 4 (-1)]
def aUA:Rg:=[iI 4 1]
def aUB:Rg:=[iM 20 0,iN 21 20,iC 22 .sub 21 1,iM 5 22]
def aUC:Rg:=[iM 23 5,iC 24 .geq 23 0]
def aUD:Rd:=[(iM 27 0,false),(iM 28 5,false),(iX 29 1 27 28,false),(iL 30 29,false),(iM 31 1,false),(iM 32 5,false),(iX 33 1 31 32,false),(iL 34 33,false),(iB 35 .lss 30 34,false)]
def aUE:Rg:=[iI 4 (-1)]
def aHS:Rd:=[(iM 36 0,false),(iM 37 5,false),(iX 38 1 36 37,false),(iL 39 38,false),(iM 40 1,false),(iM 41 5,false),(iX 42 1 40 41,false),(iL 43 42,false),(iB 44 .gtr 39 43,false)]
def aHT:Rg:=[iI 4 1]
def aHU:Rg:=[iM 25 5,iC 26 .sub 25 1,iM 5 26]
def aHR:aC:=(.seq (sq aUC (.cond (Tm 24) .skip (.exit 0))) (.seq (.block 1 (.seq (dq aUD (.cond (Tm 35) (sq aUE .ret) .skip)) (dq aHS (.cond (Tm 44) (sq aHT .ret) .skip)))) (.region aHU)))
def aHV:Rg:=[iI 4 0]
def OQ:aC:=(sq aTV (sq aTW (.seq (sq aTX (.cond (Tm 14) (.seq (sq aTY (.cond (Tm 19) (sq aTZ .ret) .skip)) (sq aUA .ret)) .skip)) (.seq (sq aUB (.block 0 (.loop aHR))) (sq aHV .ret)))))
def boN:List Nat:=[]
def aHQ:aV:=⟨2,45,OQ,[.tmp 4]⟩
def aeJ:Rg:=[iZ 4,iZ 5]
def aeK:Rg:=[iM 20 0,iM 21 1,iK2 22 32 20 21,iC 23 .lss 22 0]
def aeL:Rg:=[iM 24 0,iK 25 38 24,iZ 4,iM 5 25]
def aeM:Rg:=[iM 26 1,iN 27 26,iC 28 .eql 27 1]
def HT:Rg:=[iM 29 0,iN 30 29,iA 31 (.bHI 1 4 [(.int .u32 0)] (Tm 30) (Tm 30)),iM 6 31]
def HU:Rg:=[iA 7 (.mv (.const (.int .u64 0)))]
def HV:Rg:=[iM 32 0,iN 33 32,iC 34 .sub 33 1,iM 8 34]
def aeN:Rg:=[iM 35 8,iC 36 .geq 35 0]
def aeO:Rg:=[iM 39 7,iA 40 (.bin .shl (Tm 39) (.const (.int .u64 32))),iM 41 0,iM 42 8,iX 43 1 41 42,iL 44 43,iA 45 (.conv .u64 (Tm 44)),iB 46 .or 40 45,iM 9 46]
def aeP:Rg:=[iM 47 6,iM 48 8,iM 49 9,iM 50 1,iA 51 (.bHT 1 (Tm 50) (Ci 0)),iL 52 51,iA 53 (.conv .u64 (Tm 52)),iB 54 .quo 49 53,iA 55 (.conv .u32 (Tm 54)),iX 56 1 47 48,iS 1 56 55]
def TQ:Rg:=[iM 57 9,iM 58 1,iA 59 (.bHT 1 (Tm 58) (Ci 0)),iL 60 59,iA 61 (.conv .u64 (Tm 60)),iB 62 .rem 57 61,iM 7 62]
def TR:Rg:=[iM 37 8,iC 38 .sub 37 1,iM 8 38]
def AG:aC:=(.seq (sq aeN (.cond (Tm 36) .skip (.exit 0))) (.seq (.block 1 (sq aeO (sq aeP (.region TQ)))) (.region TR)))
def AH:Rg:=[iM 63 6,iK 64 38 63,iM 65 7,iK 66 35 65,iM 4 64,iM 5 66]
def TS:Rg:=[iM 67 1,iN 68 67,iA 69 (.bin .mul (Ci 32) (Tm 68)),iM 70 1,iK 71 31 70,iB 72 .sub 69 71,iM 10 72]
def TT:Rg:=[iM 73 0,iM 74 10,iK2 75 45 73 74,iA 76 (.bHE true 1 2 [(.int .u32 0)] [(0,(.const (.int .u32 0))),(1,(.const (.int .u32 0)))]),iA 77 (.append 1 4 (Tm 75) (Tm 76)),iM 78 1,iM 79 10,iK2 80 45 78 79,iM 11 77,iM 12 80]
def AI:Rg:=[iM 81 11,iM 82 0,iM 83 10,iK2 84 45 82 83,iN 85 84,iC 86 .add 85 1,iA 87 (.slice 1 (Tm 81) none (some (Tm 86)) none),iM 11 87]
def AJ:Rg:=[iM 88 12,iM 89 12,iN 90 89,iC 91 .sub 90 1,iX 92 1 88 91,iL 93 92,iA 94 (.conv .u64 (Tm 93)),iM 13 94]
def AK:Rg:=[iM 95 11,iN 96 95,iM 97 12,iN 98 97,iB 99 .sub 96 98,iA 100 (.bHI 1 4 [(.int .u32 0)] (Tm 99) (Tm 99)),iM 14 100]
def AL:Rg:=[iM 101 14,iN 102 101,iC 103 .sub 102 1,iM 15 103]
def TU:Rg:=[iM 104 15,iC 105 .geq 104 0]
def TV:Rd:=[(iM 108 11,false),(iM 109 15,false),(iM 110 12,false),(iN 111 110,false),(iB 112 .add 109 111,false),(iX 113 1 108 112,false),(iL 114 113,false),(iA 115 (.conv .u64 (Tm 114)),false),(iA 116 (.bin .shl (Tm 115) (.const (.int .u64 32))),false),(iM 117 11,false),(iM 118 15,false),(iM 119 12,false),(iN 120 119,false),(iB 121 .add 118 120,false),(iC 122 .sub 121 1,false),(iX 123 1 117 122,false),(iL 124 123,false),(iA 125 (.conv .u64 (Tm 124)),false),(iB 126 .or 116 125,false),(iM 16 126,false)]
def TW:Rg:=[iM 127 16,iM 128 13,iB 129 .quo 127 128,iM 17 129]
def TX:Rg:=[iM 130 17,iA 131 (.bin .gtr (Tm 130) (.const (.int .u64 4294967295)))]
def TY:Rg:=[iA 17 (.mv (.const (.int .u64 4294967295)))]
def TZ:Rd:=[(iM 132 12,true),(iM 133 17,false),(iK 134 35 133,true),(iK2 135 44 132 134,true),(iM 136 11,true),(iM 137 15,true),(iM 138 15,true),(iM 139 12,true),(iN 140 139,true),(iB 141 .add 138 140,true),(iC 142 .add 141 1,true),(iA 143 (.slice 1 (Tm 136) (some (Tm 137)) (some (Tm 142)) none),true),(iA 144 (.append 1 4 (.const .aB) (Tm 143)),true),(iK2 145 32 135 144,true),(iC 146 .gtr 145 0,false)]
def UA:Rg:=[iM 147 17,iA 148 (.bin .sub (Tm 147) (.const (.int .u64 1))),iM 17 148]
def sK:aC:=(.seq (dq TZ (.cond (Tm 146) .skip (.exit 4))) (.block 5 (.region UA)))
def AM:Rg:=[iM 149 11,iM 150 15,iM 151 15,iM 152 12,iN 153 152,iB 154 .add 151 153,iC 155 .add 154 1,iA 156 (.slice 1 (Tm 149) (some (Tm 150)) (some (Tm 155)) none),iA 157 (.append 1 4 (.const .aB) (Tm 156)),iM 158 12,iM 159 17,iK 160 35 159,iK2 161 44 158 160,iK2 162 42 157 161,iM 18 162]
def AN:Rg:=[iI 19 0]
def UB:Rg:=[iM 163 19,iM 164 12,iN 165 164,iB 166 .leq 163 165]
def UC:Rg:=[iM 169 11,iM 170 15,iM 171 19,iB 172 .add 170 171,iX 173 1 169 172,⟨none,.store 1 (Tm 173) (.const (.int .u32 0)),none⟩]
def UD:Rg:=[iM 174 19,iM 175 18,iN 176 175,iB 177 .lss 174 176]
def UE:Rg:=[iM 178 11,iM 179 15,iM 180 19,iB 181 .add 179 180,iM 182 18,iM 183 19,iX 184 1 182 183,iL 185 184,iX 186 1 178 181,iS 1 186 185]
def AO:Rg:=[iM 167 19,iC 168 .add 167 1,iM 19 168]
def sL:aC:=(.seq (sq UB (.cond (Tm 166) .skip (.exit 6))) (.seq (.block 7 (sq UC (sq UD (.cond (Tm 177) (.region UE) .skip)))) (.region AO)))
def AP:Rg:=[iM 187 14,iM 188 15,iM 189 17,iA 190 (.conv .u32 (Tm 189)),iX 191 1 187 188,iS 1 191 190]
def AQ:Rg:=[iM 106 15,iC 107 .sub 106 1,iM 15 107]
def sM:aC:=(.seq (sq TU (.cond (Tm 105) .skip (.exit 2))) (.seq (.block 3 (dq TV (sq TW (.seq (sq TX (.cond (Tm 131) (.region TY) .skip)) (.seq (.block 4 (.loop sK)) (sq AM (.seq (sq AN (.block 6 (.loop sL))) (.region AP)))))))) (.region AQ)))
def AR:Rg:=[iM 192 14,iK 193 38 192,iM 194 11,iK 195 38 194,iM 196 10,iK2 197 40 195 196,iM 4 193,iM 5 197]
def wX:aC:=(sq aeJ (.seq (sq aeK (.cond (Tm 23) (sq aeL .ret) .skip)) (.seq (sq aeM (.cond (Tm 28) (sq HT (sq HU (.seq (sq HV (.block 0 (.loop AG))) (sq AH .ret)))) .skip)) (sq TS (sq TT (sq AI (sq AJ (sq AK (.seq (sq AL (.block 2 (.loop sM))) (sq AR .ret))))))))))
def a1L:List Nat:=[76]
def CV:aV:=⟨2,198,wX,[.tmp 4,.tmp 5]⟩
def aUF:Rg:=[iZ 4,iZ 5,iI 6 0]
def aUG:Rg:=[iM 9 0,iK 10 41 9,iM 11 10,gM 12 1 11 false,gK 13 41 12 11 false,iQ 14 11 13]
def akX:Rg:=[iZ 4,iZ 5,iI 6 2]
def aUH:Rg:=[iM 15 1,iK 16 38 15,iN 17 16,iC 18 .eql 17 0]
def aUI:Rg:=[iZ 4,iZ 5,iI 6 3]
def aUJ:Rg:=[iM 20 0,iK 21 38 20,iM 22 1,iK 23 38 22,iK2 24 39 21 23,iM 19 24,iE 25 19 0,iE 26 19 1,iM 7 25,iM 8 26]
def aUK:Rg:=[iM 27 7,iM 28 8,iM 4 27,iM 5 28,iI 6 0]
def OR:aC:=(sq aUF (.seq (sq aUG (.cond (Tm 14) (sq akX .ret) .skip)) (.seq (sq aUH (.cond (Tm 18) (sq aUI .ret) .skip)) (sq aUJ (sq aUK .ret)))))
def boP:List Nat:=[]
def udiv:aV:=⟨2,29,OR,[.tmp 4,.tmp 5,.tmp 6]⟩
def aUM:Rg:=[iZ 4,iI 5 0]
def aUN:Rg:=[iM 10 0,iK 11 41 10,iM 12 11,gM 13 1 12 false,gK 14 41 13 12 false,iQ 15 12 14]
def akY:Rg:=[iZ 4,iI 5 2]
def aUO:Rg:=[iM 16 0,iK 17 38 16,iM 18 1,iK 19 38 18,iM 6 17,iM 7 19]
def aUP:Rg:=[iM 20 7,iN 21 20,iC 22 .gtr 21 0]
def aUQ:Rg:=[iM 24 6,iM 25 7,iK2 26 39 24 25,iM 23 26,iE 27 23 0,iE 28 23 1,iM 8 27,iM 9 28]
def aUR:Rg:=[iM 29 7,iM 30 9,iM 6 29,iM 7 30]
def aUL:aC:=(.seq (sq aUP (.cond (Tm 22) .skip (.exit 0))) (.block 1 (sq aUQ (.region aUR))))
def aUS:Rg:=[iM 31 6,iM 4 31,iI 5 0]
def OU:aC:=(sq aUM (.seq (sq aUN (.cond (Tm 15) (sq akY .ret) .skip)) (sq aUO (.seq (.block 0 (.loop aUL)) (sq aUS .ret)))))
def boR:List Nat:=[]
def aIF:aV:=⟨2,32,OU,[.tmp 4,.tmp 5]⟩
def afE:Rg:=[iA 6 (.alloc [(.bool false),.aB,.aB])]
def afF:Rg:=[iM 9 1,iK 10 38 9,iM 11 2,iK 12 38 11,iM 1 10,iM 2 12]
def afG:Rg:=[iM 13 1,iN 14 13,iC 15 .eql 14 0]
def afH:Rg:=[iA 16 (.bHE true 1 1 [(.int .u32 0)] [(0,(.const (.int .u32 1)))]),iA 17 (.build [(.bool false),.aB,.aB] [(2,1,(Tm 16))]),iS 3 6 17]
def afI:Rg:=[iM 19 1,iM 20 2,iK2 21 34 19 20,iM 18 21,iE 22 18 0,iE 23 18 1,iM 7 22,iM 8 23]
def afJ:Rg:=[iM 24 7,iN 25 24,iC 26 .gtr 25 1,iM 27 26,gM 28 7 27 false,iG 29 (.bHT 1 (Tm 28) (Ci 0)) 27 false,gL 30 29 27 false,iG 31 (.bin .gtr (Tm 30) (.const (.int .u32 1))) 27 false,iQ 32 27 31]
def IJ:Rg:=[iM 34 1,iM 35 7,iK2 36 33 34 35,iM 33 36,iE 37 33 0,iE 38 33 1,iE 39 33 2,iM 1 37]
def IK:Rg:=[iM 41 2,iM 42 7,iK2 43 33 41 42,iM 40 43,iE 44 40 0,iE 45 40 1,iE 46 40 2,iM 2 44]
def uP:Rg:=[iM 47 0,iM 48 1,iM 49 2,iA 50 (.build [(.bool false),.aB,.aB] [(0,1,(Tm 47)),(1,1,(Tm 48)),(2,1,(Tm 49))]),iS 3 6 50]
def xA:aC:=(sq afE (sq afF (.seq (sq afG (.cond (Tm 15) (sq afH .ret) .skip)) (.seq (sq afI (sq afJ (.cond (Tm 32) (sq IJ (.region IK)) .skip))) (sq uP .ret)))))
def a2J:List Nat:=[16]
def CX:aV:=⟨3,51,xA,[.cell 6 (some 3)]⟩
def aJV:Rg:=[iA 2 (.mv (.const (.int .u64 0)))]
def aJW:Rg:=[iM 3 0,iC 4 .lss 3 0]
def aJX:Rg:=[iM 5 0,iC 6 .add 5 1,iA 7 (.un .neg (Tm 6)),iA 8 (.conv .u64 (Tm 7)),iA 9 (.bin .add (Tm 8) (.const (.int .u64 1))),iM 2 9]
def aJY:Rg:=[iM 10 0,iA 11 (.conv .u64 (Tm 10)),iM 2 11]
def IP:aC:=(sq aJV (.seq (sq aJW (.cond (Tm 4) (sq aJX .ret) .skip)) (sq aJY .ret)))
def bjD:List Nat:=[]
def afQ:aV:=⟨1,12,IP,[.tmp 2]⟩
def aJI:Rg:=[iA 4 (.alloc [(.bool false),.aB,.aB]),iI 5 0]
def aJJ:Rg:=[iM 6 1,iC 7 .eql 6 0]
def aJK:Rg:=[iA 8 (.build [(.bool false),.aB,.aB] []),iS 3 4 8,iI 5 3]
def aJL:Rg:=[iM 9 0,iC 10 .lss 9 0,iM 11 1,iC 12 .lss 11 0,iA 13 (.eqb true (Tm 10) (Tm 12)),iM 14 0,iK 15 59 14,iK 16 35 15,iM 17 1,iK 18 59 17,iK 19 35 18,iA 20 (.call 58 [(Tm 13),(Tm 16),(Tm 19)]),iS 3 4 20,iI 5 0]
def IL:aC:=(sq aJI (.seq (sq aJJ (.cond (Tm 7) (sq aJK .ret) .skip)) (sq aJL .ret)))
def biX:List Nat:=[]
def RS:aV:=⟨2,21,IL,[.cell 4 (some 3),.tmp 5]⟩
def aVS:Rg:=[iA 2 (.alloc [(.bool false),.aB,.aB])]
def aVT:Rg:=[iM 6 0,iA 7 (.call 50 [(Tm 6),(Ci 1)]),iM 5 7,iE 8 5 0,iE 9 5 1,iA 3 (.alloc [(.bool false),.aB,.aB]),iS 3 3 8,iM 4 9]
def aVU:Rg:=[iO 10 3 3,iS 3 2 10]
def PN:aC:=(sq aVS (sq aVT (sq aVU .ret)))
def bpD:List Nat:=[]
def aJF:aV:=⟨1,11,PN,[.cell 2 (some 3)]⟩
def utF (xs:List Nat) (n:Nat):PF:=((PF.nil.set 0 (aF xs)).set 3 (.int .i64 n))
theorem biD {C:Ctx} (xs:List Nat) (hx:Lim xs) (hl:xs.length≤35184372087808):IG.wp C (aT afA.res (kF 1 (aH (aG (val xs))))) (PF.args [aF xs]) .nil:=by
 simp only[go_sem,γ,reduceCtorEq,IG,aIS,aIT,afA,bJC]
 refine wp_loop (α:=Nat) (fun n=>utF xs n) (fun _=>.nil) (fun n=>n≤xs.length∧∀ j x,n≤j→xs[j]?=some x→x=0) (fun n=>n) xs.length ⟨bJF _,fun j x hj hxj=>?_⟩ ?_ PH.nil_le ?_
 ·rw[bKM hj] at hxj; cases hxj
 ·unfold utF
  exact Lq
 rintro n ⟨hn,hz⟩
 have done:(0<n→∀ h:n-1<xs.length,xs[n-1]≠0)→∀ F:PF,(utF xs n).le F→aC.wp C (.seq (.region XN) .ret) (aT [.tmp 2] (kF 1 (aH (aG (val xs))))) F .nil:=by
  intro h F hF
  have f0:F 0=some (aF xs):=hF 0 _ (by unfold utF; simp only[go_sem,reduceCtorEq])
  have f3:F 3=some (.int .i64 n):=hF 3 _ (by unfold utF; simp only[go_sem,reduceCtorEq])
  have ht:xs.take n=aG (val xs):=HQ hx hn hz fun x h0 hxj=>by
   rw[bJN Om] at hxj
   injection hxj with hxj
   subst hxj
   exact h h0 Om
  have hc:((n:Nat):Int)≤(xs.length:Nat):=by omega
  simp only[go_sem,ν,γ,reduceCtorEq,XN,f0,f3,bJC,hc,or_true,bKG]
  refine fU (rows:=[]) (src:=aH (aG (val xs))) .nil ?_ ?_ fun v H' ho _=>?_
  ·simp only[go_sem]
   rw[← ht,← List.map_take]
  ·unfold roomFor
   rw[bS,← ht,bJU]
   simp only[bLO,maxLen]
   omega
  ·exact HE (.inr rfl) (by simpa using ho) rfl
 simp only[aC.wp,go_sem] at done
 simp only[go_sem,γ,reduceCtorEq,aIR,aIU,utF]
 by_cases h0:0<n
 ·have h0':((n:Nat):Int)>0:=by omega
  have hlt:n-1<xs.length:=by omega
  have hat:=bJ xs hlt
  have hw:IntKind.i64.wrap ((n:Int)-1)=((n-1:Nat):Int):=tJ Om h0
  simp only[go_sem,γ,reduceCtorEq,h0',hw,hat]
  by_cases c:xs[n-1]=0
  ·simp only[go_sem,γ,reduceCtorEq,bW (Om:((xs[n-1]:Nat):Int)=0),aIV,hw]
   refine aK (n-1) ⟨by omega,fun j x hj hxj=>?_⟩ Om ?_ PH.nil_le
   ·by_cases e:j=n-1
    ·subst e
     rw[bJN hlt] at hxj
     injection hxj with hxj
     omega
    ·exact hz j x Om hxj
   ·exact Lq
  ·simp only[go_sem,bF (Om:((xs[n-1]:Nat):Int)≠0)]
   exact done (fun _ _=>c) _ (by unfold utF; exact Lq)
 ·have h0':¬ ((n:Nat):Int)>0:=by omega
  simp only[go_sem,γ,reduceCtorEq,h0']
  exact done (fun h=>absurd h h0) _ (by unfold utF; exact Lq)
structure nE (C:Ctx):Prop where
 trimM:∀ xs,Lim xs→xs.length≤35184372087808→aD C 38 [aF xs] .nil (kF 1 (aH (aG (val xs))))
theorem nE.trim {C:Ctx} (L:nE C) (xs:List Nat) (hx:Lim xs) (hl:xs.length≤35184372087808):aD C 38 [aF xs] .nil (aE (aF (aG (val xs)))):=(L.trimM xs hx hl).freeze
theorem bhV {C:Ctx} (L:nE C) (v:Nat) (hv:v<18446744073709551616):HX.wp C (aT aeR.res (bZ (aF (aG v)))) (PF.args [.int .u64 v]) .nil:=by
 have e1:IntKind.u32.wrap ((v:Nat):Int)=((v%4294967296:Nat):Int):=cB v
 have hd:v/4294967296<4294967296:=by omega
 have e3:IntKind.u32.wrap ((v/4294967296:Nat):Int)=((v/4294967296:Nat):Int):=by rw[cB,bKK hd]
 have hL:Lim [v%4294967296,v/4294967296]:=by
  intro x hx
  simp only[bJR,List.mem_nil_iff,or_false] at hx
  rcases hx with rfl | rfl
  ·exact bKR _ (by decide)
  ·exact hd
 have bHR:val [v%4294967296,v/4294967296]=v:=by simp only[val,Nat.mul_zero,bKU]; exact Nat.mod_add_div v 4294967296
 have hsh:shift .shr .u64 (v:Int) 32=some (.int .u64 ((v/4294967296:Nat):Int)):=uL
 have hb:(2:Nat)*1≤16777216:=by decide
 simp only[go_sem,υ,δ,γ,η,ζ,reduceCtorEq,HX,aIG,aIH,aeR,e1,hsh,e3,hb]
 have ht:=L.trim [v%4294967296,v/4294967296] hL (by simp)
 rw[bHR] at ht
 refine aA ht rfl ?_
 simp only[go_sem,γ]
 exact aX (.inr rfl) .nil rfl PH.nil_le ⟨.refl _,rfl⟩
theorem a9D {C:Ctx} (L:nE C) (xs:List Nat) (hx:Lim xs) (hl:xs.length≤35184372087808):AS.wp C (aT OV.res (bZ (.bool (decide (nl (val xs)>512))))) (PF.args [aF xs]) .nil:=by
 simp only[go_sem,reduceCtorEq,AS,aqO,aqP,OV]
 refine aA (L.trim xs hx hl) rfl ?_
 simp only[go_sem,γ,bJC,aZ]
 refine bA rfl ?_
 rw[decide_eq_decide]
 omega
theorem aXR {a b:Nat} (h:nl a<nl b):dB a b=-1:=by
 have:a<b:=by
  rcases bJV a b with h' | h'
  ·exact h'
  ·have:=fD h'; omega
 simp[dB,this]
theorem aXQ {a b:Nat} (h:nl b<nl a):dB a b=1:=by
 have:b<a:=by
  rcases bJV b a with h' | h'
  ·exact h'
  ·have:=fD h'; omega
 have h2:¬ a<b:=by omega
 simp[dB,this,h2]
def a1I (X Y:List Nat) (i:Int):PF:=(((PF.nil.set 0 (aF X)).set 1 (aF Y)).set 5 (.int .i64 i))
theorem boM {C:Ctx} (L:nE C) (xs ys:List Nat) (hx:Lim xs) (hy:Lim ys) (lx:xs.length≤35184372087808) (ly:ys.length≤35184372087808) :
  OQ.wp C (aT aHQ.res (aE (.int .i64 (dB (val xs) (val ys))))) (PF.args [aF xs,aF ys]) .nil:=by
 simp only[go_sem,reduceCtorEq,OQ,aTV,aTW,aHQ]
 refine aA (L.trim xs hx lx) Ev ?_
 simp only[go_sem,γ]
 refine aA (L.trim ys hy ly) Ev ?_
 have bx:=eW hx
 have by':=eW hy
 simp only[go_sem,γ,reduceCtorEq,aTX,bJC,aZ]
 by_cases c0:nl (val xs)≠nl (val ys)
 ·simp only[go_sem,γ,reduceCtorEq,cS (show ((nl (val xs):Nat):Int)≠(nl (val ys):Nat) by omega),aTY]
  by_cases c1:nl (val xs)<nl (val ys)
  ·simp only[go_sem,ο,bJC,aZ,show ((nl (val xs):Nat):Int)<(nl (val ys):Nat) by omega,aTZ]
   refine aM (.inr rfl) Ev ?_
   rw[aXR c1]; rfl
  ·simp only[go_sem,bJC,aZ,show ¬ ((nl (val xs):Nat):Int)<(nl (val ys):Nat) by omega,aUA]
   refine aM (.inr rfl) Ev ?_
   rw[aXQ Om]; rfl
 replace c0:=Decidable.of_not_not c0
 simp only[go_sem,γ,reduceCtorEq,cG (show ((nl (val xs):Nat):Int)=(nl (val ys):Nat) by omega),aUB,bJC,aZ]
 have ex:=aR (val xs)
 have ey:=aR (val ys)
 have LX:=aS (val xs)
 have LY:=aS (val ys)
 generalize hX:aG (val xs)=X at *
 generalize hY:aG (val ys)=Y at *
 have hlX:X.length=nl (val xs):=by rw[← hX]; rfl
 have hlY:Y.length=nl (val xs):=by rw[c0,← hY]; rfl
 refine wp_loop (α:=Nat) (fun k=>a1I X Y ((k:Int)-1)) (fun _=>.nil) (fun k=>k≤nl (val xs)∧X.drop k=Y.drop k) (fun k=>k) (nl (val xs)) ⟨bJF _,?_⟩ ?_ PH.nil_le ?_
 ·rw[bMO Om,bMO Om]
 ·unfold a1I
  (repeat' (first|exact PF.nil_le|refine PF.aI ?_ ?_))<;>first|(simp only[go_sem,γ,reduceCtorEq,wrap_i64 (show -9223372036854775808≤((nl (val xs):Nat):Int)-1 by omega) (show ((nl (val xs):Nat):Int)-1≤9223372036854775807 by omega)]<;>rfl)|rfl
 rintro k ⟨hk,hd⟩
 simp only[go_sem,γ,reduceCtorEq,aHR,aUC,a1I]
 by_cases h0:0<k
 ·obtain⟨m,rfl⟩:∃ m,k=m+1:=⟨k-1,by omega⟩
  have hz:((m+1:Nat):Int)-1=(m:Int):=by omega
  have hge:(m:Int)≥0:=by omega
  have x1:m<X.length:=by omega
  have y1:m<Y.length:=by omega
  simp only[go_sem,hz,hge]
  refine bU .nil eD PH.nil_le ?_
  simp only[go_sem,γ,reduceCtorEq,aUD,bJ X x1,bJ Y y1]
  by_cases c3:X[m]<Y[m]
  ·simp only[go_sem,ο,show ((X[m]:Nat):Int)<(Y[m]:Nat) by omega,aUE]
   refine aM (.inr rfl) Ev ?_
   have:=YS LX x1 y1 hd c3
   rw[ex,ey] at this
   simp[aW,dB,this]
  ·simp only[go_sem,show ¬ ((X[m]:Nat):Int)<(Y[m]:Nat) by omega]
   refine bU .nil eD PH.nil_le ?_
   simp only[go_sem,γ,reduceCtorEq,aHS,bJ X x1,bJ Y y1]
   by_cases c4:X[m]>Y[m]
   ·simp only[go_sem,show ((X[m]:Nat):Int)>(Y[m]:Nat) by omega,aHT]
    refine aM (.inr rfl) Ev ?_
    have:=YS LY y1 x1 hd.symm c4
    rw[ex,ey] at this
    have h2:¬ val xs<val ys:=by omega
    simp[aW,dB,this,h2]
   ·simp only[go_sem,γ,reduceCtorEq,show ¬ ((X[m]:Nat):Int)>(Y[m]:Nat) by omega,aHU]
    refine aK m ⟨by omega,amQ x1 y1 hd Om⟩ Om ?_ PH.nil_le
    (repeat' (first|exact PF.nil_le|refine PF.aI ?_ ?_))<;>first|(simp only[go_sem,γ,reduceCtorEq,wrap_i64 (Om:-9223372036854775808≤(m:Int)-1) (Om:(m:Int)-1≤9223372036854775807)]<;>rfl)|rfl
 ·have:k=0:=by omega
  subst this
  have hz:¬ ((0:Nat):Int)-1≥0:=by decide
  simp only[go_sem,hz,aHV]
  refine aM (.inr rfl) Ev ?_
  rw[bKG,bKG] at hd
  have:val xs=val ys:=by rw[← ex,← ey,hd]
  simp[aW,dB,this]
theorem yL (n:Nat):(((n:Nat):Int)==0)=decide (n=0):=by
 by_cases h:n=0
 ·subst h; rfl
 ·rw[bF Om,decide_eq_false h]
structure avH (C:Ctx):Prop extends nE C where
 make:∀ v:Nat,v<18446744073709551616→aD C 35 [.int .u64 v] .nil (aE (aF (aG v)))
 large:∀ xs,Lim xs→xs.length≤35184372087808→aD C 41 [aF xs] .nil (aE (.bool (decide (nl (val xs)>512))))
 cmp:∀ xs ys,Lim xs→Lim ys→xs.length≤35184372087808→ys.length≤35184372087808→aD C 32 [aF xs,aF ys] .nil (aE (.int .i64 (dB (val xs) (val ys))))
def a1M (a b:Nat):PF:=((PF.nil.set 6 (aF (aG a))).set 7 (aF (aG b)))
structure YG (C:Ctx):Prop extends avH C where
 divide:∀ A B:Nat,B≠0→nl A≤512→nl B≤512→aD C 39 [aF (aG A),aF (aG B)] .nil (aE (oF A B))
def aYO (a b:Nat):PV:=if dP a b then .tup [aF [],.int .i64 2] else .tup [aF (aG (bJH a b)),.int .i64 0]
theorem boQ {C:Ctx} (L:YG C) (a b:List Nat) (ha:Lim a) (hb:Lim b) (la:a.length≤35184372087808) (lb:b.length≤35184372087808) :
  OU.wp C (aT aIF.res (bZ (aYO (val a) (val b)))) (PF.args [aF a,aF b]) .nil:=by
 unfold aYO
 simp only[go_sem,reduceCtorEq,OU,aUM,aUN,aIF]
 refine aA (L.large a ha la) rfl ?_
 by_cases c1:nl (val a)>512
 ·simp only[go_sem,γ,c1,akY]
  rw[if_pos (by simp[dP,c1])]
  exact eC rfl
 simp only[go_sem,γ,c1]
 refine aA (L.large b hb lb) rfl ?_
 by_cases c2:nl (val b)>512
 ·simp only[go_sem,γ,reduceCtorEq,c2,akY]
  rw[if_pos (by simp[dP,c2])]
  exact eC rfl
 rw[if_neg (by simp[dP,c1,c2])]
 simp only[go_sem,γ,reduceCtorEq,c2,aUO]
 refine aA (L.trim a ha la) rfl ?_
 simp only[go_sem,γ]
 refine aA (L.trim b hb lb) rfl ?_
 simp only[go_sem,γ]
 refine wp_loop (α:=Nat × Nat) (fun t=>a1M t.1 t.2) (fun _=>.nil) (fun t=>bJH t.1 t.2=bJH (val a) (val b)∧nl t.1≤512∧nl t.2≤512) (fun t=>t.2) (val a,val b) ⟨rfl,by simp only; omega,by simp only; omega⟩ ?_ PH.nil_le ?_
 ·unfold a1M
  exact Lq
 rintro⟨x,y⟩ ⟨hg,hx,hy⟩
 simp only at hg hx hy
 simp only[go_sem,γ,aUL,aUP,a1M,aZ]
 by_cases c3:y=0
 ·subst c3
  have:¬ ((nl 0:Nat):Int)>0:=by rw[vL]; decide
  simp only[go_sem,γ,this,aUS]
  refine aX (vs:=[aF (aG x),.int .i64 0]) (.inr rfl) .nil rfl PH.nil_le ⟨?_,rfl⟩
  rw[← hg,Nat.gcd_zero_right]
  exact .refl _
 ·have h0:nl y≠0:=fun h=>c3 (fZ.1 h)
  have:((nl y:Nat):Int)>0:=by omega
  simp only[go_sem,γ,this,aUQ]
  refine aA (L.divide x y c3 Om Om) rfl ?_
  simp only[go_sem,γ,oF,aUR]
  have hlt:x%y<y:=bKR _ (bLI c3)
  refine aK (y,x%y) ⟨?_,hy,?_⟩ hlt ?_ PH.nil_le
  ·simp only
   rw[← hg,Nat.gcd_comm y,← Nat.gcd_rec y x,Nat.gcd_comm]
  ·have:=fD (Nat.le_of_lt hlt)
   simp only; omega
  ·exact Lq
theorem boO {C:Ctx} (L:YG C) (a b:List Nat) (ha:Lim a) (hb:Lim b) (la:a.length≤35184372087808) (lb:b.length≤35184372087808) :
  OR.wp C (aT udiv.res (bZ (kW (val a) (val b)))) (PF.args [aF a,aF b]) .nil:=by
 unfold kW
 simp only[go_sem,reduceCtorEq,OR,aUF,aUG,udiv]
 refine aA (L.large a ha la) rfl ?_
 by_cases c1:nl (val a)>512
 ·simp only[go_sem,γ,c1,akX]
  rw[if_pos (by simp[dP,c1])]
  exact pQ rfl
 simp only[go_sem,γ,c1]
 refine aA (L.large b hb lb) rfl ?_
 by_cases c2:nl (val b)>512
 ·simp only[go_sem,γ,reduceCtorEq,c2,akX]
  rw[if_pos (by simp[dP,c2])]
  exact pQ rfl
 rw[if_neg (by simp[dP,c1,c2])]
 simp only[go_sem,γ,reduceCtorEq,c2,aUH]
 refine aA (L.trim b hb lb) rfl ?_
 simp only[go_sem,γ,bJC,aZ,yL,fZ]
 by_cases c3:val b=0
 ·rw[if_pos c3]
  simp only[go_sem,decide_eq_true c3,aUI]
  exact pQ rfl
 rw[if_neg c3]
 simp only[go_sem,reduceCtorEq,decide_eq_false c3,aUJ]
 refine aA (L.trim a ha la) rfl ?_
 simp only[go_sem,γ]
 refine aA (L.trim b hb lb) rfl ?_
 simp only[go_sem]
 refine aA (L.divide (val a) (val b) c3 Om Om) rfl ?_
 simp only[go_sem,γ,oF,aUK]
 exact aX (.inr rfl) .nil rfl PH.nil_le ⟨.refl _,rfl⟩
def kR (neg:Bool) (a b:Nat):FV:=(neg&&decide (a/bJH a b≠0),a/bJH a b,b/bJH a b)
structure avI (C:Ctx):Prop extends YG C where
 gcd:∀ a b,Lim a→Lim b→a.length≤35184372087808→b.length≤35184372087808→aD C 34 [aF a,aF b] .nil (aE (aYO (val a) (val b)))
 div:∀ a b,Lim a→Lim b→a.length≤35184372087808→b.length≤35184372087808→aD C 33 [aF a,aF b] .nil (aE (kW (val a) (val b)))
theorem qT {n:Nat} (h:nl n≤512):(aG n).length≤35184372087808:=by rw[aZ]; omega
theorem tB:aG 1=[1]:=lZ (by decide) (by decide)
theorem abI {n:Nat} (h:n≠0):aG n=n%4294967296::aG (n/4294967296):=pP h
theorem wF {n:Nat} (h:n≠0):(nl n>1∨n%4294967296>1)↔n≠1:=by
 constructor
 ·rintro h1 rfl
  rcases h1 with h1 | h1
  ·rw[nl,tB] at h1; simp at h1
  ·omega
 ·intro h1
  by_cases c:nl n>1
  ·exact .inl c
  ·have:n<4294967296 ^ 1:=(gP n 1).1 Om
   rw[Nat.pow_one] at this
   rw[bKK this]
   exact .inr Om
theorem a2I {C:Ctx} (L:avI C) (neg:Bool) (a b:List Nat) (ha:Lim a) (hb:Lim b) (la:a.length≤35184372087808) (lb:b.length≤35184372087808) (na:nl (val a)≤512) (nb:nl (val b)≤512) (h0:val b≠0) :
  xA.wp C (aT CX.res (bZ (.agg (kR neg (val a) (val b)).rf.cells))) (PF.args [.bool neg,aF a,aF b]) .nil:=by
 have hg0:bJH (val a) (val b)≠0:=fun h=>h0 (Nat.eq_zero_of_gcd_eq_zero_right h)
 have hgb:bJH (val a) (val b)≤val b:=Nat.gcd_le_right _ (bLI h0)
 have ng:nl (bJH (val a) (val b))≤512:=Nat.le_trans (fD hgb) nb
 have hnb:dP (val a) (val b)=false:=fX na nb
 simp only[go_sem,δ,xA,afE,afF,CX]
 refine aQ fun o ho=>?_
 simp only[go_sem,γ]
 refine aA (L.trim a ha la) rfl ?_
 simp only[go_sem,γ]
 refine aA (L.trim b hb lb) rfl ?_
 simp only[go_sem,γ,afG,bJC,aZ,yL,fZ]
 by_cases c1:val a=0
 ·simp only[go_sem,υ,δ,γ,η,θ,ζ,decide_eq_true c1,afH]
  have e:(kR neg (val a) (val b)).rf=⟨false,[],[1]⟩:=by
   rw[c1]
   unfold kR FV.rf
   simp[eZ,Nat.div_self (bLI h0),tB]
  rw[e]
  refine aX (vs:=[.agg [.bool false,.aB,aF [1]]]) (.inr rfl) .nil ?_ PH.nil_le ⟨show Co (.agg _) (.agg _) from CoL.agg (CoL.cons (.refl _) (CoL.cons (.nil 1) (CoL.cons (.refl _) .nil))),rfl⟩
  simp only[go_sem,δ,γ]
  rfl
 have hgcd:=L.gcd (aG (val a)) (aG (val b)) (aS _) (aS _) (qT na) (qT nb)
 rw[aR,aR,aYO,hnb] at hgcd
 simp only[go_sem,γ,decide_eq_false c1,afI]
 refine aA hgcd rfl ?_
 have fin:∀ x y:Nat,x=val a/bJH (val a) (val b)→y=val b/bJH (val a) (val b)→∀ (F:PF) (H:PH),F 0=some (.bool neg)→F 1=some (aF (aG x))→F 2=some (aF (aG y))→F 6=some (.ptr o 3 0 0)→H o=some (.rows 3 [[.bool false,.aB,.aB]]) →
   aC.wp C (.seq (.region uP) .ret) (aT [.cell 6 (some 3)] (bZ (.agg (kR neg (val a) (val b)).rf.cells))) F H:=by
  intro x y hx hy F H f0 f1 f2 f6 hH
  subst hx; subst hy
  simp only[go_sem,δ,γ,θ,uP,f0,f1,f2,f6,hH]
  have hq:val a/bJH (val a) (val b)≠0:=by
   have:=Nat.div_pos (Nat.gcd_le_left (val b) (bLI c1)) (bLI hg0)
   omega
  have e:(kR neg (val a) (val b)).rf=⟨neg,aG (val a/bJH (val a) (val b)),aG (val b/bJH (val a) (val b))⟩:=by
   unfold kR FV.rf
   simp only[hq,ne_eq,not_false_eq_true,decide_true,bLE]
  rw[e]
  refine aX (vs:=[.agg (dX neg (aG (val a/bJH (val a) (val b))) (aG (val b/bJH (val a) (val b))))]) (.inr rfl) .nil ?_ PH.nil_le ⟨.refl _,rfl⟩
  simp only[go_sem,δ,γ,f6]
 simp only[aC.wp,go_sem] at fin
 have hd:=fun x (hx:nl x≤512)=>L.div (aG x) (aG (bJH (val a) (val b))) (aS _) (aS _) (qT hx) (qT ng)
 simp only[aR,kW] at hd
 have tail:bJH (val a) (val b)≠1→∀ (F:PF) (H:PH),F 0=some (.bool neg)→F 1=some (aF (aG (val a)))→F 2=some (aF (aG (val b)))→F 6=some (.ptr o 3 0 0)→F 7=some (aF (aG (bJH (val a) (val b))))→H o=some (.rows 3 [[.bool false,.aB,.aB]]) →
   aC.wp C (.seq (.seq (.region IJ) (.region IK)) (.seq (.region uP) .ret)) (aT [.cell 6 (some 3)] (bZ (.agg (kR neg (val a) (val b)).rf.cells))) F H:=by
  intro _ F H f0 f1 f2 f6 f7 hH
  have d1:=hd (val a) na
  have d2:=hd (val b) nb
  rw[fX na ng,if_neg hg0] at d1
  rw[fX nb ng,if_neg hg0] at d2
  simp only[go_sem,γ,IJ,f1,f7]
  refine aA d1 rfl ?_
  simp only[go_sem,γ,bME,IK,f2,f7]
  refine aA d2 rfl ?_
  simp only[go_sem,γ,bME]
  exact fin _ _ rfl rfl _ _ (by simp only[go_sem,reduceCtorEq,f0]) rfl rfl (by simp only[go_sem,γ,f6]) hH
 simp only[aC.wp,go_sem] at tail
 simp only[go_sem,γ,bME,afJ,bJC,aZ]
 by_cases c2:nl (bJH (val a) (val b))>1
 ·have c2':((nl (bJH (val a) (val b)):Nat):Int)>1:=by omega
  simp only[go_sem,γ,c2']
  exact tail ((wF hg0).1 (.inl c2)) _ _ rfl rfl rfl rfl rfl Sq
 ·have c2':¬ ((nl (bJH (val a) (val b)):Nat):Int)>1:=by omega
  simp only[go_sem,ν,γ,reduceCtorEq,c2',abI hg0]
  by_cases c3:bJH (val a) (val b)%4294967296>1
  ·have c3':((bJH (val a) (val b)%4294967296:Nat):Int)>1:=by omega
   simp only[go_sem,c3']
   exact tail ((wF hg0).1 (.inr c3)) _ _ rfl rfl rfl rfl (by simp only[go_sem,γ,abI hg0]) Sq
  ·have c3':¬ ((bJH (val a) (val b)%4294967296:Nat):Int)>1:=by omega
   have h1:bJH (val a) (val b)=1:=by
    rcases Decidable.em (bJH (val a) (val b)=1) with h | h
    ·exact h
    ·rcases (wF hg0).2 h with h | h
     ·exact absurd h c2
     ·exact absurd h c3
   simp only[go_sem,c3']
   exact fin (val a) (val b) (by rw[h1,Nat.div_one]) (by rw[h1,Nat.div_one]) _ _ rfl rfl rfl rfl Sq
theorem bjC {C:Ctx} (v:Int) (h1:-9223372036854775808≤v) (h2:v≤9223372036854775807) :
  IP.wp C (aT afQ.res (aE (.int .u64 (v.natAbs:Nat)))) (PF.args [.int .i64 v]) .nil:=by
 simp only[go_sem,γ,reduceCtorEq,IP,aJV,aJW,afQ]
 by_cases c:v<0
 ·have e1:IntKind.i64.wrap (v+1)=v+1:=wrap_i64 Om Om
  have e2:IntKind.i64.wrap (0-(v+1))=-(v+1):=by rw[wrap_i64 Om Om]; omega
  have e3:IntKind.u64.wrap (IntKind.u64.wrap (-(v+1))+1)=((v.natAbs:Nat):Int):=by
   rw[fF,fF]; omega
  simp only[go_sem,γ,reduceCtorEq,c,aJX,e1,e2,e3]
  refine aM (.inr rfl) rfl ?_
  rfl
 ·have e:IntKind.u64.wrap v=((v.natAbs:Nat):Int):=by
   rw[fF]; omega
  simp only[go_sem,γ,reduceCtorEq,c,aJY,e]
  refine aM (.inr rfl) rfl ?_
  rfl
structure aXA (C:Ctx):Prop extends avI C where
 lowest:∀ neg a b,Lim a→Lim b→a.length≤35184372087808→b.length≤35184372087808→nl (val a)≤512→nl (val b)≤512→val b≠0→aD C 58 [.bool neg,aF a,aF b] .nil (aE (.agg (kR neg (val a) (val b)).rf.cells))
 size:∀ v:Int,cV v→aD C 59 [.int .i64 v] .nil (aE (.int .u64 (v.natAbs:Nat)))
def mkT (n d:Int):RF:=(kR (decide (n<0) != decide (d<0)) n.natAbs d.natAbs).rf
def CY (n d:Int):PV:=if d=0 then xQ 3 else .tup [.agg (mkT n d).cells,.int .i64 0]
theorem biW {C:Ctx} (L:aXA C) (n d:Int) (h1:cV n) (h2:cV d) :
  IL.wp C (aT RS.res (bZ (CY n d))) (PF.args [.int .i64 n,.int .i64 d]) .nil:=by
 simp only[go_sem,δ,IL,aJI,aJJ]
 refine aQ fun o ho=>?_
 unfold CY
 by_cases c:d=0
 ·subst c
  simp only[go_sem,ρ,δ,γ,aJK]
  refine fY ?_
  simp only[go_sem,δ,γ,RS]
 ·rw[if_neg c]
  simp only[go_sem,γ,reduceCtorEq,bF c,aJL]
  refine aA (L.size n h1) rfl ?_
  simp only[go_sem]
  refine aA (L.make n.natAbs Om) rfl ?_
  simp only[go_sem,γ]
  refine aA (L.size d h2) rfl ?_
  simp only[go_sem]
  refine aA (L.make d.natAbs Om) rfl ?_
  simp only[go_sem]
  have n1:nl n.natAbs≤2:=lN Om
  have n2:nl d.natAbs≤2:=lN Om
  have low:=L.lowest (decide (n<0) != decide (d<0)) (aG n.natAbs) (aG d.natAbs) (aS _) (aS _) (by rw[aZ]; omega) (by rw[aZ]; omega)
  rw[aR,aR] at low
  have low:=low Om Om Om
  refine aA low rfl ?_
  simp only[go_sem,δ,γ]
  exact aX (.inr rfl) .nil (vs:=[.agg (mkT n d).cells,.int .i64 0]) (by simp only[go_sem,δ,γ,RS]; rfl) PH.nil_le ⟨.refl _,rfl⟩
structure avJ (C:Ctx):Prop extends aXA C where
 fmk:∀ n d:Int,cV n→cV d→aD C 50 [.int .i64 n,.int .i64 d] .nil (aE (CY n d))
theorem bpC {C:Ctx} (L:avJ C) (n:Int) (h1:cV n) :
  PN.wp C (aT aJF.res (bZ (.agg (mkT n 1).cells))) (PF.args [.int .i64 n]) .nil:=by
 simp only[go_sem,δ,PN,aVS,aVT,aJF]
 refine aQ fun o ho=>?_
 simp only[go_sem,reduceCtorEq]
 refine aA (L.fmk n 1 h1 (by unfold cV; omega)) rfl ?_
 unfold CY
 rw[if_neg (by decide)]
 simp only[go_sem,δ,γ]
 refine aQ fun p hp=>?_
 have hne:o≠p:=by
  rintro rfl
  simp only[bR,if_true] at hp
  cases hp
 have bID:p≠o:=fun h=>hne h.symm
 simp only[go_sem,δ,γ,hne,aVU]
 refine aX (vs:=[.agg (mkT n 1).cells]) (.inr rfl) .nil ?_ PH.nil_le ⟨.refl _,rfl⟩
 simp only[go_sem,δ,γ,bID]
def fC (l:List Nat) (n a:Nat):Nat × Nat:=if l.length≤a∨n<2 then (0,a) else (l.getD a 0%n,a+1)
def auS (l:List Nat) (a:Nat):RF × Nat :=
 let x:=fC l 6 a
 let y:=fC l 8 x.2
 (mkT ((1+x.1:Nat):Int) ((1+y.1:Nat):Int),y.2)
abbrev oE:RF:=mkT 0 1
def buC (l:List Nat) (i j a:Nat):RF × Nat :=
 if j=i+1 then auS l a
 else if j=i then (oE,a)
 else let t:=fC l 3 a
  if t.1=0 then auS l t.2 else (oE,t.2)
def brX (l:List Nat) (i a:Nat):Nat→List RF × Nat
 | 0=>([],a)
 | j+1=>let s:=brX l i a j
  let z:=buC l i j s.2
  (s.1++[z.1],z.2)
structure bpY where
 start:List RF
 exit:List RF
 bHD:List (List RF)
 left:Nat
 a:Nat
def buU (l:List Nat) (n i:Nat) (s:bpY):Nat × Nat:=if i+1<n then fC l (s.left+1) s.a else (s.left,s.a)
def buP (l:List Nat) (n i a:Nat):RF × Nat :=
 let e:=auS l a
 if i+1<n then (let t:=fC l 3 e.2; (if t.1=0 then oE else e.1,t.2)) else e
def bqO (l:List Nat) (n a:Nat):Nat→bpY
 | 0=>⟨[],[],[],8,a⟩
 | i+1=>let s:=bqO l n a i
  let k:=buU l n i s
  let e:=buP l n i k.2
  let r:=brX l i e.2 n
  ⟨s.start++[mkT (k.1:Nat) 8],s.exit++[e.1],s.bHD++[r.1],s.left-k.1,r.2⟩
def bBH (l:List Nat) (brG a:Nat):cM × Nat :=
 let t:=fC l brG a
 let s:=bqO l (1+t.1) t.2 (1+t.1)
 (⟨[],s.start,s.bHD,s.exit⟩,s.a)
def brR (l:List Nat) (a:Nat):Nat→List RF × Nat
 | 0=>([],a)
 | k+1=>let s:=brR l a k
  let z:=auS l s.2
  (s.1++[z.1],z.2)
abbrev xW (n:Nat):List UInt8:=Lib.decDigits n
def bjT (l:List Nat) (a:Nat):Nat→List cM × Nat
 | 0=>([],a)
 | k+1=>let s:=bjT l a k
  let z:=bBH l 2 s.2
  (s.1++[{ z.1 with name:=[108,97,119]++xW k }],z.2)
def aQI (l:List Nat) (bHH a:Nat):Nat→List cU × Nat
 | 0=>([],a)
 | k+1=>let s:=aQI l bHH a k
  let x:=fC l 4 s.2
  let y:=fC l 8 x.2
  let z:=fC l bHH y.2
  (s.1++[⟨[109]++xW k,(1+x.1:Nat),(1+y.1:Nat),(z.1:Nat)⟩],z.2)
structure GS where
 bHJ:List bN
 bHX:List cC
 a:Nat
def bjO (l:List Nat) (mc bGY domain:Nat) (s:GS):Nat→GS
 | 0=>s
 | i+1=>let s:=bjO l mc bGY domain s i
  if s.bHX.length<bGY then
   let t:=fC l mc s.a
   { s with bHX:=s.bHX++[⟨[100]++xW s.bHX.length,(t.1:Nat),(domain:Nat)⟩],a:=t.2 }
  else s
def aQF (level:Nat):UInt8:=match level with
 | 0=>45
 | 1=>115
 | 2=>114
 | 3=>107
 | _=>109
def bAZ (l:List Nat) (level domain:Nat) (s:GS):GS :=
 let u:=fC l 16 s.a
 let t:=fC l 3 u.2
 let k:=fC l 6 t.2
 let sh:RF × Nat:=if t.1=0 then (mkT 1 ((2+k.1:Nat):Int),k.2) else (oE,t.2)
 { s with bHJ:=s.bHJ++[⟨[aQF level]++xW s.bHJ.length,(level:Nat),(domain:Nat),(1+u.1:Nat),sh.1⟩],a:=sh.2 }
def buR (bGY:Nat) (s:GS):Bool:=decide (bGY≤s.bHX.length)||decide (35≤s.bHJ.length)
def bjP (l:List Nat) (level bGY domain:Nat) (rec:Nat→GS→GS) (s:GS):Nat→GS
 | 0=>s
 | i+1=>let s:=bjP l level bGY domain rec s i
  if buR bGY s then s else (let s':=bAZ l level domain s; rec (s'.bHJ.length-1) s')
def bjR (l:List Nat) (mc bGY:Nat):Nat→Nat→GS→GS
 | 0,domain,s=>let t:=fC l 2 s.a
  bjO l mc bGY domain { s with a:=t.2 } (1+t.1)
 | k+1,domain,s=>let t:=fC l 2 s.a
  bjP l (4-k) bGY domain (bjR l mc bGY k) { s with a:=t.2 } (if 4-k=2 then 1 else 1+t.1)
def iW:bN:=⟨[],0,-1,0,oE⟩
def RJ (l:List Nat) (a:Nat):Int × Nat :=
 let t:=fC l 3 a
 let k:=fC l 3 t.2
 if t.1=0 then ((1+k.1:Nat),k.2) else (0,t.2)
def bnO (l:List Nat) (bGZ i a:Nat):dA × Nat :=
 let k:=fC l 2 a
 let m:=fC l 3 k.2
 let h:=fC l 4 m.2
 let q:=fC l (m.1+1) h.2
 let r:=brR l q.2 (max m.1 1)
 let g:=fC l 9 r.2
 let s1:=RJ l g.2
 let s2:=RJ l s1.2
 let s3:=RJ l s2.2
 let s4:=RJ l s3.2
 let f:=fC l bGZ s4.2
 let b:=fC l 2 f.2
 let ms:List Int × Nat:=if 1<bGZ then (if b.1=0 then ([(f.1:Int),1-(f.1:Int)],b.2) else ([(f.1:Int)],b.2)) else ([(f.1:Int)],f.2)
 (⟨[112]++xW i,(1+k.1:Nat),(m.1:Nat),(1+k.1+q.1:Nat),0,s1.1,s2.1,s3.1,s4.1,ms.1,r.1,mkT (g.1:Nat) 8,mkT ((1+h.1:Nat):Int) 1⟩,ms.2)
def apW (l:List Nat) (bGZ a:Nat):Nat→List dA × Nat
 | 0=>([],a)
 | k+1=>let s:=apW l bGZ a k
  let z:=bnO l bGZ k s.2
  (s.1++[z.1],z.2)
def aJP (l:List Nat) (pols a:Nat):Nat→List dY × Nat
 | 0=>([],a)
 | k+1=>let s:=aJP l pols a k
  let z:=fC l pols s.2
  (s.1++[⟨[118]++xW k,(z.1:Nat)⟩],z.2)
def aaL (l:List Nat) (bGY bHA a:Nat):aJ × Nat :=
 let e:=fC l 2 a
 let lw:=fC l 2 e.2
 let bHH:=bjT l lw.2 (1+lw.1)
 let md:=fC l 2 bHH.2
 let bGZ:=aQI l (1+lw.1) md.2 (1+md.1)
 let g:=bjR l (1+md.1) bGY 4 0 ⟨[iW],[],bGZ.2⟩
 let pl:=fC l 2 g.a
 let pols:=apW l (1+md.1) pl.2 (1+pl.1)
 let vo:=fC l (bHA+1) pols.2
 let vols:=aJP l (1+pl.1) vo.2 vo.1
 (⟨(1+e.1:Nat),bHH.1,bGZ.1,g.bHJ,g.bHX,pols.1,vols.1⟩,vols.2)
def nxM (l:List Int) (n a:Nat):Nat:=if n=0 then 0 else ((l.getD a ((a%3:Nat):Int))%(n:Int)).toNat
theorem cK (l:List Int) {n:Nat} (h:0<n) (a:Nat):nxM l n a<n:=by
 unfold nxM
 rw[if_neg Om]
 have h1:=Int.emod_lt_of_pos (l.getD a ((a%3:Nat):Int)) (Om:(0:Int)<n)
 have h2:=Int.emod_nonneg (l.getD a ((a%3:Nat):Int)) (Om:(n:Int)≠0)
 omega
def dK (c:UInt8) (n:Nat):List UInt8:=[c,UInt8.ofNat (97+n/26%26),UInt8.ofNat (97+n%26)]
def dH (ds:List bN) (level parent bHY:Nat):List bN:=ds++[⟨dK 110 ds.length,(level:Nat),(parent:Nat),(bHY:Nat),oE⟩]
structure MS where
 bHJ:List bN
 bHX:List cC
 site:Nat
 room:Nat
 rack:Nat
 a:Nat
def eH (l:List Int) (i:Nat) (s:MS):MS :=
 let new (a:Nat):MS :=
  let d1:=dH s.bHJ 1 0 (16+nxM l 17 a)
  let d2:=dH d1 2 s.bHJ.length (16+nxM l 17 (a+1))
  let d3:=dH d2 3 d1.length (8+nxM l 9 (a+2))
  ⟨d3,s.bHX,s.bHJ.length,d1.length,d2.length,a+3⟩
 if i=0 then new s.a
 else if nxM l 4 s.a=0 then new (s.a+1)
 else if nxM l 2 (s.a+1)=0 then ⟨dH s.bHJ 3 s.room (8+nxM l 9 (s.a+2)),s.bHX,s.site,s.room,s.bHJ.length,s.a+3⟩
 else { s with a:=s.a+2 }
def iJ (l:List Int) (m:Nat):Nat→List cC × Nat→List cC × Nat
 | 0,s=>s
 | k+1,s=>if s.1.length<9 then iJ l m k (s.1++[⟨dK 100 s.1.length,((if nxM l 4 s.2=0 then 1 else 0:Nat):Int),(m:Nat)⟩],s.2+1) else s
def xZ (l:List Int) (i:Nat) (s:MS):MS :=
 let p:=eH l i s
 let ds:=dH p.bHJ 4 p.rack (8+nxM l 9 p.a)
 let d:=iJ l p.bHJ.length (1+nxM l 2 (p.a+1)) (p.bHX,p.a+2)
 { p with bHJ:=ds,bHX:=d.1,a:=d.2 }
def eF (l:List Int) (s:MS):Nat→MS
 | 0=>s
 | i+1=>xZ l i (eF l s i)
def oG (l:List Int) (n a:Nat):dA :=
 let k:=1+nxM l 2 a
 let m:=nxM l 3 (a+1)
 ⟨dK 112 n,(k:Nat),(m:Nat),(k+nxM l (m+1) (a+2):Nat),0,0,0,(nxM l 4 (a+3):Nat),(nxM l 3 (a+4):Nat),if nxM l 5 (a+5)=0 then [0] else [0,1],bJE (max m 1) (mkT 1 2),mkT 1 1000,mkT 30 1⟩
def gW (l:List Int):Nat→Nat→List dA
 | 0,_=>[]
 | n+1,a=>oG l (n+1) a::gW l n (a+6)
def kM (l:List Int) (pols:Nat):Nat→Nat→List dY
 | 0,_=>[]
 | n+1,a=>⟨dK 118 (n+1),(nxM l pols a:Nat)⟩::kM l pols n (a+1)
def cW (l:List Int) (bHA a:Nat):aJ × Nat :=
 let law:cM:=⟨[100,105,115,107],[mkT 1 1],[[mkT 0 1]],[mkT 1 ((100+nxM l 100 (a+1):Nat):Int)]⟩
 let m1:cU:=⟨[98,105,103],(3+nxM l 2 (a+2):Nat),(8+nxM l 9 (a+3):Nat),0⟩
 let m2:cU:=⟨[111,108,100],(1+nxM l 3 (a+4):Nat),(4+nxM l 9 (a+5):Nat),0⟩
 let s:=eF l ⟨[iW],[],0,0,0,a+7⟩ (3+nxM l 3 (a+6))
 let np:=1+nxM l 2 s.a
 let nv:=1+nxM l bHA (s.a+1+6*np)
 (⟨(1+nxM l 2 a:Nat),[law],[m1,m2],s.bHJ,s.bHX,gW l np (s.a+1),kM l np nv (s.a+2+6*np)⟩,s.a+2+6*np+nv)
def oV (row:List Int) (n:Nat):Nat→Nat→Nat
 | 0,d=>d
 | k+1,d=>if row.contains (d:Int) then oV row n k ((d+1)%n) else d
def uG (l:List Int) (row:List Int) (n a:Nat):Int × Nat :=
 let d:=oV row n n (nxM l n a)
 if row.contains (d:Int) then (-1,a+1) else if nxM l 12 (a+1)=0 then (-1,a+2) else ((d:Int),a+2)
def jM (l:List Int) (n a:Nat):Nat→List Int × Nat
 | 0=>([],a)
 | i+1=>let s:=jM l n a i
  let z:=uG l s.1 n s.2
  (s.1++[z.1],z.2)
def cX (l:List Int) (f:aJ) (a:Nat):Nat→List (List Int) × Nat
 | 0=>([],a)
 | v+1=>let s:=cX l f a v
  let r:=jM l f.bGY.length s.2 (eY f v).toNat
  (s.1++[r.1],r.2)
def vY (l:List Int) (x:Int) (a:Nat):Int × Nat :=
 if nxM l 9 a=0 then (0,a+1) else if nxM l 9 a=1 then ((nxM l (x+1).toNat (a+1):Nat),a+2) else (x,a+1)
def eV (l:List Int):List Int→Nat→List Int × Nat
 | [],a=>([],a)
 | x::xs,a=>let z:=vY l x a
  let r:=eV l xs z.2
  (z.1::r.1,r.2)
theorem aNO (l:List Int) (m:Nat):∀ (k:Nat) (s:List cC × Nat),s.1.length≤9→(iJ l m k s).1.length≤9∧s.2≤(iJ l m k s).2∧(iJ l m k s).2≤s.2+k
 | 0,s,h=>⟨h,bJF _,bJF _⟩
 | k+1,s,h=>by
  rw[iJ]
  split
  ·have:=aNO l m k (s.1++[⟨dK 100 s.1.length,((if nxM l 4 s.2=0 then 1 else 0:Nat):Int),(m:Nat)⟩],s.2+1) (by simp; omega)
   simp only at this
   omega
  ·exact⟨h,bJF _,by omega⟩
theorem aQH (a b:Nat):mkT (a:Int) (b:Int)=⟨false,aG (a/bJH a b),aG (b/bJH a b)⟩:=by
 have h1:decide ((a:Int)<0)=false:=decide_eq_false Om
 have h2:decide ((b:Int)<0)=false:=decide_eq_false Om
 unfold mkT kR FV.rf
 rw[h1,h2,Int.natAbs_natCast,Int.natAbs_natCast]
 rfl
structure SmF (x:RF) (p q:Nat):Prop where
 eq:x=⟨false,aG (p/bJH p q),aG (q/bJH p q)⟩
 a:p≤64
 b:q≤64
 pos:0<q
theorem SmF.mk' {a b:Nat} (ha:a≤64) (hb:b≤64) (h:0<b):SmF (mkT (a:Int) (b:Int)) a b:=⟨aQH a b,ha,hb,h⟩
theorem SmF.num {x:RF} {a b:Nat} (h:SmF x a b):val x.num=a/bJH a b:=by rw[h.eq,aR]
theorem SmF.den {x:RF} {a b:Nat} (h:SmF x a b):val x.den=b/bJH a b:=by rw[h.eq,aR]
theorem SmF.v {x:RF} {a b:Nat} (h:SmF x a b):x.v=(false,a/bJH a b,b/bJH a b):=by
 unfold RF.v
 rw[h.num,h.den,h.eq]
theorem SmF.aEF {x:RF} {a b:Nat} (_:SmF x a b):a/bJH a b≤a:=Nat.div_le_self ..
theorem SmF.awP {x:RF} {a b:Nat} (_:SmF x a b):b/bJH a b≤b:=Nat.div_le_self ..
theorem SmF.den_pos {x:RF} {a b:Nat} (h:SmF x a b):0<b/bJH a b:=Nat.div_pos (Nat.le_of_dvd h.pos (Nat.gcd_dvd_right a b)) (Nat.gcd_pos_of_pos_right a h.pos)
theorem uY {n:Nat} (h:n≤4096):cD n≤32:=(kB n 32).2 Om
theorem aLC {n:Nat} (h:0<n):0<cD n:=by
 rcases bMD (cD n) with e | e
 ·rw[jB] at e; omega
 ·exact e
theorem PL {a b:Nat} (ha:a≤4096) (hb:b≤4096) (h:0<b):cN a b=true:=by
 have h1:=uY ha
 have h2:=uY hb
 have h3:=aLC h
 unfold cN
 rw[decide_eq_true h3,decide_eq_true (Om:cD b≤4096),decide_eq_true (Om:cD a≤4096)]
 rfl
theorem bmQ {n:Bool} {a b:Nat} (ha:a≤4096) (hb:b≤4096):gE n a b=.ok (n&&decide (a/bJH a b≠0),a/bJH a b,b/bJH a b):=by
 have h1:=uY (Nat.le_trans (Nat.div_le_self a (bJH a b)) ha)
 have h2:=uY (Nat.le_trans (Nat.div_le_self b (bJH a b)) hb)
 unfold gE
 rw[if_neg Om]
theorem SmF.lim {x:RF} {a b:Nat} (h:SmF x a b):cH x=true:=by
 have h1:=h.aEF
 have h2:=h.awP
 have h3:=h.den_pos
 have:=h.a
 have:=h.b
 have hn:x.neg=false:=by rw[h.eq]
 unfold cH mE
 rw[h.num,h.den,hn,PL Om Om h3,if_pos rfl,bmQ Om Om]
 have e1:=Nat.div_le_self (a/bJH a b) (bJH (a/bJH a b) (b/bJH a b))
 have e2:=Nat.div_le_self (b/bJH a b) (bJH (a/bJH a b) (b/bJH a b))
 simp only[bJI,bJQ,bJM,bJZ,decide_eq_true_eq]
 exact⟨uY Om,uY Om⟩
theorem SmF.tT {x:RF} {a b:Nat} (h:SmF x a b) (ha:0<a):cA x=true:=by
 unfold cA
 rw[h.num]
 exact decide_eq_true (Nat.ne_of_gt (Nat.div_pos (Nat.le_of_dvd ha (Nat.gcd_dvd_left a b)) (Nat.gcd_pos_of_pos_right a h.pos)))
theorem SmF.zero {x:RF} {b:Nat} (h:SmF x 0 b):cA x=false:=by
 unfold cA
 rw[h.num,Nat.zero_div]
 rfl
theorem SmF.one {x:RF} {a b:Nat} (h:SmF x a b) (hab:a≤b):rU x=true:=by
 have h1:=h.aEF
 have h2:=h.awP
 have h3:=h.den_pos
 have:=h.a
 have:=h.b
 have hn:x.neg=false:=by rw[h.eq]
 unfold rU
 rw[h.num,h.den,hn,PL Om Om h3]
 have:a/bJH a b≤b/bJH a b:=Nat.div_le_div_right hab
 show (true&&decide (dB (a/bJH a b*1) (1*(b/bJH a b))≤0))=true
 rw[Nat.mul_one,Nat.one_mul,bJM]
 refine decide_eq_true ?_
 unfold dB
 split
 ·decide
 ·split
  ·omega
  ·decide
theorem SmF.ok {x:RF} {a b:Nat} (h:SmF x a b):x.Ok:=by
 have h1:=h.aEF
 have h2:=h.awP
 have:=h.a
 have:=h.b
 have k1:nl (a/bJH a b)≤1:=(gP _ _).2 Om
 have k2:nl (b/bJH a b)≤1:=(gP _ _).2 Om
 rw[h.eq]
 refine⟨aS _,aS _,?_,?_⟩
 ·show (aG _).length≤_
  rw[aZ]; omega
 ·show (aG _).length≤_
  rw[aZ]; omega
theorem RY {l:List (List UInt8)} (h1:∀ x∈l,isName x=true) (h2:l.Nodup):distinct l=true:=by
 unfold distinct
 rw[bJW]
 intro i hi
 rw[bKE] at hi
 have e:l.getD i []=l[i]:=by simp[bJX,hi]
 rw[e,h1 _ (bJG hi),bJM]
 have:¬ l[i]∈l.take i:=by
  intro hm
  obtain⟨j,hj,e⟩:=bLL hm
  rw[bJU] at hj
  rw[List.getElem_take] at e
  have:=(List.nodup_iff_pairwise_ne.1 h2)
  rw[List.pairwise_iff_getElem] at this
  exact this j i Om hi Om e
 simp[this]
theorem MR {l:List (List UInt8)} {g:List UInt8→Nat} (h:∀ i (hi:i<l.length),g l[i]=i):l.Nodup:=by
 rw[List.nodup_iff_pairwise_ne,List.pairwise_iff_getElem]
 intro i j hi hj hlt e
 have h1:=h i hi
 have h2:=h j hj
 rw[e] at h1
 omega
theorem mV (a b:Nat) (ha:a<4294967296) (hb:b<4294967296):(mkT (a:Int) (b:Int)).Ok:=by
 rw[aQH]
 have h1:=Nat.div_le_self a (bJH a b)
 have h2:=Nat.div_le_self b (bJH a b)
 have k1:nl (a/bJH a b)≤1:=(gP _ _).2 Om
 have k2:nl (b/bJH a b)≤1:=(gP _ _).2 Om
 refine⟨aS _,aS _,?_,?_⟩
 ·show (aG _).length≤_
  rw[aZ]; omega
 ·show (aG _).length≤_
  rw[aZ]; omega
theorem jU {n:Nat} (h:n≤1000000):cV (n:Int):=by unfold cV; omega
def KD (ds:List bN):Prop:=∀ x∈ds,x.bHQ.Ok∧cV x.level∧cV x.parent
def YC (ds:List cC):Prop:=∀ x∈ds,cV x.model∧cV x.machine
theorem KD.dom {ds:List bN} (h:KD ds) {level parent bHY:Nat} (h1:level≤1000) (h2:parent≤1000):KD (dH ds level parent bHY):=fun x hx=>by
 unfold dH at hx
 rw[bKO,bKP] at hx
 rcases hx with hx | rfl
 ·exact h x hx
 ·exact⟨mV 0 1 (by decide) (by decide),jU Om,jU Om⟩
structure MOk (k:Nat) (a0:Nat) (s:MS):Prop where
 len:s.bHJ.length≤1+4*k
 bHJ:KD s.bHJ
 dlen:s.bHX.length≤9
 bHX:YC s.bHX
 room:s.room≤4*k
 rack:s.rack≤4*k
 lo:a0≤s.a
 hi:s.a≤a0+8*k
structure POk (k:Nat) (a0:Nat) (s:MS):Prop where
 len:s.bHJ.length≤4+4*k
 bHJ:KD s.bHJ
 dlen:s.bHX.length≤9
 bHX:YC s.bHX
 room:s.room≤3+4*k
 rack:s.rack≤3+4*k
 lo:a0≤s.a
 hi:s.a≤a0+8*k+4
theorem mU (ds:List bN) (a b c:Nat):(dH ds a b c).length=ds.length+1:=by simp[dH]
theorem TL (l:List Int) (i:Nat) {k a0:Nat} {s:MS} (hk:k≤100) (h:MOk k a0 s):POk k a0 (eH l i s):=by
 obtain⟨h1,h2,h3,h4,h5,h6,h7,h8⟩:=h
 have key:∀ a,s.a≤a→a≤s.a+1→POk k a0 ⟨dH (dH (dH s.bHJ 1 0 (16+nxM l 17 a)) 2 s.bHJ.length (16+nxM l 17 (a+1))) 3 (dH s.bHJ 1 0 (16+nxM l 17 a)).length (8+nxM l 9 (a+2)),s.bHX,s.bHJ.length,(dH s.bHJ 1 0 (16+nxM l 17 a)).length,(dH (dH s.bHJ 1 0 (16+nxM l 17 a)) 2 s.bHJ.length (16+nxM l 17 (a+1))).length,a+3⟩:=fun a g1 g2 =>
  ⟨by simp only[mU]; omega,((h2.dom Om Om).dom Om Om).dom Om (by rw[mU]; omega),h3,h4,by simp only[mU]; omega,by simp only[mU]; omega,by simp only; omega,by simp only; omega⟩
 unfold eH
 simp only
 split
 ·exact key _ (bJF _) Om
 ·split
  ·exact key _ Om (bJF _)
  ·split
   ·exact⟨by simp only[mU]; omega,h2.dom Om Om,h3,h4,by simp only; omega,by simp only; omega,by simp only; omega,by simp only; omega⟩
   ·exact⟨by simp only; omega,h2,h3,h4,by simp only; omega,by simp only; omega,by simp only; omega,by simp only; omega⟩
theorem amS (l:List Int) {m:Nat} (hm:m≤1000):∀ (k:Nat) (s:List cC × Nat),YC s.1→YC (iJ l m k s).1
 | 0,s,h=>h
 | k+1,s,h=>by
  rw[iJ]
  split
  ·refine amS l hm k _ fun x hx=>?_
   rw[bKO,bKP] at hx
   rcases hx with hx | rfl
   ·exact h x hx
   ·refine⟨jU ?_,jU Om⟩
    split<;>omega
  ·exact h
theorem aZJ (l:List Int) (i:Nat) {k a0:Nat} {s:MS} (hk:k≤100) (h:MOk k a0 s):MOk (k+1) a0 (xZ l i s):=by
 obtain⟨h1,h2,h3,h4,h5,h6,h7,h8⟩:=TL l i hk h
 have n2:=cK l (show 0<2 by decide) ((eH l i s).a+1)
 unfold xZ
 simp only
 obtain⟨g1,g2,g3⟩:=aNO l (eH l i s).bHJ.length (1+nxM l 2 ((eH l i s).a+1)) ((eH l i s).bHX,(eH l i s).a+2) h3
 have g4:=amS l (m:=(eH l i s).bHJ.length) Om (1+nxM l 2 ((eH l i s).a+1)) ((eH l i s).bHX,(eH l i s).a+2) h4
 simp only at g2 g3
 exact⟨by simp only[mU]; omega,h2.dom Om Om,g1,g4,by simp only; omega,by simp only; omega,by simp only; omega,by simp only; omega⟩
theorem oO (l:List Int) {a0:Nat} {s:MS} (h:MOk 0 a0 s):∀ k,k≤100→MOk k a0 (eF l s k)
 | 0,_=>h
 | k+1,hk=>aZJ l k Om (oO l h k Om)
theorem acE (a:Nat):MOk 0 a ⟨[iW],[],0,0,0,a⟩ :=
 ⟨by simp,fun x hx=>by
  rw[bKP] at hx
  subst hx
  exact⟨mV 0 1 (by decide) (by decide),by unfold cV iW; simp,by unfold cV iW; simp⟩,by simp,(fun x hx=>by cases hx),by simp,by simp,bJF _,by simp only; omega⟩
theorem pT (l:List Int):∀ n a,(gW l n a).length=n
 | 0,_=>rfl
 | n+1,a=>by rw[gW,bKQ,pT l n]
theorem yQ (l:List Int) (p:Nat):∀ n a,(kM l p n a).length=n
 | 0,_=>rfl
 | n+1,a=>by rw[kM,bKQ,yQ l p n]
theorem bmD:(mkT 1 2).Ok:=mV 1 2 (by decide) (by decide)
theorem bnL (l:List Int) (n a:Nat):(oG l n a).Ok:=by
 have n1:=cK l (show 0<2 by decide) a
 have n2:=cK l (show 0<3 by decide) (a+1)
 have n3:=cK l (Om:0<nxM l 3 (a+1)+1) (a+2)
 unfold oG
 refine⟨jU Om,jU Om,jU Om,?_,?_,⟨?_,?_⟩,mV 1 1000 (by decide) (by decide),mV 30 1 (by decide) (by decide)⟩
 ·simp only; split<;>decide
 ·simp only
  intro m hm
  split at hm
  ·rw[bKP] at hm; subst hm; exact jU (n:=0) (by decide)
  ·rw[bJR,bKP] at hm
   rcases hm with rfl | rfl
   ·exact jU (n:=0) (by decide)
   ·exact jU (n:=1) (by decide)
 ·show (bJE _ _).length≤_
  rw[bMG]; omega
 ·intro x hx
  rw[List.eq_of_mem_replicate hx]; exact bmD
theorem aFE (l:List Int):∀ n a,∀ p∈gW l n a,p.Ok
 | 0,_,p,h=>by cases h
 | n+1,a,p,h=>by
  rw[gW,bJR] at h
  rcases h with rfl | h
  ·exact bnL l _ _
  ·exact aFE l n _ p h
theorem aJO (l:List Int) {p:Nat} (hp:0<p) (hp2:p≤1000):∀ n a,∀ x∈kM l p n a,0≤x.bHM∧x.bHM<p∧cV x.bHM
 | 0,_,x,h=>by cases h
 | n+1,a,x,h=>by
  rw[kM,bJR] at h
  rcases h with rfl | h
  ·have:=cK l hp a
   exact⟨by simp only; omega,by simp only; omega,jU Om⟩
  ·exact aJO l hp hp2 n _ x h
theorem aFD (l:List Int):∀ n a,∀ p∈gW l n a,1≤p.k∧p.k≤2∧0≤p.m∧p.m≤2
 | 0,_,p,h=>by cases h
 | n+1,a,p,h=>by
  rw[gW,bJR] at h
  rcases h with rfl | h
  ·have n1:=cK l (show 0<2 by decide) a
   have n2:=cK l (show 0<3 by decide) (a+1)
   unfold oG
   simp only
   omega
  ·exact aFD l n _ p h
structure FM (f:aJ):Prop where
 ok:f.Ok
 km:∀ p∈f.bHC,1≤p.k∧p.k≤2∧0≤p.m∧p.m≤2
 bGY:f.bGY.length≤9
 pols:1≤f.bHC.length∧f.bHC.length≤2
 vols:∀ x∈f.bHA,0≤x.bHM∧x.bHM<f.bHC.length
theorem sV (l:List Int) {bHA:Nat} (hv:bHA≤1000) (a:Nat):FM (cW l bHA a).1∧(cW l bHA a).1.bHA.length≤1+bHA∧a≤(cW l bHA a).2∧(cW l bHA a).2≤a+100+bHA:=by
 have n3:=cK l (show 0<3 by decide) (a+6)
 obtain⟨h1,h2,h3,h4,-,-,h7,h8⟩:=oO l (acE (a+7)) (3+nxM l 3 (a+6)) Om
 unfold cW
 simp only
 generalize eF l ⟨[iW],[],0,0,0,a+7⟩ (3+nxM l 3 (a+6))=s at *
 have n2:=cK l (show 0<2 by decide) s.a
 have nv:nxM l bHA (s.a+1+6*(1+nxM l 2 s.a))≤bHA:=by
  rcases bMD bHA with e | e
  ·subst e; unfold nxM; simp
  ·exact Nat.le_of_lt (cK l e _)
 have n100:=cK l (show 0<100 by decide) (a+1)
 have hvo:=aJO l (p:=1+nxM l 2 s.a) Om Om (1+nxM l bHA (s.a+1+6*(1+nxM l 2 s.a))) (s.a+2+6*(1+nxM l 2 s.a))
 refine⟨⟨⟨by simp,by simp,by unfold Fits; simp only; omega,by unfold Fits; simp only; omega,by unfold Fits; rw[pT]; omega,by unfold Fits; rw[yQ]; omega,?_,h2,h4,fun p hp=>aFE l _ _ p hp,fun x hx=>(hvo x hx).2.2⟩,fun p hp=>aFD l _ _ p hp,h3,by rw[pT]; omega,fun x hx=>by rw[pT]; exact⟨(hvo x hx).1,by have:=(hvo x hx).2.1; omega⟩⟩,by rw[yQ]; omega,by omega,by omega⟩
 intro x hx
 rw[bKP] at hx
 subst hx
 refine⟨⟨by simp,fun x hx=>?_⟩,⟨by simp,fun x hx=>?_⟩,by simp,fun r hr=>?_⟩
 ·rw[bKP] at hx; subst hx; exact mV 1 1 (by decide) (by decide)
 ·rw[bKP] at hx; subst hx; exact mV 1 _ (by decide) Om
 ·rw[bKP] at hr
  subst hr
  refine⟨by simp,fun x hx=>?_⟩
  rw[bKP] at hx; subst hx; exact mV 0 1 (by decide) (by decide)
theorem FM.pol {f:aJ} (h:FM f) {v:Nat} (hv:v<f.bHA.length):tQ f v<f.bHC.length∧dM f v∈f.bHC:=by
 have h1:=h.vols _ (bJG hv)
 have h2:tQ f v=(f.bHA[v]).bHM.toNat:=by rw[tQ,nI hv]
 have h3:tQ f v<f.bHC.length:=by omega
 refine⟨h3,?_⟩
 unfold dM
 rw[bJX,bJN h3,bLQ]
 exact bJG h3
theorem FM.VG {f:aJ} (h:FM f) {v:Nat} (hv:v<f.bHA.length):1≤eY f v∧eY f v≤4:=by
 have:=h.km _ (h.pol hv).2
 unfold eY
 omega
theorem CN (l:List Int) (n a:Nat):∀ k,(jM l n a k).1.length=k∧a≤(jM l n a k).2∧(jM l n a k).2≤a+2*k
 | 0=>⟨rfl,bJF _,bJF _⟩
 | k+1=>by
  obtain⟨h1,h2,h3⟩:=CN l n a k
  rw[jM]
  simp only[bJL,bJT,h1,true_and]
  unfold uG
  simp only
  split
  ·simp only; omega
  ·split<;>simp only<;>omega
theorem nK (l:List Int) {f:aJ} (hf:FM f) (a:Nat):∀ k,k≤f.bHA.length→(cX l f a k).1.length=k∧(∀ r∈(cX l f a k).1,r.length≤4)∧a≤(cX l f a k).2∧(cX l f a k).2≤a+8*k
 | 0,_=>⟨rfl,(fun r h=>by cases h),bJF _,bJF _⟩
 | k+1,hk=>by
  obtain⟨h1,h2,h3,h4⟩:=nK l hf a k Om
  have hfr:=hf.VG (v:=k) Om
  obtain⟨r1,r2,r3⟩:=CN l f.bGY.length (cX l f a k).2 (eY f k).toNat
  rw[cX]
  simp only[bJL,bJT,h1,true_and]
  refine⟨fun r hr=>?_,by omega,by omega⟩
  rw[bKO,bKP] at hr
  rcases hr with hr | rfl
  ·exact h2 r hr
  ·rw[r1]; omega
def aGB:Rg:=[iA 2 (.box true (Tm 0)),iI 4 0]
def aGC:Rd:=[(iF 6 5 2,false),(iL 7 6,false),(iF 8 6 2,false),(iL 9 8,false),(iM 10 1,false),(iX 11 2 9 10,false),(iF 12 1 11,false),(iL 13 12,false),(iX 14 17 7 13,false),(iO 15 17 14,false),(iA 5 (.alloc [(.str []),(.int .i64 0),(.int .i64 0),(.int .i64 0),(.int .i64 0),(.int .i64 0),(.int .i64 0),(.int .i64 0),(.int .i64 0),.aB,.aB,(.bool false),.aB,.aB,(.bool false),.aB,.aB]),true),(iS 17 5 15,true)]
def aGD:Rg:=[iF 16 1 5,iL 17 16,iF 18 2 5,iL 19 18,iB 20 .add 17 19,iM 4 20]
def HH:aC:=(sq aGB (dq aGC (sq aGD .ret)))
def bhH:List Nat:=[2]
def adM:aV:=⟨2,21,HH,[.tmp 4]⟩
abbrev bvK (l:List Nat):List (List PV):=l.map fun (n:Nat)=>[PV.int .u8 (n:Int)]
abbrev auV (v:PV) (a:Nat):cQ:=.rows 2 [[v,.int .i64 a]]
structure Tp (l:List Nat) (v:PV):Prop where
 seen:Seen 1 v (bvK l)
 byte:∀ x∈l,x<256
 len:l.length≤400
section
variable {C:Ctx} {F:PF} {H:PH} {l:List Nat} {v:PV} {o a:Nat}
end
abbrev QZ (l:List RF):List (List PV):=l.map RF.cells
theorem aYM (l:List RF) (x:RF):QZ l++[x.cells]=QZ (l++[x]):=by simp[QZ]
theorem LJ (l:List RF):(QZ l).length=l.length:=by simp[QZ]
theorem Tp.frz {l:List Nat} {v:PV} (T:Tp l v) (q s:Nat) (rs:List (List PV)):PV.dC q s rs v=v:=by
 rcases T.seen with ⟨_,rfl⟩ | rfl<;>rfl



section
variable {C:Ctx} {F:PF} {H Hs:PH} {l:List Nat} {v:PV} {o a:Nat}
end
theorem bO.wK {H:PH} {s:Nat} {v:PV} {rows:List (List PV)} (h:bO H s v rows):PV.wK v=some (.int .i64 (rows.length:Nat)):=by
 rcases h with ⟨rfl,rfl⟩ | ⟨q,rs,rfl,_⟩<;>rfl
abbrev dJ (l:List bN):List (List PV):=l.map bN.cells
abbrev dZ (l:List cC):List (List PV):=l.map cC.cells
abbrev flB (ext wl wm wd wr wp wv:PV):cQ:=.rows 7 [[ext,wl,wm,wd,wr,wp,wv]]
structure GE where
 o:Nat
 fo:Nat
 qm:Nat
 ext:PV
 wl:PV
 wp:PV
 wv:PV
abbrev GE.boxes (G:GE) (v:PV) (mc:Nat) (wd wr:PV) (a:Nat):List BX:=[(G.o,auV v a),(G.fo,flB G.ext G.wl (.osl G.qm 4 0 mc) wd wr G.wp G.wv)]
theorem bO.one {H:PH} {s:Nat} {v:PV} {rows:List (List PV)} (h:bO H s v rows) (hn:0<rows.length):∃ q,v=.osl q s 0 rows.length:=by
 rcases h with ⟨rfl,_⟩ | ⟨q,rs,rfl,_⟩
 ·simp at hn
 ·exact⟨q,rfl⟩


structure FE where
 o:Nat
 o6:Nat
 o7:Nat
 bGY:Nat
 bHA:Nat
abbrev flZ:cQ:=flB (.int .i64 0) .aB .aB .aB .aB .aB .aB
abbrev FE.boxes (E:FE) (v ext w1 w2 w3 w4 w5 w6:PV) (a:Nat):List BX:=[(E.o,auV v a),(E.o7,flB ext w1 w2 w3 w4 w5 w6),(E.o6,flZ)]
abbrev aBW (l:List cM):List (List PV):=l.map cM.cells
abbrev a6G (l:List cU):List (List PV):=l.map cU.cells


abbrev FE.lists (w1 w2 w3 w4 w5:PV) (lw:List cM) (md:List cU) (dm:List bN) (dv:List cC) (pr:List (List PV)):List LI:=[(w1,4,aBW lw),(w2,4,a6G md),(w3,7,dJ dm),(w4,3,dZ dv),(w5,17,pr)]
abbrev kX (l:List dA):List (List PV):=l.map dA.cells
abbrev oQ (l:List dY):List (List PV):=l.map dY.cells
theorem qW {rows:List (List PV)} (h:∀ r∈rows,∀ c∈r,c.oid=none):Flat rows:=Flat.of fun r hr c hc q s rs=>uF (h r hr c hc) q s rs
theorem aNN (l:List bN):Flat (dJ l):=qW fun r hr c hc=>by
 obtain⟨x,_,rfl⟩:=bKI.1 hr
 simp only[bN.cells,bJR,bKS,or_false] at hc
 rcases hc with rfl | rfl | rfl | rfl | rfl | rfl | rfl<;>rfl
theorem aNP (l:List cC):Flat (dZ l):=qW fun r hr c hc=>by
 obtain⟨x,_,rfl⟩:=bKI.1 hr
 simp only[cC.cells,bJR,bKS,or_false] at hc
 rcases hc with rfl | rfl | rfl<;>rfl
theorem bpE (l:List dY):Flat (oQ l):=qW fun r hr c hc=>by
 obtain⟨x,_,rfl⟩:=bKI.1 hr
 simp only[dY.cells,bJR,bKS,or_false] at hc
 rcases hc with rfl | rfl<;>rfl
theorem aSC (l:List dA):Flat (kX l):=qW fun r hr c hc=>by
 obtain⟨x,_,rfl⟩:=bKI.1 hr
 simp only[dA.cells,bJR,bKS,or_false] at hc
 rcases hc with rfl | rfl | rfl | rfl | rfl | rfl | rfl | rfl | rfl | rfl | rfl | rfl | rfl | rfl | rfl | rfl | rfl<;>rfl
def a4A (l:List Nat) (v:PV) (o bGY bHA a:Nat) (r:PV) (H:PH):Prop:=Co r (.agg (aaL l bGY bHA a).1.cells)∧H=PH.nil.set o (auV v (aaL l bGY bHA a).2)
theorem a4A.exact {C:Ctx} {name:Nat} {args:List PV} {H:PH} {l:List Nat} {v:PV} {o bGY bHA a:Nat} (h:aD C name args H (a4A l v o bGY bHA a)):aD C name args H (fun r H=>r=.agg (aaL l bGY bHA a).1.cells∧H=PH.nil.set o (auV v (aaL l bGY bHA a).2)) :=
 h.post fun r H' hr=>⟨_,hr.1,rfl,hr.2⟩
theorem bvI (x:Int) {n:Int} (h:0<n):(if Int.tmod x n<0 then Int.tmod x n+n else Int.tmod x n)=x%n:=by
 rcases Int.le_total 0 x with c | c
 ·have e:=Int.tmod_eq_emod_of_nonneg c (b:=n)
  have h1:=Int.emod_nonneg x (Om:n≠0)
  rw[e,if_neg Om]
 ·have e:Int.tmod x n=-((-x)%n):=by rw[← Int.tmod_eq_emod_of_nonneg (Om:0≤-x),Int.neg_tmod,Int.neg_neg]
  have h1:=Int.emod_nonneg (-x) (Om:n≠0)
  have h2:=Int.neg_emod (a:=-x) (b:=n)
  rw[Int.neg_neg] at h2
  rw[e,h2]
  by_cases d:n ∣ -x
  ·rw[if_pos d,Int.emod_eq_zero_of_dvd d]
   simp
  ·have h3:(-x)%n≠0:=fun h=>d (Int.dvd_of_emod_eq_zero h)
   rw[if_neg d,if_pos Om]
   omega
abbrev bD (l:List Int) (a:Nat):cQ:=.rows 2 [[ints l,.int .i64 (a:Nat)]]
def QO (l:List Int) (o n a:Nat) (r:PV) (H:PH):Prop:=r=.int .i64 (nxM l n a:Nat)∧H=PH.nil.set o (bD l (a+1))
theorem bdP {C:Ctx} (l:List Int) (hl:l.length≤9223372036854775807) (h64:∀ x∈l,cV x) (o n a:Nat) (hn:n≤1000000) (ha:a≤1000000):EQ.wp C (aT EP.res (QO l o n a)) (PF.args [.ptr o 2 0 0,.int .i64 n]) (PH.nil.set o (bD l a)):=by
 have ew:IntKind.i64.wrap ((a:Int)+1)=((a+1:Nat):Int):=dE Om
 have e3:Int.tmod ((a:Nat):Int) 3=((a%3:Nat):Int):=rfl
 have rest:∀ (x:Int) (F:PF),cV x→x=l.getD a ((a%3:Nat):Int)→F 0=some (.ptr o 2 0 0)→F 1=some (.int .i64 n)→F 5=some (.int .i64 x) →
   aC.wp C (.seq (.region UW) (.seq (.seq (.region UX) (.cond (.tmp 40) (.seq (.region UY) .ret) .skip)) (.seq (.region UZ) (.seq (.seq (.region VA) (.cond (.tmp 45) (.seq (.region VB) .ret) .skip)) (.seq (.region KR) .ret))))) (aT EP.res (QO l o n a)) F (PH.nil.set o (bD l a)):=by
  intro x F hx he f0 f1 f5
  simp only[go_sem,γ,δ,ε,ζ,η,θ,ι,κ,μ,ν,ξ,ο,ρ,σ,τ,υ,reduceIte,reduceCtorEq,UW,f0,ew,UX,f1,EP]
  by_cases c:n=0
  ·have c':((n:Nat):Int)<1:=by omega
   simp only[go_sem,γ,δ,ε,ζ,η,θ,ι,κ,μ,ν,ξ,ο,ρ,σ,τ,υ,reduceIte,reduceCtorEq,c',UY]
   refine aX (vs:=[.int .i64 0]) (.inr rfl) _ rfl PH.le_refl ⟨?_,rfl⟩
   unfold nxM
   rw[if_pos c]; rfl
  ·have c':¬ ((n:Nat):Int)<1:=by omega
   have hn0:¬ ((n:Nat):Int)=0:=by omega
   have hm:=bvI x (Om:(0:Int)<n)
   have h1:=Int.emod_nonneg x (Om:(n:Int)≠0)
   have h2:=Int.emod_lt_of_pos x (Om:(0:Int)<n)
   have hT:nxM l n a=(x%(n:Int)).toNat:=by unfold nxM; rw[if_neg c,he]
   simp only[go_sem,γ,δ,ε,ζ,η,θ,ι,κ,μ,ν,ξ,ο,ρ,σ,τ,υ,reduceIte,reduceCtorEq,c',UZ,f5,f1,hn0,VA]
   by_cases d:Int.tmod x n<0
   ·rw[if_pos d] at hm
    have e4:IntKind.i64.wrap (Int.tmod x n+n)=((nxM l n a:Nat):Int):=by rw[hm,wrap_i64 Om Om,hT]; omega
    simp only[go_sem,γ,δ,ε,ζ,η,θ,ι,κ,μ,ν,ξ,ο,ρ,σ,τ,υ,reduceIte,reduceCtorEq,d,VB,f1,e4]
    exact aX (vs:=[.int .i64 (nxM l n a:Nat)]) (.inr rfl) _ rfl PH.le_refl ⟨rfl,rfl⟩
   ·rw[if_neg d] at hm
    have e4:Int.tmod x n=((nxM l n a:Nat):Int):=by rw[hm,hT]; omega
    have d':¬ ((nxM l n a:Nat):Int)<0:=by omega
    simp only[go_sem,γ,δ,ε,ζ,η,θ,ι,κ,μ,ν,ξ,ο,ρ,σ,τ,υ,reduceIte,reduceCtorEq,e4,d',KR]
    exact aX (vs:=[.int .i64 (nxM l n a:Nat)]) (.inr rfl) _ rfl PH.le_refl ⟨rfl,rfl⟩
 simp only[aC.wp,go_sem] at rest
 simp only[go_sem,γ,δ,ε,ζ,η,θ,ι,κ,μ,ν,ξ,ο,ρ,σ,τ,υ,reduceIte,reduceCtorEq,EQ,axD,axE,EP,e3]
 refine bU .nil eD PH.nil_le ?_
 simp only[go_sem,γ,δ,ε,ζ,η,θ,ι,κ,μ,ν,ξ,ο,ρ,σ,τ,υ,reduceIte,reduceCtorEq,axF,bJC]
 by_cases c:a<l.length
 ·have c':(a:Int)<(l.length:Nat):=by omega
  have hat:(l.map fun n=>[PV.int .i64 n])[a]?=some [.int .i64 l[a]]:=by simp[c]
  simp only[go_sem,γ,δ,ε,ζ,η,θ,ι,κ,μ,ν,ξ,ο,ρ,σ,τ,υ,reduceIte,reduceCtorEq,c']
  refine bU .nil eD PH.nil_le ?_
  simp only[go_sem,γ,δ,ε,ζ,η,θ,ι,κ,μ,ν,ξ,ο,ρ,σ,τ,υ,reduceIte,reduceCtorEq,axG,hat]
  refine rest l[a] _ (h64 _ (bJG c)) (by simp[bJX,c]) ?_ ?_ ?_
  all_goals exact rfl
 ·have c':¬ (a:Int)<(l.length:Nat):=by omega
  simp only[go_sem,γ,δ,ε,ζ,η,θ,ι,κ,μ,ν,ξ,ο,ρ,σ,τ,υ,reduceIte,reduceCtorEq,c']
  refine rest ((a%3:Nat):Int) _ (by unfold cV; omega) (by simp[bJX,bKM (Om:l.length≤a)]) ?_ ?_ ?_
  all_goals exact rfl
def TpM (l:List Int):Prop:=l.length≤9223372036854775807∧∀ x∈l,cV x
structure DF (C:Ctx):Prop where
 fmk:∀ n d:Int,cV n→cV d→aD C 50 [.int .i64 n,.int .i64 d] .nil (aE (CY n d))
 next:∀ l:List Int,TpM l→∀ o n a:Nat,n≤1000000→a≤1000000→aD C 240 [.ptr o 2 0 0,.int .i64 n] (PH.nil.set o (bD l a)) (QO l o n a)
theorem cE {C:Ctx} {F:PF} {H:PH} {l:List Int} {o a:Nat} (Lb:DF C) (T:TpM l) {n:Nat} {args:List aP} {d:Option Nat} {K:PF→PH→Prop} (hn:n≤1000000) (ha:a≤1000000) (bIR:aP.evs F args=some [.ptr o 2 0 0,.int .i64 n]) (ho:H o=some (bD l a))
  (hk:K (F.put d (.int .i64 (nxM l n a:Nat))) (H.set o (bD l (a+1)))):fP C 240 args [] d K F H :=
 oS (Lb.next l T o n a hn ha) ho bIR hk
theorem bdG {C:Ctx} (Lb:DF C) (n d:Int) (h1:cV n) (h2:cV d) (hd:d≠0):EL.wp C (aT ZR.res (aE (.agg (mkT n d).cells))) (PF.args [.int .i64 n,.int .i64 d]) .nil:=by
 simp only[go_sem,γ,δ,ε,ζ,η,θ,ι,κ,μ,ν,ξ,ο,ρ,σ,τ,υ,reduceIte,reduceCtorEq,EL,awQ,ZR]
 refine aQ fun p hp=>?_
 simp only[go_sem,γ,δ,ε,ζ,η,θ,ι,κ,μ,ν,ξ,ο,ρ,σ,τ,υ,reduceIte,reduceCtorEq,awR]
 refine aA (Lb.fmk n d h1 h2) rfl ?_
 unfold CY
 rw[if_neg hd]
 simp only[go_sem,γ,δ,ε,ζ,η,θ,ι,κ,μ,ν,ξ,ο,ρ,σ,τ,υ,reduceIte,reduceCtorEq]
 refine aQ fun q hq=>?_
 have n3:¬ q=p:=(cY.1 hq).1
 have n3':¬ p=q:=fun h=>n3 h.symm
 simp only[go_sem,γ,δ,ε,ζ,η,θ,ι,κ,μ,ν,ξ,ο,ρ,σ,τ,υ,reduceIte,reduceCtorEq,awS,n3,n3']
 refine aM (vs:=[.agg (mkT n d).cells]) (.inr rfl) ?_ rfl
 simp only[go_sem,γ,δ,ε,ζ,η,θ,ι,κ,μ,ν,ξ,ο,ρ,σ,τ,υ,reduceIte,reduceCtorEq]
theorem bdN {C:Ctx} (c:UInt8) (n:Nat) (hn:n<100):EO.wp C (aT aaD.res (aE (.str (dK c n)))) (PF.args [.int .u8 c.toNat,.int .i64 n]) .nil:=by
 have e1:bKX ((n:Nat):Int) 26=((n/26:Nat):Int):=rfl
 have e2:Int.tmod ((n/26:Nat):Int) 26=((n/26%26:Nat):Int):=rfl
 have e3:Int.tmod ((n:Nat):Int) 26=((n%26:Nat):Int):=rfl
 have w1:IntKind.i64.wrap (97+((n/26%26:Nat):Int))=((97+n/26%26:Nat):Int):=by rw[wrap_i64 Om Om]; omega
 have w2:IntKind.i64.wrap (97+((n%26:Nat):Int))=((97+n%26:Nat):Int):=by rw[wrap_i64 Om Om]; omega
 have w3:IntKind.u8.wrap ((97+n/26%26:Nat):Int)=((97+n/26%26:Nat):Int):=wrap_u8 Om Om
 have w4:IntKind.u8.wrap ((97+n%26:Nat):Int)=((97+n%26:Nat):Int):=wrap_u8 Om Om
 have w0:IntKind.i64.wrap ((n/26:Nat):Int)=((n/26:Nat):Int):=xH Om
 have hbr:pA [[PV.int .u8 ((c.toNat:Nat):Int)],[PV.int .u8 ((97+n/26%26:Nat):Int)],[PV.int .u8 ((97+n%26:Nat):Int)]]=some (dK c n):=by
  show some [UInt8.ofNat c.toNat,_,_]=_
  rw[UInt8.ofNat_toNat]
  rfl
 have h13:(1:Nat)*3≤16777216:=by decide
 simp only[go_sem,γ,δ,ε,ζ,η,θ,ι,κ,μ,ν,ξ,ο,ρ,σ,τ,υ,reduceIte,reduceCtorEq,EO,axB,axC,aaD,e1,w0,e2,e3,w1,w2,w3,w4,h13,hbr]
 refine aM (.inr rfl) rfl ?_
 rfl
structure oH (C:Ctx):Prop extends DF C where
 frac:∀ n d:Int,cV n→cV d→d≠0→aD C 241 [.int .i64 n,.int .i64 d] .nil (aE (.agg (mkT n d).cells))
 name:∀ (c:UInt8) (n:Nat),n<100→aD C 242 [.int .u8 c.toNat,.int .i64 n] .nil (aE (.str (dK c n)))
def mdS (l:List Int):Spec:=fun name vs=>match name,vs with
 | 242,[.int _ c,.int _ i]=>some ([],fun _=>aE (.str (dK (UInt8.ofNat c.toNat) i.toNat)))
 | 241,[.int _ n,.int _ d]=>some ([],fun _=>aE (.agg (mkT n d).cells))
 | 240,[.ptr o _ _ _,.int _ n]=>some ([o],fun H0 r H'=>∀ a,H0 o=some (bD l a)→QO l o n.toNat a r H')
 | _,_=>none
section
variable {C:Ctx} {F:PF} {H Hs:PH} {l:List Int} {o a:Nat}
theorem a4O (Lb:DF C) (T:TpM l) {n:Nat} {st:Bool} {args:List aP} {d:Option Nat} {K:PF→PH→Prop} (hn:n≤1000000) (ha:a≤1000000) (bIR:aP.evs F args=some [.ptr o 2 0 0,.int .i64 n]) (ho:H o=some (bD l a))
  (hle:Hs.le (H.set o (bD l (a+1)))) (hk:K (F.put d (.int .i64 (nxM l n a:Nat))) (H.set o (bD l (a+1)))):dOp C Hs (mdS l) st (.call 240 args) d K F H:=by
 refine awN (x:=bD l a) (y:=bD l (a+1)) (r:=.int .i64 (nxM l n a:Nat)) (R:=fun H0 r H'=>∀ a,H0 o=some (bD l a)→QO l o n a r H') rfl ho (Lb.next l T o n a hn ha) ?_ ?_ bIR hle hk
 ·intro b hb
  rw[fI] at hb
  injection hb with hb
  injection hb with _ hb
  injection hb with hb _
  injection hb with _ hb
  injection hb with hb _
  injection hb with _ hb
  have:a=b:=by omega
  subst this
  exact⟨rfl,rfl⟩
 ·intro r' H' hr
  exact hr a (by rw[fI])
theorem KN (Lb:oH C) {c:UInt8} {n:Nat} {st:Bool} {args:List aP} {d:Option Nat} {K:PF→PH→Prop} (hn:n<100) (bIR:aP.evs F args=some [.int .u8 c.toNat,.int .i64 n]) (hle:Hs.le H) (hk:K (F.put d (.str (dK c n))) H):dOp C Hs (mdS l) st (.call 242 args) d K F H :=
 bQ (v:=.str (dK c n)) (by show some _=_; rw[bMF,UInt8.ofNat_toNat]; rfl) (Lb.name c n hn) bIR hle hk
theorem alX (Lb:oH C) {n m:Int} {st:Bool} {args:List aP} {d:Option Nat} {K:PF→PH→Prop} (hn:cV n) (hm:cV m) (h0:m≠0) (bIR:aP.evs F args=some [.int .i64 n,.int .i64 m]) (hle:Hs.le H) (hk:K (F.put d (.agg (mkT n m).cells)) H):dOp C Hs (mdS l) st (.call 241 args) d K F H :=
 bQ (v:=.agg (mkT n m).cells) rfl (Lb.frac n m hn hm h0) bIR hle hk
end
def bpX (o7:Nat) (ext w1 w2 w4 w5 w6:PV) (ds:List bN) (lev par up:Nat) (r:PV) (B':List BX) (L':List LI):Prop:=r=.int .i64 (ds.length:Nat)∧∃ w',B'=[(o7,flB ext w1 w2 w' w4 w5 w6)]∧L'=[(w',7,dJ (dH ds lev par up))]
theorem bkN {C:Ctx} (Lb:oH C) (o7:Nat) (ext w1 w2 wd w4 w5 w6:PV) (ds:List bN) (hds:ds.length≤90) (lev par up:Nat) (H0:PH) (hH:aU H0 [(o7,flB ext w1 w2 wd w4 w5 w6)] [(wd,7,dJ ds)]) :
  KO.wp C (aT awO.res (fun r H'=>∃ B' L',bpX o7 ext w1 w2 w4 w5 w6 ds lev par up r B' L'∧aU H' B' L')) (PF.args [.ptr o7 7 0 0,.int .i64 lev,.int .i64 par,.int .i64 up]) H0:=by
 have b:=hH.at 0 rfl
 have lw:=(hH.own 0 rfl).wK
 rw[bJC] at lw
 simp only[go_sem,γ,δ,ε,ζ,η,θ,ι,κ,μ,ν,ξ,ο,ρ,σ,τ,υ,reduceIte,reduceCtorEq,KO,aNG,aNH,awO,b,lw]
 refine bU (PH.nil.set o7 (flB ext w1 w2 wd w4 w5 w6)) (mdS []) (PH.aI PH.nil_le b) ?_
 simp only[go_sem,γ,δ,ε,ζ,η,θ,ι,κ,μ,ν,ξ,ο,ρ,σ,τ,υ,reduceIte,reduceCtorEq,aNI]
 refine KN Lb (c:=110) (n:=ds.length) Om rfl (PH.aI PH.nil_le b) ?_
 simp only[go_sem,γ,δ,ε,ζ,η,θ,ι,κ,μ,ν,ξ,ο,ρ,σ,τ,υ,reduceIte,reduceCtorEq]
 refine alX Lb (n:=0) (m:=1) (by unfold cV; omega) (by unfold cV; omega) (by decide) rfl (PH.aI PH.nil_le b) ?_
 have h17:(1:Nat)*7≤16777216:=by decide
 simp only[go_sem,γ,δ,ε,ζ,η,θ,ι,κ,μ,ν,ξ,ο,ρ,σ,τ,υ,reduceIte,reduceCtorEq,h17]
 refine hH.append 0 (src:=[(⟨dK 110 ds.length,(lev:Nat),(par:Nat),(up:Nat),oE⟩:bN).cells]) rfl rfl (by unfold roomFor; rw[bJC]; simp only[bJT,maxLen]; omega) fun w' H2 h5 hw=>?_
 obtain⟨q,rfl⟩:=hw (by simp)
 have b2:=h5.at 0 rfl
 refine⟨PH.aI PH.nil_le b2,?_⟩
 refine bU .nil eD PH.nil_le ?_
 simp only[go_sem,γ,δ,ε,ζ,η,θ,ι,κ,μ,ν,ξ,ο,ρ,σ,τ,υ,reduceIte,reduceCtorEq,aNJ,b2,bJR,bKS,or_false,forall_eq]
 have h6:=h5.set 0 rfl (flB ext w1 w2 (.osl q 7 0 (dJ ds++[(⟨dK 110 ds.length,(lev:Nat),(par:Nat),(up:Nat),oE⟩:bN).cells]).length) w4 w5 w6)
 refine⟨PH.nil_le,?_⟩
 simp only[go_sem,γ,δ,ε,ζ,η,θ,ι,κ,μ,ν,ξ,ο,ρ,σ,τ,υ,reduceIte,reduceCtorEq,aNK]
 have e:dJ (dH ds lev par up)=dJ ds++[(⟨dK 110 ds.length,(lev:Nat),(par:Nat),(up:Nat),oE⟩:bN).cells]:=by simp[dJ,dH]
 refine aX (vs:=[.int .i64 (ds.length:Nat)]) (.inr rfl) _ rfl PH.le_refl ⟨_,_,⟨rfl,.osl q 7 0 (dJ ds++[(⟨dK 110 ds.length,(lev:Nat),(par:Nat),(up:Nat),oE⟩:bN).cells]).length,rfl,rfl⟩,?_⟩
 rw[e]
 exact h6
structure BO (C:Ctx):Prop extends oH C where
 dom:∀ (o7:Nat) (ext w1 w2 wd w4 w5 w6:PV) (ds:List bN),ds.length≤90→∀ (lev par up:Nat) (H0:PH),aU H0 [(o7,flB ext w1 w2 wd w4 w5 w6)] [(wd,7,dJ ds)] →
  aD C 243 [.ptr o7 7 0 0,.int .i64 lev,.int .i64 par,.int .i64 up] H0 (fun r H'=>∃ B' L',bpX o7 ext w1 w2 w4 w5 w6 ds lev par up r B' L'∧aU H' B' L')
theorem rC {C:Ctx} {F:PF} {H:PH} (Lb:BO C) {o7:Nat} {ext w1 w2 wd w4 w5 w6:PV} {ds:List bN} {B2:List BX} {L2:List LI} {lev par up:Nat} {args:List aP} {d:Option Nat} {K:PF→PH→Prop}
  (h:aU H ((o7,flB ext w1 w2 wd w4 w5 w6)::B2) ((wd,7,dJ ds)::L2)) (hds:ds.length≤90) (bIR:aP.evs F args=some [.ptr o7 7 0 0,.int .i64 lev,.int .i64 par,.int .i64 up])
  (hk:∀ wd' H',aU H' ((o7,flB ext w1 w2 wd' w4 w5 w6)::B2) ((wd',7,dJ (dH ds lev par up))::L2)→K (F.put d (.int .i64 (ds.length:Nat))) H'):fP C 243 args [] d K F H:=by
 refine UG (B1:=[(o7,flB ext w1 w2 wd w4 w5 w6)]) (L1:=[(wd,7,dJ ds)]) h (fun H0 hH0=>Lb.dom o7 ext w1 w2 wd w4 w5 w6 ds hds lev par up H0 hH0) bIR ?_
 rintro r B' L' H' ⟨rfl,wd',rfl,rfl⟩ h'
 exact hk wd' H' h'
structure ME where
 o:Nat
 o4:Nat
 o5:Nat
 vols:Nat
abbrev ME.boxes (E:ME) (l:List Int) (ext w1 w2 wd wr wp wv:PV) (a:Nat):List BX:=[(E.o5,flB ext w1 w2 wd wr wp wv),(E.o,bD l a),(E.o4,flZ)]
def tL (E:ME):PF:=((((PF.nil.set 0 (.ptr E.o 2 0 0)).set 1 (.int .i64 E.vols)).set 4 (.ptr E.o4 7 0 0)).set 5 (.ptr E.o5 7 0 0))
def eR (E:ME) (n room rack i:Nat):PF:=((((((((PF.nil.set 0 (.ptr E.o 2 0 0)).set 1 (.int .i64 E.vols)).set 4 (.ptr E.o4 7 0 0)).set 5 (.ptr E.o5 7 0 0)).set 6 (.int .i64 n)).set 8 (.int .i64 room)).set 9 (.int .i64 rack)).set 10 (.int .i64 i))
def jJ (E:ME) (n room rack i m k:Nat):PF:=((((((((((PF.nil.set 0 (.ptr E.o 2 0 0)).set 1 (.int .i64 E.vols)).set 4 (.ptr E.o4 7 0 0)).set 5 (.ptr E.o5 7 0 0)).set 6 (.int .i64 n)).set 8 (.int .i64 room)).set 9 (.int .i64 rack)).set 10 (.int .i64 i)).set 11 (.int .i64 m)).set 12 (.int .i64 k))
theorem bkP {C:Ctx} (Lb:oH C) {l:List Int} (T:TpM l) (E:ME) (n room rack i m:Nat) (ext w1 w2 wd:PV) (ds:List bN) (k0:Nat) (s0:List cC × Nat) (wr0:PV) (h0:s0.1.length≤9) (ha:s0.2+k0≤100000) (K:cO) (F:PF) (H:PH)
  (hF:(jJ E n room rack i m k0).le F) (hH:aU H (E.boxes l ext w1 w2 wd wr0 .aB .aB s0.2) [(wd,7,dJ ds),(wr0,3,dZ s0.1)])
  (hK:∀ wr F' H',(eR E n room rack i).le F'→aU H' (E.boxes l ext w1 w2 wd wr .aB .aB (iJ l m k0 s0).2) [(wd,7,dJ ds),(wr,3,dZ (iJ l m k0 s0).1)]→K (.exit 2) F' H') :
  aC.wp C (.loop qL) K F H:=by
 refine wp_loop (α:=Nat × (List cC × Nat) × PV × PH) (fun t=>jJ E n room rack i m t.1) (fun t=>t.2.2.2)
  (fun t=>iJ l m t.1 t.2.1=iJ l m k0 s0∧t.2.1.1.length≤9∧t.2.1.2+t.1≤100000∧aU t.2.2.2 (E.boxes l ext w1 w2 wd t.2.2.1 .aB .aB t.2.1.2) [(wd,7,dJ ds),(t.2.2.1,3,dZ t.2.1.1)]) (fun t=>t.1) (k0,s0,wr0,H) ⟨rfl,h0,ha,hH⟩ hF PH.le_refl ?_
 rintro⟨k,s,wr,H0⟩ ⟨hE,hl,hb,hH⟩
 simp only at hE hl hb hH ⊢
 have b5:=hH.at 0 rfl
 have lw:=(hH.own 1 rfl).wK
 rw[bJC] at lw
 simp only[go_sem,γ,δ,ε,ζ,η,θ,ι,κ,μ,ν,ξ,ο,ρ,σ,τ,υ,reduceIte,reduceCtorEq,qL,YY,jJ]
 have out:∀ F',(jJ E n room rack i m k).le F'→iJ l m k s=s→K (.exit 2) F' H0:=fun F' hF' e=>by
  refine hK wr F' H0 ?_ (by rw[← hE,e]; exact hH)
  have h1:(eR E n room rack i).le (jJ E n room rack i m k):=by
   unfold eR jJ
   exact Lq
  exact fun j u hj=>hF' j u (h1 j u hj)
 cases k with
 | zero =>
  have hc:¬ (((0:Nat):Int)>0):=by omega
  simp only[go_sem,γ,δ,ε,ζ,η,θ,ι,κ,μ,ν,ξ,ο,ρ,σ,τ,υ,reduceIte,reduceCtorEq,hc]
  refine out _ ?_ rfl
  unfold jJ
  exact Lq
 | succ k =>
  have hc:(((k+1:Nat):Int)>0):=by omega
  by_cases c:s.1.length<9
  ·have c':((s.1.length:Nat):Int)<9:=by omega
   have e1:IntKind.i64.wrap (((k+1:Nat):Int)-1)=((k:Nat):Int):=by rw[wrap_i64 Om Om]; omega
   simp only[go_sem,γ,δ,ε,ζ,η,θ,ι,κ,μ,ν,ξ,ο,ρ,σ,τ,υ,reduceIte,reduceCtorEq,hc,b5,lw,c',YZ,ZA]
   refine cE Lb.toDF T (o:=E.o) (n:=4) (a:=s.2) (by decide) Om rfl (hH.at 1 rfl) ?_
   have h1:=hH.set 1 rfl (bD l (s.2+1))
   have b1:=h1.at 0 rfl
   have go:∀ (x:Nat) (F':PF),x=(if nxM l 4 s.2=0 then 1 else 0)→(jJ E n room rack i m (k+1)).le F'→F' 13=some (.int .i64 x) →
     aC.wp C (.seq (.seq (.draw EA) (.draw EB)) (.region EC)) (eA (fun t:Nat × (List cC × Nat) × PV × PH=>jJ E n room rack i m t.1) (fun t=>t.2.2.2)
      (fun t=>iJ l m t.1 t.2.1=iJ l m k0 s0∧t.2.1.1.length≤9∧t.2.1.2+t.1≤100000∧aU t.2.2.2 (E.boxes l ext w1 w2 wd t.2.2.1 .aB .aB t.2.1.2) [(wd,7,dJ ds),(t.2.2.1,3,dZ t.2.1.1)]) (fun t=>t.1) (k+1) K) F' (H0.set E.o (bD l (s.2+1))):=by
    intro x F' hx hF' f13
    have f0:F' 0=some (.ptr E.o 2 0 0):=hF' 0 _ (by unfold jJ; simp only[go_sem,γ,δ,ε,ζ,η,θ,ι,κ,μ,ν,ξ,ο,ρ,σ,τ,υ,reduceIte,reduceCtorEq])
    have f1:F' 1=some (.int .i64 E.vols):=hF' 1 _ (by unfold jJ; simp only[go_sem,γ,δ,ε,ζ,η,θ,ι,κ,μ,ν,ξ,ο,ρ,σ,τ,υ,reduceIte,reduceCtorEq])
    have f4:F' 4=some (.ptr E.o4 7 0 0):=hF' 4 _ (by unfold jJ; simp only[go_sem,γ,δ,ε,ζ,η,θ,ι,κ,μ,ν,ξ,ο,ρ,σ,τ,υ,reduceIte,reduceCtorEq])
    have f5:F' 5=some (.ptr E.o5 7 0 0):=hF' 5 _ (by unfold jJ; simp only[go_sem,γ,δ,ε,ζ,η,θ,ι,κ,μ,ν,ξ,ο,ρ,σ,τ,υ,reduceIte,reduceCtorEq])
    have f6:F' 6=some (.int .i64 n):=hF' 6 _ (by unfold jJ; simp only[go_sem,γ,δ,ε,ζ,η,θ,ι,κ,μ,ν,ξ,ο,ρ,σ,τ,υ,reduceIte,reduceCtorEq])
    have f8:F' 8=some (.int .i64 room):=hF' 8 _ (by unfold jJ; simp only[go_sem,γ,δ,ε,ζ,η,θ,ι,κ,μ,ν,ξ,ο,ρ,σ,τ,υ,reduceIte,reduceCtorEq])
    have f9:F' 9=some (.int .i64 rack):=hF' 9 _ (by unfold jJ; simp only[go_sem,γ,δ,ε,ζ,η,θ,ι,κ,μ,ν,ξ,ο,ρ,σ,τ,υ,reduceIte,reduceCtorEq])
    have f10:F' 10=some (.int .i64 i):=hF' 10 _ (by unfold jJ; simp only[go_sem,γ,δ,ε,ζ,η,θ,ι,κ,μ,ν,ξ,ο,ρ,σ,τ,υ,reduceIte,reduceCtorEq])
    have f11:F' 11=some (.int .i64 m):=hF' 11 _ (by unfold jJ; simp only[go_sem,γ,δ,ε,ζ,η,θ,ι,κ,μ,ν,ξ,ο,ρ,σ,τ,υ,reduceIte,reduceCtorEq])
    have f12:F' 12=some (.int .i64 (k+1:Nat)):=hF' 12 _ (by unfold jJ; simp only[go_sem,γ,δ,ε,ζ,η,θ,ι,κ,μ,ν,ξ,ο,ρ,σ,τ,υ,reduceIte,reduceCtorEq])
    simp only[go_sem,γ,δ,ε,ζ,η,θ,ι,κ,μ,ν,ξ,ο,ρ,σ,τ,υ,reduceIte,reduceCtorEq]
    refine bU (PH.nil.set E.o5 (flB ext w1 w2 wd wr .aB .aB)) (mdS l) (PH.aI PH.nil_le b1) ?_
    have h13:(1:Nat)*3≤16777216:=by decide
    simp only[go_sem,γ,δ,ε,ζ,η,θ,ι,κ,μ,ν,ξ,ο,ρ,σ,τ,υ,reduceIte,reduceCtorEq,EA,f5,b1,lw]
    refine KN Lb (c:=100) (n:=s.1.length) Om rfl (PH.aI PH.nil_le b1) ?_
    simp only[go_sem,γ,δ,ε,ζ,η,θ,ι,κ,μ,ν,ξ,ο,ρ,σ,τ,υ,reduceIte,reduceCtorEq,f13,f11,h13]
    refine h1.append 1 (src:=[(⟨dK 100 s.1.length,(x:Nat),(m:Nat)⟩:cC).cells]) rfl rfl (by unfold roomFor; rw[bJC]; simp only[bJT,maxLen]; omega) fun w' H2 h5 hw=>?_
    obtain⟨q,rfl⟩:=hw (by simp)
    have b2:=h5.at 0 rfl
    simp only[go_sem,γ,δ,ε,ζ,η,θ,ι,κ,μ,ν,ξ,ο,ρ,σ,τ,υ,reduceIte,reduceCtorEq,f5]
    refine⟨PH.aI PH.nil_le b2,?_⟩
    refine bU .nil eD PH.nil_le ?_
    simp only[go_sem,γ,δ,ε,ζ,η,θ,ι,κ,μ,ν,ξ,ο,ρ,σ,τ,υ,reduceIte,reduceCtorEq,EB,f5,b2,bJR,bKS,or_false,forall_eq]
    have h6:=h5.set 0 rfl (flB ext w1 w2 wd (.osl q 3 0 (dZ s.1++[(⟨dK 100 s.1.length,(x:Nat),(m:Nat)⟩:cC).cells]).length) .aB .aB)
    refine⟨PH.nil_le,?_⟩
    simp only[go_sem,γ,δ,ε,ζ,η,θ,ι,κ,μ,ν,ξ,ο,ρ,σ,τ,υ,reduceIte,reduceCtorEq,EC,f12,e1]
    refine aK (k,(s.1++[⟨dK 100 s.1.length,(x:Nat),(m:Nat)⟩],s.2+1),.osl q 3 0 (dZ s.1++[(⟨dK 100 s.1.length,(x:Nat),(m:Nat)⟩:cC).cells]).length,_) ⟨?_,by simp only[bJL,bJT]; omega,by simp only; omega,?_⟩ (by simp only; omega) ?_ PH.le_refl
    ·simp only
     rw[← hE,iJ,if_pos c,hx]
    ·have e:dZ (s.1++[⟨dK 100 s.1.length,(x:Nat),(m:Nat)⟩])=dZ s.1++[(⟨dK 100 s.1.length,(x:Nat),(m:Nat)⟩:cC).cells]:=by simp[dZ]
     simp only
     rw[e]
     exact h6
    ·unfold jJ
     exact Lq
   simp only[aC.wp,go_sem] at go
   by_cases d:nxM l 4 s.2=0
   ·simp only[go_sem,γ,δ,ε,ζ,η,θ,ι,κ,μ,ν,ξ,ο,ρ,σ,τ,υ,reduceIte,reduceCtorEq,bW (Om:((nxM l 4 s.2:Nat):Int)=0),ZB]
    refine go 1 _ (by rw[if_pos d]) ?_ rfl
    unfold jJ
    exact Lq
   ·simp only[go_sem,γ,δ,ε,ζ,η,θ,ι,κ,μ,ν,ξ,ο,ρ,σ,τ,υ,reduceIte,reduceCtorEq,bF (Om:((nxM l 4 s.2:Nat):Int)≠0)]
    refine go 0 _ (by rw[if_neg d]) ?_ rfl
    unfold jJ
    exact Lq
  ·have c':¬ ((s.1.length:Nat):Int)<9:=by omega
   simp only[go_sem,γ,δ,ε,ζ,η,θ,ι,κ,μ,ν,ξ,ο,ρ,σ,τ,υ,reduceIte,reduceCtorEq,hc,b5,lw,c']
   refine out _ ?_ (by rw[iJ,if_neg c])
   unfold jJ
   exact Lq
theorem gI {a b:Nat} (h:a+b≤1000000):IntKind.i64.wrap ((a:Int)+(b:Int))=((a+b:Nat):Int):=xH Om
theorem aNL {C:Ctx} (Lb:BO C) {l:List Int} (T:TpM l) (E:ME) (n room rack i a:Nat) (ha:a≤100000) (ext w1 w2 wd wr:PV) (ds:List bN) (hds:ds.length≤60) (L2:List LI) (K:cO) (F:PF) (H:PH)
  (hF:(eR E n room rack i).le F) (hH:aU H (E.boxes l ext w1 w2 wd wr .aB .aB a) ((wd,7,dJ ds)::L2))
  (hK:∀ wd' F' H',(eR E n (dH ds 1 0 (16+nxM l 17 a)).length (dH (dH ds 1 0 (16+nxM l 17 a)) 2 ds.length (16+nxM l 17 (a+1))).length i).le F' →
   aU H' (E.boxes l ext w1 w2 wd' wr .aB .aB (a+3)) ((wd',7,dJ (dH (dH (dH ds 1 0 (16+nxM l 17 a)) 2 ds.length (16+nxM l 17 (a+1))) 3 (dH ds 1 0 (16+nxM l 17 a)).length (8+nxM l 9 (a+2))))::L2)→K .normal F' H') :
  aC.wp C (.seq (.region DX) (.seq (.region DY) (.region DZ))) K F H:=by
 have f0:F 0=some (.ptr E.o 2 0 0):=hF 0 _ (by unfold eR; simp only[go_sem,γ,δ,ε,ζ,η,θ,ι,κ,μ,ν,ξ,ο,ρ,σ,τ,υ,reduceIte,reduceCtorEq])
 have f1:F 1=some (.int .i64 E.vols):=hF 1 _ (by unfold eR; simp only[go_sem,γ,δ,ε,ζ,η,θ,ι,κ,μ,ν,ξ,ο,ρ,σ,τ,υ,reduceIte,reduceCtorEq])
 have f4:F 4=some (.ptr E.o4 7 0 0):=hF 4 _ (by unfold eR; simp only[go_sem,γ,δ,ε,ζ,η,θ,ι,κ,μ,ν,ξ,ο,ρ,σ,τ,υ,reduceIte,reduceCtorEq])
 have f5:F 5=some (.ptr E.o5 7 0 0):=hF 5 _ (by unfold eR; simp only[go_sem,γ,δ,ε,ζ,η,θ,ι,κ,μ,ν,ξ,ο,ρ,σ,τ,υ,reduceIte,reduceCtorEq])
 have f6:F 6=some (.int .i64 n):=hF 6 _ (by unfold eR; simp only[go_sem,γ,δ,ε,ζ,η,θ,ι,κ,μ,ν,ξ,ο,ρ,σ,τ,υ,reduceIte,reduceCtorEq])
 have f10:F 10=some (.int .i64 i):=hF 10 _ (by unfold eR; simp only[go_sem,γ,δ,ε,ζ,η,θ,ι,κ,μ,ν,ξ,ο,ρ,σ,τ,υ,reduceIte,reduceCtorEq])
 have n1:=cK l (show 0<17 by decide) a
 have n2:=cK l (show 0<17 by decide) (a+1)
 have n3:=cK l (show 0<9 by decide) (a+2)
 have e1:IntKind.i64.wrap (16+((nxM l 17 a:Nat):Int))=((16+nxM l 17 a:Nat):Int):=gI (a:=16) Om
 have e2:IntKind.i64.wrap (16+((nxM l 17 (a+1):Nat):Int))=((16+nxM l 17 (a+1):Nat):Int):=gI (a:=16) Om
 have e3:IntKind.i64.wrap (8+((nxM l 9 (a+2):Nat):Int))=((8+nxM l 9 (a+2):Nat):Int):=gI (a:=8) Om
 have c1:=mU ds 1 0 (16+nxM l 17 a)
 have c2:=mU (dH ds 1 0 (16+nxM l 17 a)) 2 ds.length (16+nxM l 17 (a+1))
 simp only[go_sem,γ,δ,ε,ζ,η,θ,ι,κ,μ,ν,ξ,ο,ρ,σ,τ,υ,reduceIte,reduceCtorEq,DX,f0]
 refine cE Lb.toDF T (o:=E.o) (n:=17) (a:=a) (by decide) Om rfl (hH.at 1 rfl) ?_
 have h1:=hH.set 1 rfl (bD l (a+1))
 simp only[go_sem,γ,δ,ε,ζ,η,θ,ι,κ,μ,ν,ξ,ο,ρ,σ,τ,υ,reduceIte,reduceCtorEq,e1,f5]
 refine rC Lb (lev:=1) (par:=0) (up:=16+nxM l 17 a) h1 Om (by simp only[go_sem,γ,δ,ε,ζ,η,θ,ι,κ,μ,ν,ξ,ο,ρ,σ,τ,υ,reduceIte,reduceCtorEq,f5]; rfl) fun wd1 H1 h2=>?_
 simp only[go_sem,γ,δ,ε,ζ,η,θ,ι,κ,μ,ν,ξ,ο,ρ,σ,τ,υ,reduceIte,reduceCtorEq,DY,f0]
 refine cE Lb.toDF T (o:=E.o) (n:=17) (a:=a+1) (by decide) Om rfl (h2.at 1 rfl) ?_
 have h3:=h2.set 1 rfl (bD l (a+1+1))
 simp only[go_sem,γ,δ,ε,ζ,η,θ,ι,κ,μ,ν,ξ,ο,ρ,σ,τ,υ,reduceIte,reduceCtorEq,e2,f5]
 refine rC Lb (lev:=2) (par:=ds.length) (up:=16+nxM l 17 (a+1)) h3 Om (by simp only[go_sem,γ,δ,ε,ζ,η,θ,ι,κ,μ,ν,ξ,ο,ρ,σ,τ,υ,reduceIte,reduceCtorEq,f5]; rfl) fun wd2 H2 h4=>?_
 simp only[go_sem,γ,δ,ε,ζ,η,θ,ι,κ,μ,ν,ξ,ο,ρ,σ,τ,υ,reduceIte,reduceCtorEq,DZ,f0]
 refine cE Lb.toDF T (o:=E.o) (n:=9) (a:=a+2) (by decide) Om rfl (h4.at 1 rfl) ?_
 have h5:=h4.set 1 rfl (bD l (a+2+1))
 simp only[go_sem,γ,δ,ε,ζ,η,θ,ι,κ,μ,ν,ξ,ο,ρ,σ,τ,υ,reduceIte,reduceCtorEq,e3,f5]
 refine rC Lb (lev:=3) (par:=(dH ds 1 0 (16+nxM l 17 a)).length) (up:=8+nxM l 9 (a+2)) h5 Om (by simp only[go_sem,γ,δ,ε,ζ,η,θ,ι,κ,μ,ν,ξ,ο,ρ,σ,τ,υ,reduceIte,reduceCtorEq,f5]; rfl) fun wd3 H3 h6=>?_
 simp only[go_sem,γ,δ,ε,ζ,η,θ,ι,κ,μ,ν,ξ,ο,ρ,σ,τ,υ,reduceIte,reduceCtorEq]
 refine hK wd3 _ _ ?_ h6
 unfold eR
 exact Lq
theorem bdE {C:Ctx} (Lb:BO C) {l:List Int} (T:TpM l) (E:ME) (n i:Nat) (p:MS) (hp:p.a≤50000) (hl:p.bHJ.length≤60) (hd:p.bHX.length≤9) (ext w1 w2 wd wr:PV) (K:cO) (F:PF) (H:PH)
  (hF:(eR E n p.room p.rack i).le F) (hH:aU H (E.boxes l ext w1 w2 wd wr .aB .aB p.a) [(wd,7,dJ p.bHJ),(wr,3,dZ p.bHX)])
  (hK:∀ wd' wr' F' H',(eR E n p.room p.rack i).le F'→aU H' (E.boxes l ext w1 w2 wd' wr' .aB .aB (iJ l p.bHJ.length (1+nxM l 2 (p.a+1)) (p.bHX,p.a+2)).2) [(wd',7,dJ (dH p.bHJ 4 p.rack (8+nxM l 9 p.a))),(wr',3,dZ (iJ l p.bHJ.length (1+nxM l 2 (p.a+1)) (p.bHX,p.a+2)).1)]→K .normal F' H') :
  aC.wp C (.seq (.region tW) (.seq (.region tX) (.block 2 (.loop qL)))) K F H:=by
 have f0:F 0=some (.ptr E.o 2 0 0):=hF 0 _ (by unfold eR; simp only[go_sem,γ,δ,ε,ζ,η,θ,ι,κ,μ,ν,ξ,ο,ρ,σ,τ,υ,reduceIte,reduceCtorEq])
 have f1:F 1=some (.int .i64 E.vols):=hF 1 _ (by unfold eR; simp only[go_sem,γ,δ,ε,ζ,η,θ,ι,κ,μ,ν,ξ,ο,ρ,σ,τ,υ,reduceIte,reduceCtorEq])
 have f4:F 4=some (.ptr E.o4 7 0 0):=hF 4 _ (by unfold eR; simp only[go_sem,γ,δ,ε,ζ,η,θ,ι,κ,μ,ν,ξ,ο,ρ,σ,τ,υ,reduceIte,reduceCtorEq])
 have f5:F 5=some (.ptr E.o5 7 0 0):=hF 5 _ (by unfold eR; simp only[go_sem,γ,δ,ε,ζ,η,θ,ι,κ,μ,ν,ξ,ο,ρ,σ,τ,υ,reduceIte,reduceCtorEq])
 have f6:F 6=some (.int .i64 n):=hF 6 _ (by unfold eR; simp only[go_sem,γ,δ,ε,ζ,η,θ,ι,κ,μ,ν,ξ,ο,ρ,σ,τ,υ,reduceIte,reduceCtorEq])
 have f8:F 8=some (.int .i64 p.room):=hF 8 _ (by unfold eR; simp only[go_sem,γ,δ,ε,ζ,η,θ,ι,κ,μ,ν,ξ,ο,ρ,σ,τ,υ,reduceIte,reduceCtorEq])
 have f9:F 9=some (.int .i64 p.rack):=hF 9 _ (by unfold eR; simp only[go_sem,γ,δ,ε,ζ,η,θ,ι,κ,μ,ν,ξ,ο,ρ,σ,τ,υ,reduceIte,reduceCtorEq])
 have f10:F 10=some (.int .i64 i):=hF 10 _ (by unfold eR; simp only[go_sem,γ,δ,ε,ζ,η,θ,ι,κ,μ,ν,ξ,ο,ρ,σ,τ,υ,reduceIte,reduceCtorEq])
 have n1:=cK l (show 0<9 by decide) p.a
 have n2:=cK l (show 0<2 by decide) (p.a+1)
 have e1:IntKind.i64.wrap (8+((nxM l 9 p.a:Nat):Int))=((8+nxM l 9 p.a:Nat):Int):=gI (a:=8) Om
 have e2:IntKind.i64.wrap (1+((nxM l 2 (p.a+1):Nat):Int))=((1+nxM l 2 (p.a+1):Nat):Int):=gI (a:=1) Om
 simp only[go_sem,γ,δ,ε,ζ,η,θ,ι,κ,μ,ν,ξ,ο,ρ,σ,τ,υ,reduceIte,reduceCtorEq,tW,f0,f9]
 refine cE Lb.toDF T (o:=E.o) (n:=9) (a:=p.a) (by decide) Om rfl (hH.at 1 rfl) ?_
 have h1:=hH.set 1 rfl (bD l (p.a+1))
 simp only[go_sem,γ,δ,ε,ζ,η,θ,ι,κ,μ,ν,ξ,ο,ρ,σ,τ,υ,reduceIte,reduceCtorEq,e1,f5,f9]
 refine rC Lb (lev:=4) (par:=p.rack) (up:=8+nxM l 9 p.a) h1 Om (by simp only[go_sem,γ,δ,ε,ζ,η,θ,ι,κ,μ,ν,ξ,ο,ρ,σ,τ,υ,reduceIte,reduceCtorEq,f5,f9]; rfl) fun wd1 H1 h2=>?_
 simp only[go_sem,γ,δ,ε,ζ,η,θ,ι,κ,μ,ν,ξ,ο,ρ,σ,τ,υ,reduceIte,reduceCtorEq,tX,f0]
 refine cE Lb.toDF T (o:=E.o) (n:=2) (a:=p.a+1) (by decide) Om rfl (h2.at 1 rfl) ?_
 have h3:=h2.set 1 rfl (bD l (p.a+1+1))
 simp only[go_sem,γ,δ,ε,ζ,η,θ,ι,κ,μ,ν,ξ,ο,ρ,σ,τ,υ,reduceIte,reduceCtorEq,e2]
 refine bkP Lb.tooH T E n p.room p.rack i p.bHJ.length ext w1 w2 wd1 _ (1+nxM l 2 (p.a+1)) (p.bHX,p.a+2) wr hd (by simp only; omega) _ _ _ ?_ h3 ?_
 ·unfold jJ
  exact Lq
 ·intro wr' F' H' hF' h'
  exact hK wd1 wr' F' H' hF' h'
theorem a4P {C:Ctx} (Lb:BO C) {l:List Int} (T:TpM l) (E:ME) (n a0:Nat) (hn:n≤10) (ha:a0≤10000) (ext w1 w2 wd0:PV) (K:cO) (F:PF) (H:PH)
  (hF:(eR E n 0 0 0).le F) (hH:aU H (E.boxes l ext w1 w2 wd0 .aB .aB .aB a0) [(wd0,7,dJ [iW]),(.aB,3,dZ [])])
  (hK:∀ wd wr F' H',(tL E).le F'→aU H' (E.boxes l ext w1 w2 wd wr .aB .aB (eF l ⟨[iW],[],0,0,0,a0⟩ n).a) [(wd,7,dJ (eF l ⟨[iW],[],0,0,0,a0⟩ n).bHJ),(wr,3,dZ (eF l ⟨[iW],[],0,0,0,a0⟩ n).bHX)]→K (.exit 0) F' H') :
  aC.wp C (.loop DS) K F H:=by
 generalize hs0:(⟨[iW],[],0,0,0,a0⟩:MS)=s0 at *
 have hM0:MOk 0 a0 s0:=by rw[← hs0]; exact acE a0
 refine wp_loop (α:=Nat × PV × PV × PH) (fun t=>eR E n (eF l s0 t.1).room (eF l s0 t.1).rack t.1) (fun t=>t.2.2.2)
  (fun t=>t.1≤n∧aU t.2.2.2 (E.boxes l ext w1 w2 t.2.1 t.2.2.1 .aB .aB (eF l s0 t.1).a) [(t.2.1,7,dJ (eF l s0 t.1).bHJ),(t.2.2.1,3,dZ (eF l s0 t.1).bHX)]) (fun t=>n-t.1) (0,wd0,.aB,H) ⟨bJO _,by rw[← hs0]; exact hH⟩ (by rw[← hs0]; exact hF) PH.le_refl ?_
 rintro⟨i,wd,wr,H0⟩ ⟨hi,hH⟩
 simp only at hi hH ⊢
 have hM:=oO l hM0 i Om
 have bHG:eF l s0 (i+1)=xZ l i (eF l s0 i):=rfl
 generalize hs:eF l s0 i=s at *
 obtain⟨m1,m2,m3,m4,m5,m6,m7,m8⟩:=hM
 simp only[go_sem,γ,δ,ε,ζ,η,θ,ι,κ,μ,ν,ξ,ο,ρ,σ,τ,υ,reduceIte,reduceCtorEq,DS,amG,eR]
 by_cases hlt:i<n
 ·have bHF:(i:Int)<(n:Nat):=by omega
  have rest:∀ (p:MS) (wd':PV) (F':PF) (H':PH),eH l i s=p→(eR E n p.room p.rack i).le F'→aU H' (E.boxes l ext w1 w2 wd' wr .aB .aB p.a) [(wd',7,dJ p.bHJ),(wr,3,dZ p.bHX)] →
    aC.wp C (.seq (.region tW) (.seq (.region tX) (.block 2 (.loop qL)))) (dU 1 (gY C (aC.wp C (.region ED)) (eA (fun t:Nat × PV × PV × PH=>eR E n (eF l s0 t.1).room (eF l s0 t.1).rack t.1) (fun t=>t.2.2.2)
     (fun t=>t.1≤n∧aU t.2.2.2 (E.boxes l ext w1 w2 t.2.1 t.2.2.1 .aB .aB (eF l s0 t.1).a) [(t.2.1,7,dJ (eF l s0 t.1).bHJ),(t.2.2.1,3,dZ (eF l s0 t.1).bHX)]) (fun t=>n-t.1) (n-i) K))) F' H':=by
   intro p wd' F' H' hp hF' h'
   obtain⟨p1,p2,p3,p4,p5,p6,p7,p8⟩:=TL l i (k:=i) (a0:=a0) Om (⟨m1,m2,m3,m4,m5,m6,m7,m8⟩:MOk i a0 s)
   rw[hp] at p1 p3 p7 p8
   refine bdE Lb T E n i p Om Om p3 ext w1 w2 wd' wr _ _ _ hF' h' ?_
   intro wd2 wr2 F2 H2 hF2 h2
   have f0:F2 0=some (.ptr E.o 2 0 0):=hF2 0 _ (by unfold eR; simp only[go_sem,γ,δ,ε,ζ,η,θ,ι,κ,μ,ν,ξ,ο,ρ,σ,τ,υ,reduceIte,reduceCtorEq])
   have f1:F2 1=some (.int .i64 E.vols):=hF2 1 _ (by unfold eR; simp only[go_sem,γ,δ,ε,ζ,η,θ,ι,κ,μ,ν,ξ,ο,ρ,σ,τ,υ,reduceIte,reduceCtorEq])
   have f4:F2 4=some (.ptr E.o4 7 0 0):=hF2 4 _ (by unfold eR; simp only[go_sem,γ,δ,ε,ζ,η,θ,ι,κ,μ,ν,ξ,ο,ρ,σ,τ,υ,reduceIte,reduceCtorEq])
   have f5:F2 5=some (.ptr E.o5 7 0 0):=hF2 5 _ (by unfold eR; simp only[go_sem,γ,δ,ε,ζ,η,θ,ι,κ,μ,ν,ξ,ο,ρ,σ,τ,υ,reduceIte,reduceCtorEq])
   have f6:F2 6=some (.int .i64 n):=hF2 6 _ (by unfold eR; simp only[go_sem,γ,δ,ε,ζ,η,θ,ι,κ,μ,ν,ξ,ο,ρ,σ,τ,υ,reduceIte,reduceCtorEq])
   have f8:F2 8=some (.int .i64 p.room):=hF2 8 _ (by unfold eR; simp only[go_sem,γ,δ,ε,ζ,η,θ,ι,κ,μ,ν,ξ,ο,ρ,σ,τ,υ,reduceIte,reduceCtorEq])
   have f9:F2 9=some (.int .i64 p.rack):=hF2 9 _ (by unfold eR; simp only[go_sem,γ,δ,ε,ζ,η,θ,ι,κ,μ,ν,ξ,ο,ρ,σ,τ,υ,reduceIte,reduceCtorEq])
   have f10:F2 10=some (.int .i64 i):=hF2 10 _ (by unfold eR; simp only[go_sem,γ,δ,ε,ζ,η,θ,ι,κ,μ,ν,ξ,ο,ρ,σ,τ,υ,reduceIte,reduceCtorEq])
   have hnew:eF l s0 (i+1)={ p with bHJ:=dH p.bHJ 4 p.rack (8+nxM l 9 p.a),bHX:=(iJ l p.bHJ.length (1+nxM l 2 (p.a+1)) (p.bHX,p.a+2)).1,a:=(iJ l p.bHJ.length (1+nxM l 2 (p.a+1)) (p.bHX,p.a+2)).2 }:=by
    rw[bHG]; unfold xZ; rw[hp]
   simp only[go_sem,γ,δ,ε,ζ,η,θ,ι,κ,μ,ν,ξ,ο,ρ,σ,τ,υ,reduceIte,reduceCtorEq,ED,f10,wZz i]
   refine aK (i+1,wd2,wr2,H2) ⟨hlt,?_⟩ (by simp only; omega) ?_ PH.le_refl
   ·simp only
    rw[hnew]
    exact h2
   ·simp only
    rw[hnew]
    unfold eR
    exact Lq
  have hp0:=fun p (h:eH l i s=p)=>h
  simp only[go_sem,γ,δ,ε,ζ,η,θ,ι,κ,μ,ν,ξ,ο,ρ,σ,τ,υ,reduceIte,reduceCtorEq,bHF,amH]
  by_cases c0:i=0
  ·simp only[go_sem,γ,δ,ε,ζ,η,θ,ι,κ,μ,ν,ξ,ο,ρ,σ,τ,υ,reduceIte,reduceCtorEq,bW (Om:((i:Nat):Int)=0)]
   refine aNL Lb T E n s.room s.rack i s.a Om ext w1 w2 wd wr s.bHJ Om [(wr,3,dZ s.bHX)] _ _ _ (by unfold eR; exact Lq) hH ?_
   intro wd' F' H' hF' h'
   have hp:eH l i s=⟨dH (dH (dH s.bHJ 1 0 (16+nxM l 17 s.a)) 2 s.bHJ.length (16+nxM l 17 (s.a+1))) 3 (dH s.bHJ 1 0 (16+nxM l 17 s.a)).length (8+nxM l 9 (s.a+2)),s.bHX,s.bHJ.length,(dH s.bHJ 1 0 (16+nxM l 17 s.a)).length,(dH (dH s.bHJ 1 0 (16+nxM l 17 s.a)) 2 s.bHJ.length (16+nxM l 17 (s.a+1))).length,s.a+3⟩:=by
    unfold eH
    simp only
    rw[if_pos c0]
   exact rest _ wd' F' H' hp hF' h'
  simp only[go_sem,γ,δ,ε,ζ,η,θ,ι,κ,μ,ν,ξ,ο,ρ,σ,τ,υ,reduceIte,reduceCtorEq,bF (Om:((i:Nat):Int)≠0)]
  refine cE Lb.toDF T (o:=E.o) (n:=4) (a:=s.a) (by decide) Om rfl (hH.at 1 rfl) ?_
  have h1:=hH.set 1 rfl (bD l (s.a+1))
  by_cases c1:nxM l 4 s.a=0
  ·simp only[go_sem,γ,δ,ε,ζ,η,θ,ι,κ,μ,ν,ξ,ο,ρ,σ,τ,υ,reduceIte,reduceCtorEq,bW (Om:((nxM l 4 s.a:Nat):Int)=0)]
   refine aNL Lb T E n s.room s.rack i (s.a+1) Om ext w1 w2 wd wr s.bHJ Om [(wr,3,dZ s.bHX)] _ _ _ (by unfold eR; exact Lq) h1 ?_
   intro wd' F' H' hF' h'
   have hp:eH l i s=⟨dH (dH (dH s.bHJ 1 0 (16+nxM l 17 (s.a+1))) 2 s.bHJ.length (16+nxM l 17 (s.a+1+1))) 3 (dH s.bHJ 1 0 (16+nxM l 17 (s.a+1))).length (8+nxM l 9 (s.a+1+2)),s.bHX,s.bHJ.length,(dH s.bHJ 1 0 (16+nxM l 17 (s.a+1))).length,(dH (dH s.bHJ 1 0 (16+nxM l 17 (s.a+1))) 2 s.bHJ.length (16+nxM l 17 (s.a+1+1))).length,s.a+1+3⟩:=by
    unfold eH
    simp only
    rw[if_neg c0,if_pos c1]
   exact rest _ wd' F' H' hp hF' h'
  simp only[go_sem,γ,δ,ε,ζ,η,θ,ι,κ,μ,ν,ξ,ο,ρ,σ,τ,υ,reduceIte,reduceCtorEq,bF (Om:((nxM l 4 s.a:Nat):Int)≠0),YW]
  refine cE Lb.toDF T (o:=E.o) (n:=2) (a:=s.a+1) (by decide) Om rfl (h1.at 1 rfl) ?_
  have h2:=h1.set 1 rfl (bD l (s.a+1+1))
  rw[PH.set_set] at h2
  by_cases c2:nxM l 2 (s.a+1)=0
  ·have n3:=cK l (show 0<9 by decide) (s.a+2)
   have e3:IntKind.i64.wrap (8+((nxM l 9 (s.a+2):Nat):Int))=((8+nxM l 9 (s.a+2):Nat):Int):=gI (a:=8) Om
   simp only[go_sem,γ,δ,ε,ζ,η,θ,ι,κ,μ,ν,ξ,ο,ρ,σ,τ,υ,reduceIte,reduceCtorEq,bW (show ((nxM l 2 (s.a+1):Nat):Int)=0 by omega),YX]
   refine cE Lb.toDF T (o:=E.o) (n:=9) (a:=s.a+2) (by decide) Om rfl (h2.at 1 rfl) ?_
   have h3:=h2.set 1 rfl (bD l (s.a+2+1))
   rw[PH.set_set] at h3
   simp only[go_sem,γ,δ,ε,ζ,η,θ,ι,κ,μ,ν,ξ,ο,ρ,σ,τ,υ,reduceIte,reduceCtorEq,e3]
   refine rC Lb (lev:=3) (par:=s.room) (up:=8+nxM l 9 (s.a+2)) h3 Om rfl fun wd3 H3 h4=>?_
   have hp:eH l i s=⟨dH s.bHJ 3 s.room (8+nxM l 9 (s.a+2)),s.bHX,s.site,s.room,s.bHJ.length,s.a+3⟩:=by
    unfold eH
    simp only
    rw[if_neg c0,if_neg c1,if_pos c2]
   simp only[go_sem,γ,δ,ε,ζ,η,θ,ι,κ,μ,ν,ξ,ο,ρ,σ,τ,υ,reduceIte,reduceCtorEq]
   exact rest _ wd3 _ _ hp (by unfold eR; exact Lq) h4
  ·have hp:eH l i s={ s with a:=s.a+2 }:=by
    unfold eH
    simp only
    rw[if_neg c0,if_neg c1,if_neg c2]
   simp only[go_sem,γ,δ,ε,ζ,η,θ,ι,κ,μ,ν,ξ,ο,ρ,σ,τ,υ,reduceIte,reduceCtorEq,bF (show ((nxM l 2 (s.a+1):Nat):Int)≠0 by omega)]
   exact rest _ wd _ _ hp (by unfold eR; exact Lq) h2
 ·have bHF:¬ (i:Int)<(n:Nat):=by omega
  have:i=n:=by omega
  subst this
  simp only[go_sem,γ,δ,ε,ζ,η,θ,ι,κ,μ,ν,ξ,ο,ρ,σ,τ,υ,reduceIte,reduceCtorEq,bHF]
  refine hK wd wr _ _ ?_ ?_
  ·unfold tL
   exact Lq
  ·rw[hs]; exact hH
abbrev lO (P:dA) (w:PV):List PV:=[.str P.name,.int .i64 P.k,.int .i64 P.m,.int .i64 P.bIC,.int .i64 P.s0,.int .i64 P.s1,.int .i64 P.s2,.int .i64 P.s3,.int .i64 P.s4,ints P.bGZ,w,
 .bool P.target.neg,aF P.target.num,aF P.target.den,.bool P.bHK.neg,aF P.bHK.num,aF P.bHK.den]
def tM (E:ME) (t m q j:Nat):PF:=((((((((PF.nil.set 0 (.ptr E.o 2 0 0)).set 1 (.int .i64 E.vols)).set 4 (.ptr E.o4 7 0 0)).set 5 (.ptr E.o5 7 0 0)).set 14 (.int .i64 t)).set 16 (.int .i64 m)).set 17 (.ptr q 17 0 0)).set 18 (.int .i64 j))
def yW (E:ME) (t m q:Nat):PF:=(((((((PF.nil.set 0 (.ptr E.o 2 0 0)).set 1 (.int .i64 E.vols)).set 4 (.ptr E.o4 7 0 0)).set 5 (.ptr E.o5 7 0 0)).set 14 (.int .i64 t)).set 16 (.int .i64 m)).set 17 (.ptr q 17 0 0))
abbrev sY (n:Nat):List (List PV):=QZ (bJE n (mkT 1 2))
theorem aLK (n:Nat):sY n++[(mkT 1 2).cells]=sY (n+1):=by
 unfold sY
 rw[List.replicate_succ',aYM]
theorem bkR {C:Ctx} (Lb:oH C) (E:ME) (t m q:Nat) (P:dA) (B:List BX) (L:List LI) (hm:m≤100) (K:cO) (F:PF) (H:PH)
  (hF:(tM E t m q 0).le F) (hH:aU H ((q,.rows 17 [lO P .aB])::B) L)
  (hK:∀ w F' H',(tM E t m q (max m 1)).le F'→aU H' ((q,.rows 17 [lO P w])::B) (L++[(w,3,sY (max m 1))])→K (.exit 6) F' H') :
  aC.wp C (.loop DT) K F H:=by
 refine wp_loop (α:=Nat × PV × PH) (fun s=>tM E t m q s.1) (fun s=>s.2.2) (fun s=>s.1≤max m 1∧aU s.2.2 ((q,.rows 17 [lO P s.2.1])::B) (L++[(s.2.1,3,sY s.1)])) (fun s=>max m 1-s.1) (0,.aB,H) ⟨bJO _,hH.rR 3⟩ hF PH.le_refl ?_
 rintro⟨j,w,H0⟩ ⟨hj,hH⟩
 simp only at hj hH ⊢
 have emax:max ((m:Nat):Int) 1=((max m 1:Nat):Int):=by omega
 simp only[go_sem,γ,δ,ε,ζ,η,θ,ι,κ,μ,ν,ξ,ο,ρ,σ,τ,υ,reduceIte,reduceCtorEq,DT,ZF,tM,max_eq,emax]
 by_cases hlt:j<max m 1
 ·have bHF:(j:Int)<((max m 1:Nat):Int):=by omega
  have b:=hH.at 0 rfl
  simp only[go_sem,γ,δ,ε,ζ,η,θ,ι,κ,μ,ν,ξ,ο,ρ,σ,τ,υ,reduceIte,reduceCtorEq,bHF]
  refine bU (PH.nil.set q (.rows 17 [lO P w])) (mdS []) (PH.aI PH.nil_le b) ?_
  simp only[go_sem,γ,δ,ε,ζ,η,θ,ι,κ,μ,ν,ξ,ο,ρ,σ,τ,υ,reduceIte,reduceCtorEq,ZG,b]
  refine alX Lb (n:=1) (m:=2) (by unfold cV; omega) (by unfold cV; omega) (by decide) rfl (PH.aI PH.nil_le b) ?_
  have h13:(1:Nat)*3≤16777216:=by decide
  simp only[go_sem,γ,δ,ε,ζ,η,θ,ι,κ,μ,ν,ξ,ο,ρ,σ,τ,υ,reduceIte,reduceCtorEq,h13]
  refine hH.append (v:=w) (s:=3) (rows:=sY j) L.length (src:=[(mkT 1 2).cells]) (by simp) rfl (by unfold roomFor; rw[LJ,bMG]; simp only[bJT,maxLen]; omega) fun w' H2 h5 hw=>?_
  obtain⟨z,rfl⟩:=hw (by simp)
  rw[bMR _ _ (bJF _),bLY] at h5
  have b2:=h5.at 0 rfl
  refine⟨PH.aI PH.nil_le b2,?_⟩
  refine bU .nil eD PH.nil_le ?_
  simp only[go_sem,γ,δ,ε,ζ,η,θ,ι,κ,μ,ν,ξ,ο,ρ,σ,τ,υ,reduceIte,reduceCtorEq,ZH,b2,bJR,bKS,or_false,forall_eq]
  have h6:=h5.set 0 rfl (.rows 17 [lO P (.osl z 3 0 (sY j++[(mkT 1 2).cells]).length)])
  refine⟨PH.nil_le,?_⟩
  simp only[go_sem,γ,δ,ε,ζ,η,θ,ι,κ,μ,ν,ξ,ο,ρ,σ,τ,υ,reduceIte,reduceCtorEq,ZI,wZz j]
  refine aK (j+1,.osl z 3 0 (sY j++[(mkT 1 2).cells]).length,_) ⟨hlt,?_⟩ (by simp only; omega) ?_ PH.le_refl
  ·simp only
   rw[← aLK]
   exact h6
  ·exact Lq
 ·have bHF:¬ (j:Int)<((max m 1:Nat):Int):=by omega
  have:j=max m 1:=by omega
  subst this
  simp only[go_sem,γ,δ,ε,ζ,η,θ,ι,κ,μ,ν,ξ,ο,ρ,σ,τ,υ,reduceIte,reduceCtorEq,bHF]
  refine hK w _ _ ?_ hH
  unfold tM
  exact Lq
theorem bkQ {C:Ctx} (Lb:oH C) {l:List Int} (T:TpM l) (E:ME) (t a:Nat) (ht:t<100) (ha:a≤50000) (ext w1 w2 wd wr wp:PV) (L:List LI) (X:aC) (K:cO) (F:PF) (H:PH)
  (f0:F 0=some (.ptr E.o 2 0 0)) (f1:F 1=some (.int .i64 E.vols)) (f4:F 4=some (.ptr E.o4 7 0 0)) (f5:F 5=some (.ptr E.o5 7 0 0)) (f14:F 14=some (.int .i64 t))
  (hH:aU H (E.boxes l ext w1 w2 wd wr wp .aB a) L)
  (hK:∀ q F' H',(yW E t (nxM l 3 (a+1)) q).le F'→aU H' ((q,.rows 17 [lO (oG l t a) .aB])::E.boxes l ext w1 w2 wd wr wp .aB (a+6)) L→aC.wp C X K F' H') :
  aC.wp C (.seq (.region EE) (.seq (.region EF) (.seq (.region EG) (.seq (.region EH) (.seq (.region EI) (.seq (.seq (.region EJ) (.cond (.tmp 163) (.region EK) .skip)) X)))))) K F H:=by
 have n1:=cK l (show 0<2 by decide) a
 have n2:=cK l (show 0<3 by decide) (a+1)
 have n3:=cK l (Om:0<nxM l 3 (a+1)+1) (a+2)
 have e1:IntKind.i64.wrap (1+((nxM l 2 a:Nat):Int))=((1+nxM l 2 a:Nat):Int):=gI (a:=1) Om
 have e2:IntKind.i64.wrap (((nxM l 3 (a+1):Nat):Int)+1)=((nxM l 3 (a+1)+1:Nat):Int):=dE Om
 have e3:IntKind.i64.wrap (((1+nxM l 2 a:Nat):Int)+((nxM l (nxM l 3 (a+1)+1) (a+2):Nat):Int))=((1+nxM l 2 a+nxM l (nxM l 3 (a+1)+1) (a+2):Nat):Int):=gI Om
 have h12:(2:Nat)*1≤16777216:=by decide
 have h35:(3:Int)<((5:Nat):Int):=by decide
 have h45:(4:Int)<((5:Nat):Int):=by decide
 have h11:(1:Nat)*1≤16777216:=by decide
 simp only[go_sem,γ,δ,ε,ζ,η,θ,ι,κ,μ,ν,ξ,ο,ρ,σ,τ,υ,reduceIte,reduceCtorEq,EE,f0]
 refine cE Lb.toDF T (o:=E.o) (n:=2) (a:=a) (by decide) Om rfl (hH.at 1 rfl) ?_
 have h1:=hH.set 1 rfl (bD l (a+1))
 simp only[go_sem,γ,δ,ε,ζ,η,θ,ι,κ,μ,ν,ξ,ο,ρ,σ,τ,υ,reduceIte,reduceCtorEq,e1,EF,f0]
 refine cE Lb.toDF T (o:=E.o) (n:=3) (a:=a+1) (by decide) Om rfl (h1.at 1 rfl) ?_
 have h2:=h1.set 1 rfl (bD l (a+2))
 rw[PH.set_set] at h2
 simp only[go_sem,γ,δ,ε,ζ,η,θ,ι,κ,μ,ν,ξ,ο,ρ,σ,τ,υ,reduceIte,reduceCtorEq,EG,f14]
 refine aA (Lb.name 112 t ht) rfl ?_
 simp only[go_sem,γ,δ,ε,ζ,η,θ,ι,κ,μ,ν,ξ,ο,ρ,σ,τ,υ,reduceIte,reduceCtorEq,f0,e2]
 refine cE Lb.toDF T (o:=E.o) (n:=nxM l 3 (a+1)+1) (a:=a+2) Om Om rfl (h2.at 1 rfl) ?_
 have h3:=h2.set 1 rfl (bD l (a+3))
 rw[PH.set_set] at h3
 simp only[go_sem,γ,δ,ε,ζ,η,θ,ι,κ,μ,ν,ξ,ο,ρ,σ,τ,υ,reduceIte,reduceCtorEq,e3,h12]
 refine aA (Lb.frac 1 1000 (by unfold cV; omega) (by unfold cV; omega) (by decide)) rfl ?_
 simp only[go_sem,γ,δ,ε,ζ,η,θ,ι,κ,μ,ν,ξ,ο,ρ,σ,τ,υ,reduceIte,reduceCtorEq]
 refine aA (Lb.frac 30 1 (by unfold cV; omega) (by unfold cV; omega) (by decide)) rfl ?_
 simp only[go_sem,γ,δ,ε,ζ,η,θ,ι,κ,μ,ν,ξ,ο,ρ,σ,τ,υ,reduceIte,reduceCtorEq,bJR,bKS,or_false,forall_eq,forall_eq_or_imp]
 refine aQ fun q hq=>?_
 have h4:=h3.new hq (.rows 17 [[.str (dK 112 t),.int .i64 (1+nxM l 2 a:Nat),.int .i64 (nxM l 3 (a+1):Nat),.int .i64 (1+nxM l 2 a+nxM l (nxM l 3 (a+1)+1) (a+2):Nat),.int .i64 0,.int .i64 0,.int .i64 0,.int .i64 0,.int .i64 0,ints [0,1],.aB,.bool (mkT 1 1000).neg,aF (mkT 1 1000).num,aF (mkT 1 1000).den,.bool (mkT 30 1).neg,aF (mkT 30 1).num,aF (mkT 30 1).den]])
 have nq:¬ E.o=q:=h4.ne 1 3 rfl rfl (by decide)
 have nq':¬ q=E.o:=fun h=>nq h.symm
 simp only[go_sem,γ,δ,ε,ζ,η,θ,ι,κ,μ,ν,ξ,ο,ρ,σ,τ,υ,reduceIte,reduceCtorEq,bJR,bKS,or_false,forall_eq,forall_eq_or_imp,EH,f0]
 refine cE Lb.toDF T (o:=E.o) (n:=4) (a:=a+3) (by decide) Om rfl (h4.at 1 rfl) ?_
 have h5:=h4.set 1 rfl (bD l (a+4))
 have h6:=h5.set 3 rfl (.rows 17 [[.str (dK 112 t),.int .i64 (1+nxM l 2 a:Nat),.int .i64 (nxM l 3 (a+1):Nat),.int .i64 (1+nxM l 2 a+nxM l (nxM l 3 (a+1)+1) (a+2):Nat),.int .i64 0,.int .i64 0,.int .i64 0,.int .i64 (nxM l 4 (a+3):Nat),.int .i64 0,ints [0,1],.aB,.bool (mkT 1 1000).neg,aF (mkT 1 1000).num,aF (mkT 1 1000).den,.bool (mkT 30 1).neg,aF (mkT 30 1).num,aF (mkT 30 1).den]])
 simp only[go_sem,γ,δ,ε,ζ,η,θ,ι,κ,μ,ν,ξ,ο,ρ,σ,τ,υ,reduceIte,reduceCtorEq,h35,nq,nq',bJR,bKS,or_false,forall_eq,EI,f0]
 refine cE Lb.toDF T (o:=E.o) (n:=3) (a:=a+4) (by decide) Om rfl (h6.at 1 rfl) ?_
 have h7:=h6.set 1 rfl (bD l (a+5))
 have h8:=h7.set 3 rfl (.rows 17 [[.str (dK 112 t),.int .i64 (1+nxM l 2 a:Nat),.int .i64 (nxM l 3 (a+1):Nat),.int .i64 (1+nxM l 2 a+nxM l (nxM l 3 (a+1)+1) (a+2):Nat),.int .i64 0,.int .i64 0,.int .i64 0,.int .i64 (nxM l 4 (a+3):Nat),.int .i64 (nxM l 3 (a+4):Nat),ints [0,1],.aB,.bool (mkT 1 1000).neg,aF (mkT 1 1000).num,aF (mkT 1 1000).den,.bool (mkT 30 1).neg,aF (mkT 30 1).num,aF (mkT 30 1).den]])
 simp only[go_sem,γ,δ,ε,ζ,η,θ,ι,κ,μ,ν,ξ,ο,ρ,σ,τ,υ,reduceIte,reduceCtorEq,h45,nq,nq',bJR,bKS,or_false,forall_eq,EJ,f0]
 refine cE Lb.toDF T (o:=E.o) (n:=5) (a:=a+5) (by decide) Om rfl (h8.at 1 rfl) ?_
 have h9:=h8.set 1 rfl (bD l (a+6))
 by_cases c:nxM l 5 (a+5)=0
 ·have h10:=h9.set 3 rfl (.rows 17 [lO (oG l t a) .aB])
  have eP:lO (oG l t a) .aB=[.str (dK 112 t),.int .i64 (1+nxM l 2 a:Nat),.int .i64 (nxM l 3 (a+1):Nat),.int .i64 (1+nxM l 2 a+nxM l (nxM l 3 (a+1)+1) (a+2):Nat),.int .i64 0,.int .i64 0,.int .i64 0,.int .i64 (nxM l 4 (a+3):Nat),.int .i64 (nxM l 3 (a+4):Nat),ints [0],.aB,.bool (mkT 1 1000).neg,aF (mkT 1 1000).num,aF (mkT 1 1000).den,.bool (mkT 30 1).neg,aF (mkT 30 1).num,aF (mkT 30 1).den]:=by
   unfold oG lO
   simp only[if_pos c]
  have h11':=h10.perm (List.perm_append_comm (l₁:=E.boxes l ext w1 w2 wd wr wp .aB (a+6)) (l₂:=[(q,.rows 17 [lO (oG l t a) .aB])])) (List.Perm.refl _)
  simp only[go_sem,γ,δ,ε,ζ,η,θ,ι,κ,μ,ν,ξ,ο,ρ,σ,τ,υ,reduceIte,reduceCtorEq,bW (show ((nxM l 5 (a+5):Nat):Int)=0 by omega),EK,h11,nq,nq',bJR,bKS,or_false,forall_eq]
  rw[eP] at h11'
  refine hK q _ _ ?_ (by rw[eP]; exact h11')
  unfold yW
  exact Lq
 ·have eP:lO (oG l t a) .aB=[.str (dK 112 t),.int .i64 (1+nxM l 2 a:Nat),.int .i64 (nxM l 3 (a+1):Nat),.int .i64 (1+nxM l 2 a+nxM l (nxM l 3 (a+1)+1) (a+2):Nat),.int .i64 0,.int .i64 0,.int .i64 0,.int .i64 (nxM l 4 (a+3):Nat),.int .i64 (nxM l 3 (a+4):Nat),ints [0,1],.aB,.bool (mkT 1 1000).neg,aF (mkT 1 1000).num,aF (mkT 1 1000).den,.bool (mkT 30 1).neg,aF (mkT 30 1).num,aF (mkT 30 1).den]:=by
   unfold oG lO
   simp only[if_neg c]
  simp only[go_sem,γ,δ,ε,ζ,η,θ,ι,κ,μ,ν,ξ,ο,ρ,σ,τ,υ,reduceIte,reduceCtorEq,bF (show ((nxM l 5 (a+5):Nat):Int)≠0 by omega)]
  refine hK q _ _ ?_ ?_
  ·unfold yW
   exact Lq
  ·rw[eP]
   exact h9.perm (List.perm_append_comm (l₁:=E.boxes l ext w1 w2 wd wr wp .aB (a+6)) (l₂:=[(q,.rows 17 [_])])) (List.Perm.refl _)
def aXV (E:ME) (t:Nat):PF:=(((((PF.nil.set 0 (.ptr E.o 2 0 0)).set 1 (.int .i64 E.vols)).set 4 (.ptr E.o4 7 0 0)).set 5 (.ptr E.o5 7 0 0)).set 14 (.int .i64 t))
theorem bdD {C:Ctx} (Lb:oH C) {l:List Int} (T:TpM l) (E:ME) (n a0:Nat) (hn:n≤10) (ha:a0≤10000) (x0:Int) (w1 w2 wd wr:PV) (o1:w1.oid=none) (o2:w2.oid=none) (dm:List bN) (dv:List cC) (K:cO) (F:PF) (H:PH)
  (hF:(aXV E n).le F) (hH:aU H (E.boxes l (.int .i64 x0) w1 w2 wd wr .aB .aB a0) [(wd,7,dJ dm),(wr,3,dZ dv)])
  (hK:∀ wp F' H',(tL E).le F'→aU H' (E.boxes l (.int .i64 x0) w1 w2 wd wr wp .aB (a0+6*n)) [(wd,7,dJ dm),(wr,3,dZ dv),(wp,17,kX (gW l n a0))]→K (.exit 4) F' H') :
  aC.wp C (.loop DU) K F H:=by
 refine wp_loop (α:=Nat × List dA × PV × PH) (fun s=>aXV E s.1) (fun s=>s.2.2.2)
  (fun s=>s.1≤n∧s.2.1.length=n-s.1∧s.2.1++gW l s.1 (a0+6*(n-s.1))=gW l n a0∧aU s.2.2.2 (E.boxes l (.int .i64 x0) w1 w2 wd wr s.2.2.1 .aB (a0+6*(n-s.1))) [(wd,7,dJ dm),(wr,3,dZ dv),(s.2.2.1,17,kX s.2.1)]) (fun s=>s.1) (n,[],.aB,H)
  ⟨bJF _,by simp,by simp,by simp only[bLY,Nat.mul_zero,bKU]; exact hH.rR 17⟩ hF PH.le_refl ?_
 rintro⟨t,done,wp,H0⟩ ⟨ht,hdl,hE,hH⟩
 simp only at ht hdl hE hH ⊢
 simp only[go_sem,γ,δ,ε,ζ,η,θ,ι,κ,μ,ν,ξ,ο,ρ,σ,τ,υ,reduceIte,reduceCtorEq,DU,ZD,aXV]
 cases t with
 | zero =>
  have hc:¬ (((0:Nat):Int)>0):=by omega
  have e:done=gW l n a0:=by rw[← hE,gW,bLD]
  rw[Nat.sub_zero,e] at hH
  simp only[go_sem,γ,δ,ε,ζ,η,θ,ι,κ,μ,ν,ξ,ο,ρ,σ,τ,υ,reduceIte,reduceCtorEq,hc]
  refine hK wp _ _ ?_ hH
  unfold tL
  exact Lq
 | succ t =>
  have hc:(((t+1:Nat):Int)>0):=by omega
  obtain⟨a,hae⟩:∃ a,a=a0+6*(n-(t+1)):=⟨_,rfl⟩
  have ha6:a0+6*(n-t)=a+6:=by omega
  rw[← hae] at hE hH
  simp only[go_sem,γ,δ,ε,ζ,η,θ,ι,κ,μ,ν,ξ,ο,ρ,σ,τ,υ,reduceIte,reduceCtorEq,hc]
  refine bkQ Lb T E (t+1) a Om Om (.int .i64 x0) w1 w2 wd wr wp _ _ _ _ _ Ev Ev Ev Ev Ev hH ?_
  intro q F1 H1 hF1 h1
  have f0:F1 0=some (.ptr E.o 2 0 0):=hF1 0 _ (by unfold yW; simp only[go_sem,γ,δ,ε,ζ,η,θ,ι,κ,μ,ν,ξ,ο,ρ,σ,τ,υ,reduceIte,reduceCtorEq])
  have f1:F1 1=some (.int .i64 E.vols):=hF1 1 _ (by unfold yW; simp only[go_sem,γ,δ,ε,ζ,η,θ,ι,κ,μ,ν,ξ,ο,ρ,σ,τ,υ,reduceIte,reduceCtorEq])
  have f4:F1 4=some (.ptr E.o4 7 0 0):=hF1 4 _ (by unfold yW; simp only[go_sem,γ,δ,ε,ζ,η,θ,ι,κ,μ,ν,ξ,ο,ρ,σ,τ,υ,reduceIte,reduceCtorEq])
  have f5:F1 5=some (.ptr E.o5 7 0 0):=hF1 5 _ (by unfold yW; simp only[go_sem,γ,δ,ε,ζ,η,θ,ι,κ,μ,ν,ξ,ο,ρ,σ,τ,υ,reduceIte,reduceCtorEq])
  have f14:F1 14=some (.int .i64 (t+1:Nat)):=hF1 14 _ (by unfold yW; simp only[go_sem,γ,δ,ε,ζ,η,θ,ι,κ,μ,ν,ξ,ο,ρ,σ,τ,υ,reduceIte,reduceCtorEq])
  have f16:F1 16=some (.int .i64 (nxM l 3 (a+1):Nat)):=hF1 16 _ (by unfold yW; simp only[go_sem,γ,δ,ε,ζ,η,θ,ι,κ,μ,ν,ξ,ο,ρ,σ,τ,υ,reduceIte,reduceCtorEq])
  have f17:F1 17=some (.ptr q 17 0 0):=hF1 17 _ (by unfold yW; simp only[go_sem,γ,δ,ε,ζ,η,θ,ι,κ,μ,ν,ξ,ο,ρ,σ,τ,υ,reduceIte,reduceCtorEq])
  have n3:=cK l (show 0<3 by decide) (a+1)
  have hPr:(oG l (t+1) a).repair=bJE (max (nxM l 3 (a+1)) 1) (mkT 1 2):=rfl
  have hE2:(done++[oG l (t+1) a])++gW l t (a+6)=gW l n a0:=by rw[← hE,gW,bKD]; rfl
  generalize oG l (t+1) a=P at *
  simp only[go_sem,γ,δ,ε,ζ,η,θ,ι,κ,μ,ν,ξ,ο,ρ,σ,τ,υ,reduceIte,reduceCtorEq,ZE]
  refine bkR Lb E (t+1) (nxM l 3 (a+1)) q P _ _ Om _ _ _ (by unfold tM; (repeat' (first|exact PF.nil_le|refine PF.aI ?_ ?_))<;>first|(simp only[go_sem,γ,δ,ε,ζ,η,θ,ι,κ,μ,ν,ξ,ο,ρ,σ,τ,υ,reduceIte,reduceCtorEq,f0,f1,f4,f5,f14,f16,f17]<;>rfl)|rfl) h1 ?_
  intro w F2 H2 hF2 h2
  have g0:F2 0=some (.ptr E.o 2 0 0):=hF2 0 _ (by unfold tM; simp only[go_sem,γ,δ,ε,ζ,η,θ,ι,κ,μ,ν,ξ,ο,ρ,σ,τ,υ,reduceIte,reduceCtorEq])
  have g1:F2 1=some (.int .i64 E.vols):=hF2 1 _ (by unfold tM; simp only[go_sem,γ,δ,ε,ζ,η,θ,ι,κ,μ,ν,ξ,ο,ρ,σ,τ,υ,reduceIte,reduceCtorEq])
  have g4:F2 4=some (.ptr E.o4 7 0 0):=hF2 4 _ (by unfold tM; simp only[go_sem,γ,δ,ε,ζ,η,θ,ι,κ,μ,ν,ξ,ο,ρ,σ,τ,υ,reduceIte,reduceCtorEq])
  have g5:F2 5=some (.ptr E.o5 7 0 0):=hF2 5 _ (by unfold tM; simp only[go_sem,γ,δ,ε,ζ,η,θ,ι,κ,μ,ν,ξ,ο,ρ,σ,τ,υ,reduceIte,reduceCtorEq])
  have g14:F2 14=some (.int .i64 (t+1:Nat)):=hF2 14 _ (by unfold tM; simp only[go_sem,γ,δ,ε,ζ,η,θ,ι,κ,μ,ν,ξ,ο,ρ,σ,τ,υ,reduceIte,reduceCtorEq])
  have g17:F2 17=some (.ptr q 17 0 0):=hF2 17 _ (by unfold tM; simp only[go_sem,γ,δ,ε,ζ,η,θ,ι,κ,μ,ν,ξ,ο,ρ,σ,τ,υ,reduceIte,reduceCtorEq])
  obtain⟨o,hw⟩:=(h2.own 3 rfl).one (by rw[LJ,bMG]; omega)
  rw[LJ,bMG] at hw
  subst hw
  have bq:=h2.at 0 rfl
  have b5:=h2.at 1 rfl
  have h17:(1:Nat)*17≤16777216:=by decide
  have e1:IntKind.i64.wrap (((t+1:Nat):Int)-1)=((t:Nat):Int):=by rw[wrap_i64 Om Om]; omega
  simp only[go_sem,γ,δ,ε,ζ,η,θ,ι,κ,μ,ν,ξ,ο,ρ,σ,τ,υ,reduceIte,reduceCtorEq,ZJ,g5,g17,bq,b5,h17]
  refine h2.append (v:=wp) (s:=17) (rows:=kX done) 2 (src:=[lO P (.osl o 3 0 (max (nxM l 3 (a+1)) 1))]) rfl Sq (by unfold roomFor; rw[bJC,hdl]; simp only[bJT,maxLen]; omega) fun wp' H3 h3 hw=>?_
  obtain⟨z,rfl⟩:=hw (by simp)
  have b3:=h3.at 1 rfl
  simp only[go_sem,γ,δ,ε,ζ,η,θ,ι,κ,μ,ν,ξ,ο,ρ,σ,τ,υ,reduceIte,reduceCtorEq,g5,b3,bJR,bKS,or_false,forall_eq]
  have h4:=h3.set 1 rfl (flB (.int .i64 x0) w1 w2 wd wr (.osl z 17 0 (kX done++[lO P (.osl o 3 0 (max (nxM l 3 (a+1)) 1))]).length) .aB)
  simp only[go_sem,γ,δ,ε,ζ,η,θ,ι,κ,μ,ν,ξ,ο,ρ,σ,τ,υ,reduceIte,reduceCtorEq,ZK,g14,e1]
  generalize hwp:(PV.osl z 17 0 (kX done++[lO P (.osl o 3 0 (max (nxM l 3 (a+1)) 1))]).length)=wp' at *
  obtain⟨rs,z1,z2,z3,z4,z5⟩:=h4.frz 3 rfl
  have y1:=z4 0 _ (by decide) rfl
  have y2:=z4 1 _ (by decide) rfl
  have y3:=z4 2 _ (by decide) rfl
  simp only at y1 y2 y3
  have y4:=uF o1 o 3 rs
  have y5:=uF o2 o 3 rs
  refine aoH (t,done++[P],wp',(H3.set E.o5 (flB (.int .i64 x0) w1 w2 wd wr wp' .aB)).frz o 3 rs) z1 ⟨by omega,by simp only[bJL,bJT,hdl]; omega,by simp only; rw[ha6]; exact hE2,?_⟩ (by simp only; omega) ?_ PH.le_refl
  ·simp only
   rw[ha6]
   have eB:(E.boxes l (.int .i64 x0) w1 w2 wd wr wp' .aB (a+6)).map (fun b=>(b.1,b.2.frz o 3 rs))=E.boxes l (.int .i64 x0) w1 w2 wd wr wp' .aB (a+6):=by
    show [(E.o5,cQ.rows 7 [[.int .i64 x0,PV.dC o 3 rs w1,PV.dC o 3 rs w2,PV.dC o 3 rs wd,PV.dC o 3 rs wr,PV.dC o 3 rs wp',.aB]]),(E.o,bD l (a+6)),(E.o4,flZ)]=_
    rw[y1,y2,y3,y4,y5]
   have e5:(kX done++[lO P (.osl o 3 0 (max (nxM l 3 (a+1)) 1))]).map (fun r=>r.map (PV.dC o 3 rs))=kX (done++[P]):=by
    rw[bLS,aSC]
    have:([lO P (.osl o 3 0 (max (nxM l 3 (a+1)) 1))]:List (List PV)).map (fun r=>r.map (PV.dC o 3 rs))=[P.cells]:=by
     show [[PV.str P.name,.int .i64 P.k,.int .i64 P.m,.int .i64 P.bIC,.int .i64 P.s0,.int .i64 P.s1,.int .i64 P.s2,.int .i64 P.s3,.int .i64 P.s4,ints P.bGZ,PV.dC o 3 rs (.osl o 3 0 (max (nxM l 3 (a+1)) 1)),.bool P.target.neg,aF P.target.num,aF P.target.den,.bool P.bHK.neg,aF P.bHK.num,aF P.bHK.den]]=_
     rw[z2]
     unfold dA.cells
     rw[hPr]
    rw[this]
    simp[kX]
   have eL:([(wd,7,dJ dm),(wr,3,dZ dv),(wp',17,kX done++[lO P (.osl o 3 0 (max (nxM l 3 (a+1)) 1))])]:List LI).map (fun x=>(x.1,x.2.1,x.2.2.map fun r=>r.map (PV.dC o 3 rs)))=[(wd,7,dJ dm),(wr,3,dZ dv),(wp',17,kX (done++[P]))]:=by
    show [(wd,7,(dJ dm).map _),(wr,3,(dZ dv).map _),(wp',17,(kX done++[lO P (.osl o 3 0 (max (nxM l 3 (a+1)) 1))]).map _)]=_
    rw[aNN,aNP,e5]
   rw[← eB,← eL]
   exact z5.sub (List.sublist_cons_self ..) (bLJ.refl _)
  ·(repeat' (first|exact PF.nil_le|refine PF.aI ?_ ?_))<;>first|(simp only[go_sem,γ,δ,ε,ζ,η,θ,ι,κ,μ,ν,ξ,ο,ρ,σ,τ,υ,reduceIte,reduceCtorEq,g0,g1,g4,g5]<;>rfl)|rfl
def aXW (E:ME) (t:Nat):PF:=((((PF.nil.set 0 (.ptr E.o 2 0 0)).set 4 (.ptr E.o4 7 0 0)).set 5 (.ptr E.o5 7 0 0)).set 19 (.int .i64 t))
def aXU (E:ME):PF:=(((PF.nil.set 0 (.ptr E.o 2 0 0)).set 4 (.ptr E.o4 7 0 0)).set 5 (.ptr E.o5 7 0 0))
theorem bdF {C:Ctx} (Lb:oH C) {l:List Int} (T:TpM l) (E:ME) (n a0:Nat) (hn:n≤90) (ha:a0≤10000) (ext w1 w2 wd wr wp:PV) (ps:List dA) (hps:ps.length≤1000) (dm:List bN) (dv:List cC) (K:cO) (F:PF) (H:PH)
  (hF:(aXW E n).le F) (hH:aU H (E.boxes l ext w1 w2 wd wr wp .aB a0) [(wd,7,dJ dm),(wr,3,dZ dv),(wp,17,kX ps)])
  (hK:∀ wv F' H',(aXU E).le F'→aU H' (E.boxes l ext w1 w2 wd wr wp wv (a0+n)) [(wd,7,dJ dm),(wr,3,dZ dv),(wp,17,kX ps),(wv,2,oQ (kM l ps.length n a0))]→K (.exit 8) F' H') :
  aC.wp C (.loop DW) K F H:=by
 refine wp_loop (α:=Nat × List dY × PV × PH) (fun s=>aXW E s.1) (fun s=>s.2.2.2)
  (fun s=>s.1≤n∧s.2.1.length=n-s.1∧s.2.1++kM l ps.length s.1 (a0+(n-s.1))=kM l ps.length n a0∧aU s.2.2.2 (E.boxes l ext w1 w2 wd wr wp s.2.2.1 (a0+(n-s.1))) [(wd,7,dJ dm),(wr,3,dZ dv),(wp,17,kX ps),(s.2.2.1,2,oQ s.2.1)]) (fun s=>s.1) (n,[],.aB,H)
  ⟨bJF _,by simp,by simp,by simp only[bLY,bKU]; exact hH.rR 2⟩ hF PH.le_refl ?_
 rintro⟨t,done,wv,H0⟩ ⟨ht,hdl,hE,hH⟩
 simp only at ht hdl hE hH ⊢
 simp only[go_sem,γ,δ,ε,ζ,η,θ,ι,κ,μ,ν,ξ,ο,ρ,σ,τ,υ,reduceIte,reduceCtorEq,DW,ZM,aXW]
 cases t with
 | zero =>
  have hc:¬ (((0:Nat):Int)>0):=by omega
  have e:done=kM l ps.length n a0:=by rw[← hE,kM,bLD]
  rw[Nat.sub_zero,e] at hH
  simp only[go_sem,γ,δ,ε,ζ,η,θ,ι,κ,μ,ν,ξ,ο,ρ,σ,τ,υ,reduceIte,reduceCtorEq,hc]
  refine hK wv _ _ ?_ hH
  unfold aXU
  exact Lq
 | succ t =>
  have hc:(((t+1:Nat):Int)>0):=by omega
  obtain⟨a,hae⟩:∃ a,a=a0+(n-(t+1)):=⟨_,rfl⟩
  have ha6:a0+(n-t)=a+1:=by omega
  rw[← hae] at hE hH
  have b5:=hH.at 0 rfl
  have lw:=(hH.own 2 rfl).wK
  rw[bJC] at lw
  have h1:=hH.set 1 rfl (bD l (a+1))
  have b1:=h1.at 0 rfl
  have e1:IntKind.i64.wrap (((t+1:Nat):Int)-1)=((t:Nat):Int):=by rw[wrap_i64 Om Om]; omega
  have h12:(1:Nat)*2≤16777216:=by decide
  simp only[go_sem,γ,δ,ε,ζ,η,θ,ι,κ,μ,ν,ξ,ο,ρ,σ,τ,υ,reduceIte,reduceCtorEq,hc]
  refine bU (PH.nil.set E.o5 (flB ext w1 w2 wd wr wp wv)) (mdS l) (PH.aI PH.nil_le b5) ?_
  simp only[go_sem,γ,δ,ε,ζ,η,θ,ι,κ,μ,ν,ξ,ο,ρ,σ,τ,υ,reduceIte,reduceCtorEq,ZN,b5]
  refine KN Lb (c:=118) (n:=t+1) Om (by simp only[go_sem,γ,δ,ε,ζ,η,θ,ι,κ,μ,ν,ξ,ο,ρ,σ,τ,υ,reduceIte,reduceCtorEq]; rfl) (PH.aI PH.nil_le b5) ?_
  simp only[go_sem,γ,δ,ε,ζ,η,θ,ι,κ,μ,ν,ξ,ο,ρ,σ,τ,υ,reduceIte,reduceCtorEq,b5,lw]
  refine a4O Lb.toDF T (o:=E.o) (n:=ps.length) (a:=a) Om Om Sq (hH.at 1 rfl) (PH.aI PH.nil_le b1) ?_
  simp only[go_sem,γ,δ,ε,ζ,η,θ,ι,κ,μ,ν,ξ,ο,ρ,σ,τ,υ,reduceIte,reduceCtorEq,h12]
  refine h1.append (v:=wv) (s:=2) (rows:=oQ done) 3 (src:=[(⟨dK 118 (t+1),(nxM l ps.length a:Nat)⟩:dY).cells]) rfl Sq (by unfold roomFor; rw[bJC,hdl]; simp only[bJT,maxLen]; omega) fun w' H2 h5 hw=>?_
  obtain⟨z,rfl⟩:=hw (by simp)
  have b2:=h5.at 0 rfl
  refine⟨PH.aI PH.nil_le b2,?_⟩
  refine bU .nil eD PH.nil_le ?_
  simp only[go_sem,γ,δ,ε,ζ,η,θ,ι,κ,μ,ν,ξ,ο,ρ,σ,τ,υ,reduceIte,reduceCtorEq,ZO,b2,bJR,bKS,or_false,forall_eq]
  have h6:=h5.set 0 rfl (flB ext w1 w2 wd wr wp (.osl z 2 0 (oQ done++[(⟨dK 118 (t+1),(nxM l ps.length a:Nat)⟩:dY).cells]).length))
  refine⟨PH.nil_le,?_⟩
  simp only[go_sem,γ,δ,ε,ζ,η,θ,ι,κ,μ,ν,ξ,ο,ρ,σ,τ,υ,reduceIte,reduceCtorEq,ZP,e1]
  refine aK (t,done++[⟨dK 118 (t+1),(nxM l ps.length a:Nat)⟩],.osl z 2 0 (oQ done++[(⟨dK 118 (t+1),(nxM l ps.length a:Nat)⟩:dY).cells]).length,_) ⟨by omega,by simp only[bJL,bJT,hdl]; omega,?_,?_⟩ (by simp only; omega) ?_ PH.le_refl
  ·simp only
   rw[ha6,← hE,kM,bKD]
   rfl
  ·simp only
   rw[ha6]
   have e:oQ (done++[⟨dK 118 (t+1),(nxM l ps.length a:Nat)⟩])=oQ done++[(⟨dK 118 (t+1),(nxM l ps.length a:Nat)⟩:dY).cells]:=by simp[oQ]
   rw[e]
   exact h6
  ·exact Lq
def aMW (l:List Int) (o vols a:Nat) (r:PV) (H:PH):Prop:=Co r (.agg (cW l vols a).1.cells)∧H=PH.nil.set o (bD l (cW l vols a).2)
theorem a4Q {C:Ctx} (Lb:BO C) {l:List Int} (T:TpM l) (o vols a:Nat) (hv:vols≤50) (ha:a≤1000) :
  yX.wp C (aT KP.res (aMW l o vols a)) (PF.args [.ptr o 2 0 0,.int .i64 vols]) (PH.nil.set o (bD l a)):=by
 have hR:∀ r H,aMW l o vols a r H↔Co r (.agg (cW l vols a).1.cells)∧H=PH.nil.set o (bD l (cW l vols a).2):=fun _ _=>Iff.rfl
 have hT:cW l vols a=cW l vols a:=rfl
 conv at hT=>rhs; unfold cW
 dsimp only at hT
 have n1:=cK l (show 0<2 by decide) a
 have n2:=cK l (show 0<100 by decide) (a+1)
 have n3:=cK l (show 0<2 by decide) (a+2)
 have n4:=cK l (show 0<9 by decide) (a+3)
 have n5:=cK l (show 0<3 by decide) (a+4)
 have n6:=cK l (show 0<9 by decide) (a+5)
 have n7:=cK l (show 0<3 by decide) (a+6)
 have e1:IntKind.i64.wrap (1+((nxM l 2 a:Nat):Int))=((1+nxM l 2 a:Nat):Int):=gI (a:=1) Om
 have e2:IntKind.i64.wrap (100+((nxM l 100 (a+1):Nat):Int))=((100+nxM l 100 (a+1):Nat):Int):=gI (a:=100) Om
 have e3:IntKind.i64.wrap (3+((nxM l 2 (a+2):Nat):Int))=((3+nxM l 2 (a+2):Nat):Int):=gI (a:=3) Om
 have e4:IntKind.i64.wrap (8+((nxM l 9 (a+3):Nat):Int))=((8+nxM l 9 (a+3):Nat):Int):=gI (a:=8) Om
 have e5:IntKind.i64.wrap (1+((nxM l 3 (a+4):Nat):Int))=((1+nxM l 3 (a+4):Nat):Int):=gI (a:=1) Om
 have e6:IntKind.i64.wrap (4+((nxM l 9 (a+5):Nat):Int))=((4+nxM l 9 (a+5):Nat):Int):=gI (a:=4) Om
 have e7:IntKind.i64.wrap (3+((nxM l 3 (a+6):Nat):Int))=((3+nxM l 3 (a+6):Nat):Int):=gI (a:=3) Om
 have hM:=oO l (acE (a+7)) (3+nxM l 3 (a+6)) Om
 have h0:aU (PH.nil.set o (bD l a)) [(o,bD l a)] []:=aU.nil.new (H:=PH.nil) rfl (bD l a)
 have h13:(1:Nat)*3≤16777216:=by decide
 have h11:(1:Nat)*1≤16777216:=by decide
 have h14:(1:Nat)*4≤16777216:=by decide
 have h24:(2:Nat)*4≤16777216:=by decide
 have h17:(1:Nat)*7≤16777216:=by decide
 simp only[go_sem,γ,δ,ε,ζ,η,θ,ι,κ,μ,ν,ξ,ο,ρ,σ,τ,υ,reduceIte,reduceCtorEq,yX,alY,KP]
 refine aQ fun o4 ho4=>?_
 have h1:=h0.new ho4 flZ
 simp only[go_sem,γ,δ,ε,ζ,η,θ,ι,κ,μ,ν,ξ,ο,ρ,σ,τ,υ,reduceIte,reduceCtorEq,alZ]
 refine cE Lb.toDF T (o:=o) (n:=2) (a:=a) (by decide) Om rfl (h1.at 0 rfl) ?_
 have h2:=h1.set 0 rfl (bD l (a+1))
 simp only[go_sem,γ,δ,ε,ζ,η,θ,ι,κ,μ,ν,ξ,ο,ρ,σ,τ,υ,reduceIte,reduceCtorEq,e1]
 refine aQ fun o5 ho5=>?_
 have h3:=h2.new ho5 (flB (.int .i64 (1+nxM l 2 a:Nat)) .aB .aB .aB .aB .aB .aB)
 have n05:¬ o=o5:=h3.ne 0 2 rfl rfl (by decide)
 have n50:¬ o5=o:=fun h=>n05 h.symm
 simp only[go_sem,γ,δ,ε,ζ,η,θ,ι,κ,μ,ν,ξ,ο,ρ,σ,τ,υ,reduceIte,reduceCtorEq,amA,bJR,bKS,or_false,forall_eq,forall_eq_or_imp]
 refine aA (Lb.frac 1 1 (by unfold cV; omega) (by unfold cV; omega) (by decide)) rfl ?_
 simp only[go_sem,γ,δ,ε,ζ,η,θ,ι,κ,μ,ν,ξ,ο,ρ,σ,τ,υ,reduceIte,reduceCtorEq,h13]
 refine aA (Lb.frac 0 1 (by unfold cV; omega) (by unfold cV; omega) (by decide)) rfl ?_
 simp only[go_sem,γ,δ,ε,ζ,η,θ,ι,κ,μ,ν,ξ,ο,ρ,σ,τ,υ,reduceIte,reduceCtorEq,h13,h11]
 refine cE Lb.toDF T (o:=o) (n:=100) (a:=a+1) (by decide) Om rfl (h3.at 0 rfl) ?_
 have h4:=h3.set 0 rfl (bD l (a+2))
 simp only[go_sem,γ,δ,ε,ζ,η,θ,ι,κ,μ,ν,ξ,ο,ρ,σ,τ,υ,reduceIte,reduceCtorEq,e2]
 refine aA (Lb.frac 1 (100+nxM l 100 (a+1):Nat) (by unfold cV; omega) (by unfold cV; omega) Om) rfl ?_
 have h5:=h4.set 2 rfl (flB (.int .i64 (1+nxM l 2 a:Nat)) (.sl 4 (aBW [⟨[100,105,115,107],[mkT 1 1],[[mkT 0 1]],[mkT 1 ((100+nxM l 100 (a+1):Nat):Int)]⟩])) .aB .aB .aB .aB .aB)
 simp only[go_sem,γ,δ,ε,ζ,η,θ,ι,κ,μ,ν,ξ,ο,ρ,σ,τ,υ,reduceIte,reduceCtorEq,h13,h14,n05,n50,bJR,bKS,or_false,forall_eq,amB]
 refine cE Lb.toDF T (o:=o) (n:=2) (a:=a+2) (by decide) Om rfl (h5.at 0 rfl) ?_
 have h6:=h5.set 0 rfl (bD l (a+3))
 simp only[go_sem,γ,δ,ε,ζ,η,θ,ι,κ,μ,ν,ξ,ο,ρ,σ,τ,υ,reduceIte,reduceCtorEq,e3]
 refine cE Lb.toDF T (o:=o) (n:=9) (a:=a+3) (by decide) Om rfl (h6.at 0 rfl) ?_
 have h7:=h6.set 0 rfl (bD l (a+4))
 rw[PH.set_set] at h7
 simp only[go_sem,γ,δ,ε,ζ,η,θ,ι,κ,μ,ν,ξ,ο,ρ,σ,τ,υ,reduceIte,reduceCtorEq,e4]
 refine cE Lb.toDF T (o:=o) (n:=3) (a:=a+4) (by decide) Om rfl (h7.at 0 rfl) ?_
 have h8:=h7.set 0 rfl (bD l (a+5))
 rw[PH.set_set] at h8
 simp only[go_sem,γ,δ,ε,ζ,η,θ,ι,κ,μ,ν,ξ,ο,ρ,σ,τ,υ,reduceIte,reduceCtorEq,e5]
 refine cE Lb.toDF T (o:=o) (n:=9) (a:=a+5) (by decide) Om rfl (h8.at 0 rfl) ?_
 have h9:=h8.set 0 rfl (bD l (a+6))
 rw[PH.set_set] at h9
 obtain⟨w1,hw1⟩:∃ w1,w1=PV.sl 4 (aBW [⟨[100,105,115,107],[mkT 1 1],[[mkT 0 1]],[mkT 1 ((100+nxM l 100 (a+1):Nat):Int)]⟩]):=⟨_,rfl⟩
 obtain⟨w2,hw2⟩:∃ w2,w2=PV.sl 4 (a6G [⟨[98,105,103],(3+nxM l 2 (a+2):Nat),(8+nxM l 9 (a+3):Nat),0⟩,⟨[111,108,100],(1+nxM l 3 (a+4):Nat),(4+nxM l 9 (a+5):Nat),0⟩]):=⟨_,rfl⟩
 have h10:=h9.set 2 rfl (flB (.int .i64 (1+nxM l 2 a:Nat)) w1 w2 .aB .aB .aB .aB)
 rw[hw1,hw2] at h10
 simp only[go_sem,γ,δ,ε,ζ,η,θ,ι,κ,μ,ν,ξ,ο,ρ,σ,τ,υ,reduceIte,reduceCtorEq,e6,h24,n05,n50,bJR,bKS,or_false,forall_eq,amC]
 refine aA (Lb.frac 0 1 (by unfold cV; omega) (by unfold cV; omega) (by decide)) rfl ?_
 simp only[go_sem,γ,δ,ε,ζ,η,θ,ι,κ,μ,ν,ξ,ο,ρ,σ,τ,υ,reduceIte,reduceCtorEq,h17]
 refine aQ fun od hod=>?_
 have h11':=h10.aZS (s:=7) (rows:=dJ [iW]) hod
 have n5d:¬ o5=od:=h11'.neL 2 0 rfl rfl rfl
 have nd5:¬ od=o5:=fun h=>n5d h.symm
 have h12:=h11'.set 2 rfl (flB (.int .i64 (1+nxM l 2 a:Nat)) w1 w2 (.osl od 7 0 1) .aB .aB .aB)
 rw[hw1,hw2] at h12
 simp only[go_sem,γ,δ,ε,ζ,η,θ,ι,κ,μ,ν,ξ,ο,ρ,σ,τ,υ,reduceIte,reduceCtorEq,n5d,nd5,bJR,bKS,or_false,forall_eq,amD]
 refine cE Lb.toDF T (o:=o) (n:=3) (a:=a+6) (by decide) Om rfl (h12.at 0 rfl) ?_
 have h13':=h12.set 0 rfl (bD l (a+7))
 simp only[go_sem,γ,δ,ε,ζ,η,θ,ι,κ,μ,ν,ξ,ο,ρ,σ,τ,υ,reduceIte,reduceCtorEq,e7,amE,amF]
 obtain⟨E,hE⟩:∃ E:ME,E=⟨o,o4,o5,vols⟩:=⟨_,rfl⟩
 have h14':=(h13'.rR 3).perm (B':=E.boxes l (.int .i64 (1+nxM l 2 a:Nat)) w1 w2 (.osl od 7 0 1) .aB .aB .aB (a+7)) (L':=[(.osl od 7 0 1,7,dJ [iW]),(.aB,3,dZ [])])
  (by rw[hE,hw1,hw2]; exact (List.Perm.cons _ (List.Perm.swap _ _ _)).trans (List.Perm.swap _ _ _)) (List.Perm.refl _)
 refine a4P Lb T E (3+nxM l 3 (a+6)) (a+7) Om Om (.int .i64 (1+nxM l 2 a:Nat)) w1 w2 (.osl od 7 0 1) _ _ _ ?_ h14' ?_
 ·rw[hE]
  unfold eR
  exact Lq
 clear h14' h13' h12 h11' h10 h9 h8 h7 h6 h5 h4 h3 h2 h1 h0 ho4 ho5 hod
 intro wd wr F1 H1 hF1 h1
 have f0:F1 0=some (.ptr o 2 0 0):=hF1 0 _ (by rw[hE]; unfold tL; simp only[go_sem,γ,δ,ε,ζ,η,θ,ι,κ,μ,ν,ξ,ο,ρ,σ,τ,υ,reduceIte,reduceCtorEq])
 have f1:F1 1=some (.int .i64 vols):=hF1 1 _ (by rw[hE]; unfold tL; simp only[go_sem,γ,δ,ε,ζ,η,θ,ι,κ,μ,ν,ξ,ο,ρ,σ,τ,υ,reduceIte,reduceCtorEq])
 have f4:F1 4=some (.ptr o4 7 0 0):=hF1 4 _ (by rw[hE]; unfold tL; simp only[go_sem,γ,δ,ε,ζ,η,θ,ι,κ,μ,ν,ξ,ο,ρ,σ,τ,υ,reduceIte,reduceCtorEq])
 have f5:F1 5=some (.ptr o5 7 0 0):=hF1 5 _ (by rw[hE]; unfold tL; simp only[go_sem,γ,δ,ε,ζ,η,θ,ι,κ,μ,ν,ξ,ο,ρ,σ,τ,υ,reduceIte,reduceCtorEq])
 generalize eF l ⟨[iW],[],0,0,0,a+7⟩ (3+nxM l 3 (a+6))=s at *
 have sa:=hM.hi
 have n8:=cK l (show 0<2 by decide) s.a
 have e8:IntKind.i64.wrap (1+((nxM l 2 s.a:Nat):Int))=((1+nxM l 2 s.a:Nat):Int):=gI (a:=1) Om
 have q1:=h1.at 1 rfl
 rw[hE] at q1
 simp only[go_sem,γ,δ,ε,ζ,η,θ,ι,κ,μ,ν,ξ,ο,ρ,σ,τ,υ,reduceIte,reduceCtorEq,ZC,f0]
 refine cE Lb.toDF T (o:=o) (n:=2) (a:=s.a) (by decide) Om rfl q1 ?_
 have h2:=h1.set 1 rfl (bD l (s.a+1))
 simp only[go_sem,γ,δ,ε,ζ,η,θ,ι,κ,μ,ν,ξ,ο,ρ,σ,τ,υ,reduceIte,reduceCtorEq,e8]
 refine bdD Lb.tooH T E (1+nxM l 2 s.a) (s.a+1) Om Om _ w1 w2 wd wr (by rw[hw1]; rfl) (by rw[hw2]; rfl) _ _ _ _ _ ?_ (by rw[hE] at h2 ⊢; exact h2) ?_
 ·rw[hE]
  unfold aXV
  exact Lq
 clear q1 h2 h1 f0 f1 f4 f5 hF1
 intro wp F2 H2 hF2 h1
 have f0:F2 0=some (.ptr o 2 0 0):=hF2 0 _ (by rw[hE]; unfold tL; simp only[go_sem,γ,δ,ε,ζ,η,θ,ι,κ,μ,ν,ξ,ο,ρ,σ,τ,υ,reduceIte,reduceCtorEq])
 have f1:F2 1=some (.int .i64 vols):=hF2 1 _ (by rw[hE]; unfold tL; simp only[go_sem,γ,δ,ε,ζ,η,θ,ι,κ,μ,ν,ξ,ο,ρ,σ,τ,υ,reduceIte,reduceCtorEq])
 have f4:F2 4=some (.ptr o4 7 0 0):=hF2 4 _ (by rw[hE]; unfold tL; simp only[go_sem,γ,δ,ε,ζ,η,θ,ι,κ,μ,ν,ξ,ο,ρ,σ,τ,υ,reduceIte,reduceCtorEq])
 have f5:F2 5=some (.ptr o5 7 0 0):=hF2 5 _ (by rw[hE]; unfold tL; simp only[go_sem,γ,δ,ε,ζ,η,θ,ι,κ,μ,ν,ξ,ο,ρ,σ,τ,υ,reduceIte,reduceCtorEq])
 obtain⟨b,hb⟩:∃ b,b=s.a+1+6*(1+nxM l 2 s.a):=⟨_,rfl⟩
 rw[← hb] at h1
 have n9:nxM l vols b≤vols:=by
  rcases bMD vols with e | e
  ·subst e; unfold nxM; simp
  ·exact Nat.le_of_lt (cK l e _)
 have e9:IntKind.i64.wrap (1+((nxM l vols b:Nat):Int))=((1+nxM l vols b:Nat):Int):=gI (a:=1) Om
 have q1:=h1.at 1 rfl
 rw[hE] at q1
 simp only[go_sem,γ,δ,ε,ζ,η,θ,ι,κ,μ,ν,ξ,ο,ρ,σ,τ,υ,reduceIte,reduceCtorEq,ZL,f0,f1]
 refine cE Lb.toDF T (o:=o) (n:=vols) (a:=b) Om Om rfl q1 ?_
 have h2:=h1.set 1 rfl (bD l (b+1))
 have hpl:=pT l (1+nxM l 2 s.a) (s.a+1)
 simp only[go_sem,γ,δ,ε,ζ,η,θ,ι,κ,μ,ν,ξ,ο,ρ,σ,τ,υ,reduceIte,reduceCtorEq,e9]
 refine bdF Lb.tooH T E (1+nxM l vols b) (b+1) Om Om _ w1 w2 wd wr wp _ (by rw[hpl]; omega) _ _ _ _ _ ?_ (by rw[hE] at h2 ⊢; exact h2) ?_
 ·rw[hE]
  unfold aXW
  exact Lq
 clear q1 h2 h1 f0 f1 f4 f5 hF2
 intro wv F3 H3 hF3 h1
 have f4:F3 4=some (.ptr o4 7 0 0):=hF3 4 _ (by rw[hE]; unfold aXU; simp only[go_sem,γ,δ,ε,ζ,η,θ,ι,κ,μ,ν,ξ,ο,ρ,σ,τ,υ,reduceIte,reduceCtorEq])
 have f5:F3 5=some (.ptr o5 7 0 0):=hF3 5 _ (by rw[hE]; unfold aXU; simp only[go_sem,γ,δ,ε,ζ,η,θ,ι,κ,μ,ν,ξ,ο,ρ,σ,τ,υ,reduceIte,reduceCtorEq])
 rw[hpl] at h1
 rw[hE] at h1
 have b5:=h1.at 0 rfl
 have b4:=h1.at 2 rfl
 have key:∀ {s:Nat} {v:PV} {rows:List (List PV)},bO H3 s v rows→PV.one v=true:=by
  rintro s v rows (⟨_,rfl⟩ | ⟨q,rs,rfl,_⟩)<;>rfl
 have k1:=key (h1.own 0 rfl)
 have k2:=key (h1.own 1 rfl)
 have k3:=key (h1.own 2 rfl)
 have k4:=key (h1.own 3 rfl)
 have k5:PV.one w1=true:=by rw[hw1]; rfl
 have k6:PV.one w2=true:=by rw[hw2]; rfl
 simp only[PV.one] at k1 k2 k3 k4 k5 k6
 simp only[go_sem,γ,δ,ε,ζ,η,θ,ι,κ,μ,ν,ξ,ο,ρ,σ,τ,υ,reduceIte,reduceCtorEq,ZQ,f4,f5,b5,b4,bJR,bKS,or_false,forall_eq,forall_eq_or_imp,k1,k2,k3,k4,k5,k6]
 have h2:=h1.set 2 rfl (flB (.int .i64 (1+nxM l 2 a:Nat)) w1 w2 wd wr wp wv)
 have h3:=h2.sub (B':=[(o,bD l (b+1+(1+nxM l vols b)))]) (bLJ.cons _ (bLJ.cons_cons _ (List.nil_sublist _))) (bLJ.refl _)
 obtain⟨φ,H6,z1,z2,z3,z4⟩:=aU.giveUp _ h3 (fun x hx=>by
  simp only[bJR,bKS,or_false] at hx
  rcases hx with rfl | rfl | rfl | rfl
  ·exact aNN _
  ·exact aNP _
  ·exact aSC _
  ·exact bpE _) (fun b hb q s rs=>by
  simp only[bJR,bKS,or_false] at hb
  subst hb
  rfl)
 refine akO (vs:=[.agg [.int .i64 (1+nxM l 2 a:Nat),w1,w2,wd,wr,wp,wv]]) (.inr rfl) (by simp only[go_sem,γ,δ,ε,ζ,η,θ,ι,κ,μ,ν,ξ,ο,ρ,σ,τ,υ,reduceIte,reduceCtorEq,f4]) (z4 _ _ (.done (H2:=PH.nil.set o (bD l (b+1+(1+nxM l vols b)))) ?_ (PH.aI PH.nil_le (z3.at 0 rfl))))
 have hb2:s.a+2+6*(1+nxM l 2 s.a)=b+1:=by omega
 rw[hb2,← hb] at hT
 rw[hR,hT]
 refine⟨CoL.agg ?_,rfl⟩
 have s1:=z1 (wd,7,dJ s.bHJ) (by simp)
 have s2:=z1 (wr,3,dZ s.bHX) (by simp)
 have s3:=z1 (wp,17,kX (gW l (1+nxM l 2 s.a) (s.a+1))) (by simp)
 have s4:=z1 (wv,2,oQ (kM l (1+nxM l 2 s.a) (1+nxM l vols b) (b+1))) (by simp)
 have s0:φ (.int .i64 (1+nxM l 2 a:Nat))=.int .i64 (1+nxM l 2 a:Nat):=z2 _ rfl
 have s5:φ w1=w1:=z2 _ (by rw[hw1]; rfl)
 have s6:φ w2=w2:=z2 _ (by rw[hw2]; rfl)
 show CoL [φ (.int .i64 (1+nxM l 2 a:Nat)),φ w1,φ w2,φ wd,φ wr,φ wp,φ wv] _
 rw[s0,s5,s6,hw1,hw2]
 exact CoL.cons (.refl _) (CoL.cons (.refl _) (CoL.cons (.refl _) (CoL.cons s1.co (CoL.cons s2.co (CoL.cons s3.co (CoL.cons s4.co .nil))))))
structure bpZ (x:RF):Prop where
 lim:cH x=true
 ok:x.Ok
theorem SmF.o {x:RF} {a b:Nat} (h:SmF x a b):bpZ x:=⟨h.lim,h.ok⟩
theorem XP:SmF oE 0 1:=SmF.mk' (a:=0) (b:=1) (by decide) (by decide) (by decide)
theorem aGH {α:Type} {P:Nat→α→Prop} {xs:List α} {x:α} (h:∀ i (hi:i<xs.length),P i xs[i]) (hx:P xs.length x):∀ i (hi:i<(xs++[x]).length),P i (xs++[x])[i]:=by
 intro i hi
 by_cases hlt:i<xs.length
 ·rw[List.getElem_append_left hlt]; exact h i hlt
 ·rw[bJL,bJT] at hi
  have:i=xs.length:=by omega
  subst this
  rw[List.getElem_append_right Om]
  simpa using hx
theorem aMY {α:Type} {p:α→Bool} {l:List α} (h:∀ i (hi:i<l.length),p l[i]=true):l.all p=true:=by
 rw[bJW]
 intro x hx
 obtain⟨i,hi,rfl⟩:=bLL hx
 exact h i hi
theorem eK {n lo hi:Int} (h1:lo≤n) (h2:n≤hi):within n lo hi=true:=within_iff.2 ⟨h1,h2⟩
abbrev lvs (ds:List bN):List Int:=ds.map bN.level
def bxF (ds:List bN) (i:Nat) (d:bN):Prop:=∃ lev p u:Nat,d.name=[aQF lev]++xW (i+1)∧d.level=lev∧1≤lev∧lev≤4∧d.parent=p∧p≤i∧(lvs ds)[p]?=some ((lev:Int)-1)∧d.bHY=u∧1≤u∧u≤16∧bpZ d.bHQ
def bxH (ds:List bN) (mc i:Nat) (d:cC):Prop:=∃ m c:Nat,d.name=[100]++xW i∧d.model=m∧m<mc∧d.machine=c∧(lvs ds)[c]?=some 4
structure GV (mc bGY:Nat) (s:GS):Prop where
 len:s.bHJ.length≤35
 bHX:s.bHX.length≤bGY
 root:s.bHJ[0]?=some iW
 dom:∀ i (hi:i+1<s.bHJ.length),bxF s.bHJ i s.bHJ[i+1]
 drv:∀ i (hi:i<s.bHX.length),bxH s.bHJ mc i s.bHX[i]
theorem GV.a {mc bGY:Nat} {s:GS} (h:GV mc bGY s) (x:Nat):GV mc bGY { s with a:=x }:=⟨h.len,h.bHX,h.root,h.dom,h.drv⟩
theorem ajR {ds:List bN} {p:Nat} {x:Int} {t:List bN} (h:(lvs ds)[p]?=some x):(lvs (ds++t))[p]?=some x:=by
 unfold lvs at *
 rw[bLS,bLN]
 ·exact h
 ·exact (bKN.1 h).1

def unM:List UInt8→Nat
 | [_,a,b]=>(a.toNat-97)*26+(b.toNat-97)
 | _=>0
theorem bkA:∀ k:Fin 100,fG (UInt8.ofNat (97+k.val/26%26)).toNat=true∧fG (UInt8.ofNat (97+k.val%26)).toNat=true∧unM (dK 0 k.val)=k.val:=by decide +kernel
theorem XI (c:UInt8) {k:Nat} (hk:k<100):unM (dK c k)=k:=(bkA ⟨k,hk⟩).2.2
theorem WL {c:UInt8} (hc:eT c.toNat=true) {k:Nat} (hk:k<100):isName (dK c k)=true:=by
 obtain⟨h1,h2,-⟩:=bkA ⟨k,hk⟩
 simp only at h1 h2
 have hi:fG c.toNat=true:=by unfold fG; rw[hc]; rfl
 unfold dK isName
 simp only[bKQ,bLO,List.all_cons,List.all_nil,hc,hi,h1,h2]
 rfl
def bxG (ds:List bN) (i:Nat) (d:bN):Prop:=∃ lev p u:Nat,d.name=dK 110 (i+1)∧d.level=lev∧1≤lev∧lev≤4∧d.parent=p∧p≤i∧(lvs ds)[p]?=some ((lev:Int)-1)∧d.bHY=u∧1≤u∧u≤64∧d.bHQ=oE
def UQ (ds:List bN) (i:Nat) (d:cC):Prop:=∃ m c:Nat,d.name=dK 100 i∧d.model=m∧m<2∧d.machine=c∧(lvs ds)[c]?=some 4
structure DV (ds:List bN):Prop where
 root:ds[0]?=some iW
 dom:∀ i (hi:i+1<ds.length),bxG ds i ds[i+1]
theorem DV.new {ds:List bN} (h:DV ds) {level parent up:Nat} (h1:1≤level) (h4:level≤4) (hp:(lvs ds)[parent]?=some ((level:Int)-1)) (u1:1≤up) (u2:up≤64) :
  DV (dH ds level parent up)∧(lvs (dH ds level parent up))[ds.length]?=some (level:Int):=by
 have hpl:parent<ds.length:=by
  have:=(bKN.1 hp).1
  rwa [bJC] at this
 unfold dH
 refine⟨⟨by rw[bLN Om]; exact h.root,fun i hi=>?_⟩,?_⟩
 ·simp only[bJL,bJT] at hi
  by_cases hlt:i+1<ds.length
  ·rw[List.getElem_append_left hlt]
   obtain⟨lev,p,v,g1,g2,g3,g4,g5,g6,g7,g8⟩:=h.dom i hlt
   exact⟨lev,p,v,g1,g2,g3,g4,g5,g6,ajR g7,g8⟩
  ·have:i+1=ds.length:=by omega
   rw[List.getElem_append_right Om]
   simp only[List.getElem_singleton]
   exact⟨level,parent,up,by rw[this],rfl,h1,h4,rfl,by omega,ajR hp,rfl,u1,u2,rfl⟩
 ·unfold lvs
  rw[bLS,bKZ (by rw[bJC]; exact bJF _),bJC,bLY]
  rfl
theorem lJ {ds:List bN} {a b c p:Nat} {x:Int} (h:(lvs ds)[p]?=some x):(lvs (dH ds a b c))[p]?=some x:=ajR h
structure MV (k:Nat) (s:MS):Prop where
 dv:DV s.bHJ
 drv:∀ i (hi:i<s.bHX.length),UQ s.bHJ i s.bHX[i]
 at_:0<k→(lvs s.bHJ)[s.room]?=some 2∧(lvs s.bHJ)[s.rack]?=some 3
theorem aiX {ds ds':List bN} {rs:List cC} (h:∀ i (hi:i<rs.length),UQ ds i rs[i]) (hk:∀ (p:Nat) (x:Int),(lvs ds)[p]?=some x→(lvs ds')[p]?=some x):∀ i (hi:i<rs.length),UQ ds' i rs[i]:=fun i hi=>by
 obtain⟨m,c,h1,h2,h3,h4,h5⟩:=h i hi
 exact⟨m,c,h1,h2,h3,h4,hk _ _ h5⟩
theorem bfZ (l:List Int) (i:Nat) {s:MS} (h:MV i s):MV 1 (eH l i s):=by
 obtain⟨h1,h2,h3⟩:=h
 have key:∀ a,MV 1 ⟨dH (dH (dH s.bHJ 1 0 (16+nxM l 17 a)) 2 s.bHJ.length (16+nxM l 17 (a+1))) 3 (dH s.bHJ 1 0 (16+nxM l 17 a)).length (8+nxM l 9 (a+2)),s.bHX,s.bHJ.length,(dH s.bHJ 1 0 (16+nxM l 17 a)).length,(dH (dH s.bHJ 1 0 (16+nxM l 17 a)) 2 s.bHJ.length (16+nxM l 17 (a+1))).length,a+3⟩:=fun a=>by
  have n1:=cK l (show 0<17 by decide) a
  have n2:=cK l (show 0<17 by decide) (a+1)
  have n3:=cK l (show 0<9 by decide) (a+2)
  have r0:(lvs s.bHJ)[0]?=some (((1:Nat):Int)-1):=by
   unfold lvs
   rw[bKH,h1.root]; rfl
  obtain⟨d1,e1⟩:=h1.new (level:=1) (parent:=0) (up:=16+nxM l 17 a) (by decide) (by decide) r0 Om Om
  obtain⟨d2,e2⟩:=d1.new (level:=2) (parent:=s.bHJ.length) (up:=16+nxM l 17 (a+1)) (by decide) (by decide) e1 Om Om
  obtain⟨d3,e3⟩:=d2.new (level:=3) (parent:=(dH s.bHJ 1 0 (16+nxM l 17 a)).length) (up:=8+nxM l 9 (a+2)) (by decide) (by decide) e2 Om Om
  exact⟨d3,aiX h2 fun p x hx=>lJ (lJ (lJ hx)),fun _=>⟨lJ e2,e3⟩⟩
 unfold eH
 simp only
 split
 ·exact key _
 ·rename_i hi
  obtain⟨g1,g2⟩:=h3 Om
  split
  ·exact key _
  ·split
   ·have n3:=cK l (show 0<9 by decide) (s.a+2)
    obtain⟨d3,e3⟩:=h1.new (level:=3) (parent:=s.room) (up:=8+nxM l 9 (s.a+2)) (by decide) (by decide) g1 Om Om
    exact⟨d3,aiX h2 fun p x hx=>lJ hx,fun _=>⟨lJ g1,e3⟩⟩
   ·exact⟨h1,h2,fun _=>⟨g1,g2⟩⟩
theorem a4W (l:List Int) {ds:List bN} {m:Nat} (hm:(lvs ds)[m]?=some 4):∀ (k:Nat) (s:List cC × Nat),(∀ i (hi:i<s.1.length),UQ ds i s.1[i])→∀ i (hi:i<(iJ l m k s).1.length),UQ ds i (iJ l m k s).1[i]
 | 0,s,h=>h
 | k+1,s,h=>by
  rw[iJ]
  split
  ·refine a4W l hm k _ (aGH (P:=fun i (x:cC)=>UQ ds i x) h ⟨_,m,rfl,rfl,?_,rfl,hm⟩)
   split<;>decide
  ·exact h
theorem bmS (l:List Int) (i:Nat) {s:MS} (h:MV i s):MV (i+1) (xZ l i s):=by
 obtain⟨h1,h2,h3⟩:=bfZ l i h
 obtain⟨g1,g2⟩:=h3 (by decide)
 have n3:=cK l (show 0<9 by decide) (eH l i s).a
 obtain⟨d3,e3⟩:=h1.new (level:=4) (parent:=(eH l i s).rack) (up:=8+nxM l 9 (eH l i s).a) (by decide) (by decide) g2 Om Om
 unfold xZ
 simp only
 exact⟨d3,a4W l e3 _ _ (aiX h2 fun p x hx=>lJ hx),fun _=>⟨lJ g1,lJ g2⟩⟩
theorem aBY (l:List Int) (a:Nat):∀ k,MV k (eF l ⟨[iW],[],0,0,0,a⟩ k)
 | 0=>⟨⟨rfl,fun i hi=>absurd hi (by simp[eF])⟩,fun i hi=>absurd hi (by simp[eF]),fun h=>absurd h Om⟩
 | k+1=>bmS l k (aBY l a k)
theorem bkV {ds:List bN} (h:DV ds) (hl:ds.length≤100) (f:aJ) (hf:f.bHB=ds):mI f=true:=by
 have hr:=h.root
 have hdom:=h.dom
 unfold mI
 rw[hf]
 cases hdm:ds with
 | nil=>rw[hdm] at hr; cases hr
 | cons r t =>
  rw[hdm] at hr
  have:r=iW:=by simpa using hr
  subst this
  show xM f iW t=true
  unfold xM
  simp only[bJZ]
  refine⟨⟨⟨⟨⟨⟨rfl,rfl⟩,rfl⟩,rfl⟩,XP.lim⟩,by rw[show iW.bHQ=oE from rfl,XP.zero]; rfl⟩,?_⟩
  rw[bJW]
  intro i hi
  rw[bKE] at hi
  rw[bJN hi]
  obtain⟨lev,p,u,h1,h2,h3,h4,h5,h6,h7,h8,h9,h10,h11⟩:=hdom i (by rw[hdm]; simp; omega)
  have e:ds[i+1]'(by rw[hdm]; simp; omega)=t[i]:=by simp[hdm]
  rw[e] at h1 h2 h5 h8 h11
  show ER f i t[i]=true
  unfold ER
  simp only[bJZ]
  refine⟨⟨⟨⟨?_,?_⟩,?_⟩,?_⟩,by rw[h11]; exact XP.lim⟩
  ·rw[h5]; exact eK Om Om
  ·rw[h5,h2,hf,bMF,bJX,h7,agU Om Om]
   exact decide_eq_true rfl
  ·rw[h2]; exact eK Om Om
  ·rw[h8]; exact eK Om Om
theorem bdT {ds:List bN} {rs:List cC} (h:DV ds) (hr:∀ i (hi:i<rs.length),UQ ds i rs[i]) (l1:ds.length≤90) (l2:rs.length≤90):distinct ((ds.drop 1).map bN.name++rs.map cC.name)=true:=by
 have hA:∀ i (hi:i<((ds.drop 1).map bN.name).length),((ds.drop 1).map bN.name)[i]=dK 110 (i+1):=by
  intro i hi
  rw[bJC,bLF] at hi
  obtain⟨lev,p,u,h1,-⟩:=h.dom i Om
  rw[bLK,List.getElem_drop]
  simp only[Nat.add_comm 1 i]
  exact h1
 have hB:∀ i (hi:i<(rs.map cC.name).length),(rs.map cC.name)[i]=dK 100 i:=by
  intro i hi
  rw[bJC] at hi
  obtain⟨m,c,h1,-⟩:=hr i hi
  rw[bLK]; exact h1
 have lA:((ds.drop 1).map bN.name).length≤90:=by rw[bJC,bLF]; omega
 have lB:(rs.map cC.name).length≤90:=by rw[bJC]; omega
 generalize (ds.drop 1).map bN.name=A at *
 generalize rs.map cC.name=B at *
 refine RY ?_ ?_
 ·intro x hx
  rcases bKO.1 hx with hx | hx
  ·obtain⟨i,hi,rfl⟩:=bLL hx
   rw[hA i hi]
   exact WL (by decide) Om
  ·obtain⟨i,hi,rfl⟩:=bLL hx
   rw[hB i hi]
   exact WL (by decide) Om
 ·rw[bLP]
  refine⟨MR (g:=fun s=>unM s-1) fun i hi=>?_,MR (g:=unM) fun i hi=>?_,fun x hx y hy e=>?_⟩
  ·rw[hA i hi,XI _ Om]; omega
  ·rw[hB i hi]; exact XI _ Om
  ·obtain⟨i,hi,rfl⟩:=bLL hx
   obtain⟨j,hj,rfl⟩:=bLL hy
   rw[hA i hi,hB j hj] at e
   exact absurd (List.cons.inj e).1 (by decide)
theorem aBB:cH (mkT 1 2)=true∧cA (mkT 1 2)=true:=by decide +kernel
theorem VO:cH (mkT 1 1000)=true∧rU (mkT 1 1000)=true∧cH (mkT 30 1)=true:=by decide +kernel
theorem brN (l:List Int) (n a:Nat):iR 2 (oG l n a)=true:=by
 have n1:=cK l (show 0<2 by decide) a
 have n2:=cK l (show 0<3 by decide) (a+1)
 have n3:=cK l (Om:0<nxM l 3 (a+1)+1) (a+2)
 have n4:=cK l (show 0<4 by decide) (a+3)
 have n5:=cK l (show 0<3 by decide) (a+4)
 unfold oG iR GT yC
 simp only[bJZ,List.all_cons,List.all_nil,bLE]
 refine⟨⟨⟨⟨⟨⟨⟨⟨eK Om Om,eK Om Om⟩,decide_eq_true Om⟩,eK Om Om⟩,rfl⟩,eK Om Om,eK Om Om,eK Om Om,eK Om Om,eK Om Om⟩,?_⟩,⟨⟨⟨decide_eq_true (by rw[bMG]; omega),?_⟩,VO.1⟩,VO.2.1⟩,VO.2.2⟩,?_⟩
 ·split<;>rfl
 ·rw[bJW]
  intro x hx
  rw[List.eq_of_mem_replicate hx,aBB.1,aBB.2]
  rfl
 ·split<;>decide
theorem XA (l:List Int):∀ n a i (hi:i<(gW l n a).length),(gW l n a)[i].name=dK 112 (n-i)∧iR 2 (gW l n a)[i]=true
 | 0,_,i,hi=>by cases hi
 | n+1,a,0,_=>⟨rfl,brN l _ _⟩
 | n+1,a,i+1,hi=>by
  have:=XA l n (a+6) i (by simpa [gW] using hi)
  simp only[gW,List.getElem_cons_succ]
  rw[show n+1-(i+1)=n-i by omega]
  exact this
theorem aJN (l:List Int) (p:Nat):∀ n a i (hi:i<(kM l p n a).length),(kM l p n a)[i].name=dK 118 (n-i)
 | 0,_,i,hi=>by cases hi
 | n+1,a,0,_=>rfl
 | n+1,a,i+1,hi=>by
  have:=aJN l p n (a+1) i (by simpa [kM] using hi)
  simp only[kM,List.getElem_cons_succ]
  rw[show n+1-(i+1)=n-i by omega]
  exact this
theorem JT {l:List (List UInt8)} {c:UInt8} (hc:eT c.toNat=true) (hn:l.length≤90) (h:∀ i (hi:i<l.length),l[i]=dK c (l.length-i)):distinct l=true:=by
 refine RY (fun x hx=>?_) (MR (g:=fun s=>l.length-unM s) fun i hi=>?_)
 ·obtain⟨i,hi,rfl⟩:=bLL hx
  rw[h i hi]; exact WL hc Om
 ·rw[h i hi,XI _ Om]; omega
theorem bqN:∀ x:Fin 100,jW ⟨[100,105,115,107],[mkT 1 1],[[mkT 0 1]],[mkT 1 ((100+x.val:Nat):Int)]⟩=true:=by decide +kernel
theorem wB (l:List Int) {bHA:Nat} (hv:bHA≤11) (a:Nat):dS (cW l bHA a).1=true:=by
 obtain⟨F,hvl,-,-⟩:=sV l (bHA:=bHA) Om a
 have n3:=cK l (show 0<3 by decide) (a+6)
 have hM:=oO l (acE (a+7)) (3+nxM l 3 (a+6)) Om
 have hV:=aBY l (a+7) (3+nxM l 3 (a+6))
 have hd:=F.bGY
 have hvo:=F.vols
 have hp:=F.pols
 unfold cW at hd hvl hvo hp ⊢
 simp only at hd hvl hvo hp ⊢
 generalize eF l ⟨[iW],[],0,0,0,a+7⟩ (3+nxM l 3 (a+6))=s at *
 have e1:=cK l (show 0<2 by decide) a
 have e2:=cK l (show 0<2 by decide) (a+2)
 have e3:=cK l (show 0<9 by decide) (a+3)
 have e4:=cK l (show 0<3 by decide) (a+4)
 have e5:=cK l (show 0<9 by decide) (a+5)
 have e6:=cK l (show 0<100 by decide) (a+1)
 have hlen:=hM.len
 have e7:=cK l (show 0<2 by decide) s.a
 have hdv:=hM.dlen
 unfold dS
 rw[bkV hV.dv Om _ rfl]
 simp only[bJZ,bLE]
 refine⟨⟨?_,⟨⟨⟨⟨?_,?_⟩,?_⟩,?_⟩,?_⟩⟩,⟨⟨⟨(show distinct [[100,105,115,107]]=true by decide +kernel),(show distinct [[98,105,103],[111,108,100]]=true by decide +kernel)⟩,bdT hV.dv hV.drv Om Om⟩,?_⟩,?_⟩
 ·unfold lF
  simp only[bJZ]
  exact⟨⟨⟨⟨⟨⟨eK Om Om,rfl⟩,rfl⟩,decide_eq_true Om⟩,decide_eq_true Om⟩,decide_eq_true Om⟩,decide_eq_true Om⟩
 ·simp only[List.all_cons,List.all_nil,bLE]
  exact bqN ⟨_,e6⟩
 ·simp only[List.all_cons,List.all_nil,bLE,bJZ,jC]
  exact⟨⟨⟨eK Om Om,eK Om Om⟩,rfl⟩,⟨eK Om Om,eK Om Om⟩,rfl⟩
 ·refine aMY fun i hi=>?_
  obtain⟨m,c,-,h2,h3,h4,h5⟩:=hV.drv i hi
  have hc:=(bKN.1 h5).1
  rw[bJC] at hc
  unfold gG
  simp only[bJZ]
  rw[h2,h4,bMF,bJX,h5]
  exact⟨⟨eK Om (by simp only[bKQ,bLO]; omega),eK Om Om⟩,rfl⟩
 ·exact aMY fun i hi=>(XA l _ _ i hi).2
 ·rw[bJW]
  intro x hx
  have:=hvo x hx
  exact eK this.1 (show x.bHM≤((gW l (1+nxM l 2 s.a) (s.a+1)).length:Int)-1 by omega)
 ·refine JT (c:=112) (by decide) (by rw[bJC]; omega) fun i hi=>?_
  have h1:=(XA l _ _ i (by simpa using hi)).1
  rw[bLK,h1,bJC,pT]
 ·refine JT (c:=118) (by decide) (by rw[bJC]; omega) fun i hi=>?_
  have h1:=aJN l _ _ _ i (by simpa using hi)
  rw[bLK,h1,bJC,yQ]


theorem CoL.brI:CoL [] []:=⟨rfl,fun j p q h=>by simp at h⟩
theorem CoL.auR {p q:PV} {ps qs:List PV} (h:Co p q) (hs:CoL ps qs):CoL (p::ps) (q::qs):=by
 refine⟨by simp[hs.len],fun j x y a b=>?_⟩
 cases j with
 | zero =>
  simp only[List.getElem?_cons_zero,bLW.injEq] at a b
  subst a; subst b; exact h
 | succ j=>exact hs.at_ j x y (by simpa using a) (by simpa using b)
theorem aD.a0W {C:Ctx} {name:Nat} {R:PV→PH→Prop} {x:PV} {s:Nat} (h:aD C name [x,.sl s []] .nil R):aD C name [x,.aB] .nil R :=
 h.args (.auR (.refl _) (.auR (.nil s) .brI))
theorem aD.seen {C:Ctx} {name:Nat} {args:List PV} {H:PH} {v:PV} (h:aD C name args H (bZ v)):aD C name args H (aE v) :=
 h.post fun r H' hr=>⟨v,hr.1,rfl,hr.2⟩
theorem bhG {C:Ctx} (f:aJ) (hv:VF f) (v:Nat) (h:v<f.bHA.length) :
  HH.wp C (aT adM.res (bZ (.int .i64 (eY f v)))) (PF.args [.agg f.cells,.int .i64 v]) .nil:=by
 obtain⟨hp,he⟩:=rW hv h
 have hpol:=hv.bHM _ (bJG hp)
 rw[he] at hpol
 have hw:IntKind.i64.wrap ((dM f v).k+(dM f v).m)=(dM f v).k+(dM f v).m:=wrap_i64 Om Om
 simp only[go_sem,γ,δ,ε,ζ,η,θ,ι,κ,μ,ν,ξ,ο,ρ,σ,τ,υ,reduceIte,reduceCtorEq,HH,aGB,adM]
 refine bU .nil eD PH.nil_le ?_
 simp only[go_sem,γ,δ,ε,ζ,η,θ,ι,κ,μ,ν,ξ,ο,ρ,σ,τ,υ,reduceIte,reduceCtorEq,aGC,uQ h,hv.adC h,oP hp,he]
 refine aQ fun o ho=>?_
 simp only[go_sem,γ,δ,ε,ζ,η,θ,ι,κ,μ,ν,ξ,ο,ρ,σ,τ,υ,reduceIte,reduceCtorEq,aGD,hw]
 refine⟨PH.nil_le,?_⟩
 exact kT (n:=(dM f v).k+(dM f v).m) Ev rfl
abbrev iiv (l:List Int):List (List PV):=l.map fun x=>[PV.int .i64 x]
abbrev oN (l:List (List Int)):List (List PV):=l.map fun r=>[ints r]
theorem bmR (l:List (List Int)):Flat (oN l):=qW fun r hr c hc=>by
 obtain⟨x,_,rfl⟩:=bKI.1 hr
 rw[bKP] at hc
 subst hc
 rfl
theorem exactly {C:Ctx} {name:Nat} {args:List PV} {H H2:PH} {v:PV} (h:aD C name args H (fun r H'=>Co r v∧H'=H2)):aD C name args H (fun r H'=>r=v∧H'=H2) :=
 h.post fun r H' hr=>⟨_,hr.1,rfl,hr.2⟩
structure tK (f:aJ) (L:List (List Int)):Prop where
 len:L.length=f.bHA.length
 row:∀ v (h:v<L.length),((L[v].length:Nat):Int)=eY f v
 home:∀ r∈L,∀ x∈r,-1≤x∧x<f.bGY.length
theorem tK.buQ {f:aJ} {L:List (List Int)} (h:tK f L) (hV:VF f):∀ k,k≤L.length→(L.take k).flatten.length≤k*8:=by
 have hl:=h.len
 intro k
 induction k with
 | zero=>intro _; simp
 | succ k ih =>
  intro hk
  rw[LG L hk,bJL]
  have h1:=ih Om
  have h2:=h.row k hk
  obtain⟨hp,he⟩:=rW hV (Om:k<f.bHA.length)
  have hpol:=hV.bHM _ (bJG hp)
  rw[he] at hpol
  unfold eY at h2
  omega
theorem tK.ok {f:aJ} (hV:VF f) {L:List (List Int)} (h:tK f L):iV L:=by
 have hv:=hV.small.bHA
 have hl:=h.len
 have:=h.buQ hV L.length (bJF _)
 rw[bKB] at this
 exact⟨by omega,by omega⟩

section
variable {H:PH} {B:List BX} {L:List LI}
end
theorem SI {p:Int→Bool}:∀ {l:List Int} {i:Nat},(∀ x∈l,p x=false)→eS p l i=none
 | [],_,_=>rfl
 | y::t,i,h=>by
  rw[eS,h y (by simp),if_neg (by decide)]
  exact SI fun x hx=>h x (by simp[hx])
theorem tK.shape {f:aJ} {L:List (List Int)} (h:tK f L) {v:Nat} (hv:v<L.length):lE f L v=none:=by
 have e:L.getD v []=L[v]:=by simp[bJX,hv]
 unfold lE
 rw[e,if_pos (h.row v hv),SI]
 ·rfl
 ·intro x hx
  have:=h.home _ (bJG hv) x hx
  simp[jA]
  omega
theorem amR (l:List Int) (m:Nat):∀ (k:Nat) (s:List cC × Nat),s.1.length≤(iJ l m k s).1.length
 | 0,s=>bJF _
 | k+1,s=>by
  rw[iJ]
  split
  ·have:=amR l m k (s.1++[⟨dK 100 s.1.length,((if nxM l 4 s.2=0 then 1 else 0:Nat):Int),(m:Nat)⟩],s.2+1)
   simp only[bJL,bJT] at this
   omega
  ·exact bJF _
theorem bdS (l:List Int) (m k:Nat) (s:List cC × Nat):1≤(iJ l m (k+1) s).1.length:=by
 rw[iJ]
 split
 ·have:=amR l m k (s.1++[⟨dK 100 s.1.length,((if nxM l 4 s.2=0 then 1 else 0:Nat):Int),(m:Nat)⟩],s.2+1)
  simp only[bJL,bJT] at this
  omega
 ·omega
theorem aZK (l:List Int) (s:MS) (k:Nat):1≤(eF l s (k+1)).bHX.length:=by
 rw[eF]
 unfold xZ
 simp only
 rw[show 1+nxM l 2 ((eH l k (eF l s k)).a+1)=nxM l 2 ((eH l k (eF l s k)).a+1)+1 by omega]
 exact bdS l _ _ _
theorem aaK (l:List Int) (bHA a:Nat):1≤(cW l bHA a).1.bGY.length:=by
 unfold cW
 simp only
 rw[show 3+nxM l 3 (a+6)=(2+nxM l 3 (a+6))+1 by omega]
 exact aZK l _ _
theorem axZ (row:List Int) {n:Nat} (hn:0<n):∀ k d,d<n→oV row n k d<n
 | 0,d,h=>h
 | k+1,d,h=>by
  rw[oV]
  split
  ·exact axZ row hn k _ (bKR _ hn)
  ·exact h
theorem beR (l:List Int) (row:List Int) {n:Nat} (hn:0<n) (a:Nat):-1≤(uG l row n a).1∧(uG l row n a).1<n:=by
 have:=axZ row hn n (nxM l n a) (cK l hn a)
 unfold uG
 simp only
 split
 ·simp only; omega
 ·split<;>simp only<;>omega
theorem aSR (l:List Int) {n:Nat} (hn:0<n) (a:Nat):∀ k,∀ x∈(jM l n a k).1,-1≤x∧x<n
 | 0,x,h=>by cases h
 | k+1,x,h=>by
  rw[jM] at h
  simp only[bKO,bKP] at h
  rcases h with h | rfl
  ·exact aSR l hn a k x h
  ·exact beR l _ hn _
theorem anU (l:List Int) {f:aJ} (hf:FM f) (h0:1≤f.bGY.length) (a:Nat):∀ k,k≤f.bHA.length →
  (∀ v (h:v<(cX l f a k).1.length),(((cX l f a k).1[v].length:Nat):Int)=eY f v)∧∀ r∈(cX l f a k).1,∀ x∈r,-1≤x∧x<f.bGY.length
 | 0,_=>⟨fun v h=>absurd h (by simp[cX]),fun r h=>by cases h⟩
 | k+1,hk=>by
  obtain⟨h1,h2⟩:=anU l hf h0 a k Om
  obtain⟨k1,-,-,-⟩:=nK l hf a k Om
  have hfr:=hf.VG (v:=k) Om
  obtain⟨r1,-,-⟩:=CN l f.bGY.length (cX l f a k).2 (eY f k).toNat
  rw[cX]
  simp only
  refine⟨aGH (P:=fun v (r:List Int)=>((r.length:Nat):Int)=eY f v) h1 ?_,fun r hr=>?_⟩
  ·rw[k1,r1]; omega
  ·rw[bKO,bKP] at hr
   rcases hr with hr | rfl
   ·exact h2 r hr
   ·exact aSR l Om _ _
theorem a5W (l:List Int) (bHA a b:Nat) (hv:bHA≤1000):tK (cW l bHA a).1 (cX l (cW l bHA a).1 b (cW l bHA a).1.bHA.length).1:=by
 have hF:=(sV l hv a).1
 obtain⟨h1,h2⟩:=anU l hF (aaK l bHA a) b _ (bJF _)
 obtain⟨k1,-,-,-⟩:=nK l hF b _ (bJF _)
 exact⟨k1,h1,h2⟩
structure BP (C:Ctx):Prop extends DF C where
 size:∀ (f:aJ) (v:Nat),VF f→v<f.bHA.length→aD C 245 [.agg f.cells,.int .i64 v] .nil (aE (.int .i64 (eY f v)))
 has:∀ (l:List Int) (x:Int),l.length≤1000000000000000→aD C 247 [ints l,.int .i64 x] .nil (aE (.bool (l.contains x)))
theorem UF {C:Ctx} {F:PF} {H:PH} (Lb:BP C) {row:List Int} (bHL:row.length≤1000) {q n:Nat} (hn:n=row.length) {x:Int} {args:List aP} {d:Option Nat} {K:PF→PH→Prop} (hO:bO H 1 (.osl q 1 0 n) (iiv row)) (ha:aP.evs F args=some [.osl q 1 0 n,.int .i64 x])
  (hk:K (F.put d (.bool (row.contains x))) H):fP C 247 args [] d K F H:=by
 obtain⟨rs,h1,h2,h3,h4⟩:=hO.id rfl
 subst hn
 rw[bJC] at h3 h4
 refine BG (.bool _) ?_ h1 ha hk
 rw[bLB,pO h3,h4]
 exact Lb.has row x Om
def bdJ (f:aJ) (o:Nat) (w:PV) (v:Nat):PF:=((((PF.nil.set 0 (.ptr o 2 0 0)).set 3 (.bG f.cells)).set 5 (w)).set 6 (.int .i64 v))
def fV (f:aJ) (o:Nat) (w:PV) (v q i:Nat):PF:=((((((PF.nil.set 0 (.ptr o 2 0 0)).set 3 (.bG f.cells)).set 5 (w)).set 6 (.int .i64 v)).set 7 (.osl q 1 0 i)).set 8 (.int .i64 i))
def aXZ (f:aJ) (o:Nat) (w:PV) (v q i d j:Nat):PF:=((((((((PF.nil.set 0 (.ptr o 2 0 0)).set 3 (.bG f.cells)).set 5 (w)).set 6 (.int .i64 v)).set 7 (.osl q 1 0 i)).set 8 (.int .i64 i)).set 9 (.int .i64 d)).set 10 (.int .i64 j))
theorem bdK {C:Ctx} (Lb:BP C) (f:aJ) (hd0:1≤f.bGY.length) (hd:f.bGY.length≤1000) (o:Nat) (w:PV) (v q i d0:Nat) (row:List Int) (hi:i=row.length) (bHL:row.length≤1000) (hdl:d0<f.bGY.length) (K:cO) (F:PF) (H:PH)
  (hF:(aXZ f o w v q i d0 0).le F) (hO:bO H 1 (.osl q 1 0 i) (iiv row))
  (hK:∀ F',(fV f o w v q i).le F'→F' 9=some (.int .i64 (oV row f.bGY.length f.bGY.length d0:Nat))→K (.exit 4) F' H) :
  aC.wp C (.loop yY) K F H:=by
 refine wp_loop (α:=Nat × Nat) (fun s=>aXZ f o w v q i s.2 s.1) (fun _=>H) (fun s=>s.1≤f.bGY.length∧s.2<f.bGY.length∧oV row f.bGY.length (f.bGY.length-s.1) s.2=oV row f.bGY.length f.bGY.length d0) (fun s=>f.bGY.length-s.1) (0,d0) ⟨bJO _,hdl,rfl⟩ hF PH.le_refl ?_
 rintro⟨j,d⟩ ⟨hj,hdd,hE⟩
 simp only at hj hdd hE ⊢
 simp only[go_sem,γ,δ,ε,ζ,η,θ,ι,κ,μ,ν,ξ,ο,ρ,σ,τ,υ,reduceIte,reduceCtorEq,yY,aaB,aXZ,bJC]
 by_cases hlt:j<f.bGY.length
 ·have bHF:(j:Int)<(f.bGY.length:Nat):=by omega
  simp only[go_sem,γ,δ,ε,ζ,η,θ,ι,κ,μ,ν,ξ,ο,ρ,σ,τ,υ,reduceIte,reduceCtorEq,bHF]
  refine UF Lb (x:=(d:Nat)) bHL hi hO rfl ?_
  obtain⟨k,hk⟩:∃ k,f.bGY.length-j=k+1:=⟨f.bGY.length-j-1,by omega⟩
  rw[hk,oV] at hE
  cases hc:row.contains ((d:Nat):Int) with
  | true =>
   rw[hc,if_pos rfl] at hE
   have hz:¬ ((f.bGY.length:Nat):Int)=0:=by omega
   have em:Int.tmod ((d+1:Nat):Int) (f.bGY.length:Nat)=(((d+1)%f.bGY.length:Nat):Int):=Int.ofNat_tmod _ _
   simp only[go_sem,γ,δ,ε,ζ,η,θ,ι,κ,μ,ν,ξ,ο,ρ,σ,τ,υ,reduceIte,reduceCtorEq,SA,bJC,wZz d,hz,em,SB,wZz j]
   refine aK (j+1,(d+1)%f.bGY.length) ⟨hlt,bKR _ Om,?_⟩ (by simp only; omega) Lq PH.le_refl
   simp only
   rw[show f.bGY.length-(j+1)=k by omega]
   exact hE
  | false =>
   rw[hc,if_neg (by simp)] at hE
   simp only[go_sem,γ,δ,ε,ζ,η,θ,ι,κ,μ,ν,ξ,ο,ρ,σ,τ,υ,reduceIte,reduceCtorEq]
   refine hK _ ?_ ?_
   ·unfold fV
    exact Lq
   ·rw[← hE]; simp only[go_sem,γ,δ,ε,ζ,η,θ,ι,κ,μ,ν,ξ,ο,ρ,σ,τ,υ,reduceIte,reduceCtorEq]
 ·have bHF:¬ (j:Int)<(f.bGY.length:Nat):=by omega
  have hz:f.bGY.length-j=0:=by omega
  rw[hz,oV] at hE
  simp only[go_sem,γ,δ,ε,ζ,η,θ,ι,κ,μ,ν,ξ,ο,ρ,σ,τ,υ,reduceIte,reduceCtorEq,bHF]
  refine hK _ ?_ ?_
  ·unfold fV
   exact Lq
  ·rw[← hE]; simp only[go_sem,γ,δ,ε,ζ,η,θ,ι,κ,μ,ν,ξ,ο,ρ,σ,τ,υ,reduceIte,reduceCtorEq]
theorem bkT {C:Ctx} (Lb:BP C) {l:List Int} (T:TpM l) (o:Nat) (f:aJ) (hV:VF f) (hd0:1≤f.bGY.length) (v:Nat) (hvl:v<f.bHA.length) (n:Nat) (hn:eY f v=n) (hn8:n≤8) (w:PV) (R:List (List PV)) (q0 a:Nat) (ha:a≤50000) (K:cO) (F:PF) (H:PH)
  (hF:(fV f o w v q0 0).le F) (hH:aU H [(o,bD l a)] [(w,1,R),(.osl q0 1 0 0,1,iiv [])])
  (hK:∀ q F' H',(fV f o w v q n).le F'→aU H' [(o,bD l (jM l f.bGY.length a n).2)] [(w,1,R),(.osl q 1 0 n,1,iiv (jM l f.bGY.length a n).1)]→K (.exit 2) F' H') :
  aC.wp C (.loop yZ) K F H:=by
 have hd24:=hV.small.bGY
 refine wp_loop (α:=Nat × Nat × PH) (fun s=>fV f o w v s.2.1 s.1) (fun s=>s.2.2) (fun s=>s.1≤n∧aU s.2.2 [(o,bD l (jM l f.bGY.length a s.1).2)] [(w,1,R),(.osl s.2.1 1 0 s.1,1,iiv (jM l f.bGY.length a s.1).1)]) (fun s=>n-s.1) (0,q0,H) ⟨bJO _,hH⟩ hF PH.le_refl ?_
 rintro⟨i,q,H0⟩ ⟨hi,hH⟩
 simp only at hi hH ⊢
 obtain⟨k1,k2,k3⟩:=CN l f.bGY.length a i
 have bHG:jM l f.bGY.length a (i+1)=((jM l f.bGY.length a i).1++[(uG l (jM l f.bGY.length a i).1 f.bGY.length (jM l f.bGY.length a i).2).1],(uG l (jM l f.bGY.length a i).1 f.bGY.length (jM l f.bGY.length a i).2).2):=rfl
 generalize hs:jM l f.bGY.length a i=s at *
 have hsz:=Lb.size f v hV hvl
 rw[hn] at hsz
 simp only[go_sem,γ,δ,ε,ζ,η,θ,ι,κ,μ,ν,ξ,ο,ρ,σ,τ,υ,reduceIte,reduceCtorEq,yZ,ZY,fV]
 refine aA hsz rfl ?_
 by_cases hlt:i<n
 ·have bHF:(i:Int)<(n:Nat):=by omega
  have nd:=cK l (Om:0<f.bGY.length) s.2
  have h11:(1:Nat)*1≤16777216:=by decide
  simp only[go_sem,γ,δ,ε,ζ,η,θ,ι,κ,μ,ν,ξ,ο,ρ,σ,τ,υ,reduceIte,reduceCtorEq,bHF,ZZ,bJC]
  refine cE Lb.toDF T (o:=o) (n:=f.bGY.length) (a:=s.2) Om Om rfl (hH.at 0 rfl) ?_
  have h1:=hH.set 0 rfl (bD l (s.2+1))
  simp only[go_sem,γ,δ,ε,ζ,η,θ,ι,κ,μ,ν,ξ,ο,ρ,σ,τ,υ,reduceIte,reduceCtorEq,aaA]
  refine bdK Lb f hd0 Om o w v q i (nxM l f.bGY.length s.2) s.1 k1.symm Om nd _ _ _ (by unfold aXZ; exact Lq) (h1.own 1 rfl) ?_
  intro F1 hF1 f9
  have f0:F1 0=some (.ptr o 2 0 0):=hF1 0 _ (by unfold fV; simp only[go_sem,γ,δ,ε,ζ,η,θ,ι,κ,μ,ν,ξ,ο,ρ,σ,τ,υ,reduceIte,reduceCtorEq])
  have f3:F1 3=some (.bG f.cells):=hF1 3 _ (by unfold fV; simp only[go_sem,γ,δ,ε,ζ,η,θ,ι,κ,μ,ν,ξ,ο,ρ,σ,τ,υ,reduceIte,reduceCtorEq])
  have f5:F1 5=some w:=hF1 5 _ (by unfold fV; simp only[go_sem,γ,δ,ε,ζ,η,θ,ι,κ,μ,ν,ξ,ο,ρ,σ,τ,υ,reduceIte,reduceCtorEq])
  have f6:F1 6=some (.int .i64 v):=hF1 6 _ (by unfold fV; simp only[go_sem,γ,δ,ε,ζ,η,θ,ι,κ,μ,ν,ξ,ο,ρ,σ,τ,υ,reduceIte,reduceCtorEq])
  have f7:F1 7=some (.osl q 1 0 i):=hF1 7 _ (by unfold fV; simp only[go_sem,γ,δ,ε,ζ,η,θ,ι,κ,μ,ν,ξ,ο,ρ,σ,τ,υ,reduceIte,reduceCtorEq])
  have f8:F1 8=some (.int .i64 i):=hF1 8 _ (by unfold fV; simp only[go_sem,γ,δ,ε,ζ,η,θ,ι,κ,μ,ν,ξ,ο,ρ,σ,τ,υ,reduceIte,reduceCtorEq])
  have hhome:uG l s.1 f.bGY.length s.2=if s.1.contains ((oV s.1 f.bGY.length f.bGY.length (nxM l f.bGY.length s.2):Nat):Int) then (-1,s.2+1) else if nxM l 12 (s.2+1)=0 then (-1,s.2+2) else (((oV s.1 f.bGY.length f.bGY.length (nxM l f.bGY.length s.2):Nat):Int),s.2+2):=rfl
  generalize oV s.1 f.bGY.length f.bGY.length (nxM l f.bGY.length s.2)=d at *
  have fin:∀ (x:Int) (b:Nat) (F':PF) (H':PH),uG l s.1 f.bGY.length s.2=(x,b)→(fV f o w v q i).le F'→F' 9=some (.int .i64 x)→aU H' [(o,bD l b)] [(w,1,R),(.osl q 1 0 i,1,iiv s.1)] →
    aC.wp C (.region zB) (dU 3 (gY C (aC.wp C (.region zC)) (eA (fun s:Nat × Nat × PH=>fV f o w v s.2.1 s.1) (fun s=>s.2.2) (fun s=>s.1≤n∧aU s.2.2 [(o,bD l (jM l f.bGY.length a s.1).2)] [(w,1,R),(.osl s.2.1 1 0 s.1,1,iiv (jM l f.bGY.length a s.1).1)]) (fun s=>n-s.1) (n-i) K))) F' H':=by
   intro x b F' H' hx hF' g9 hH'
   have g0:F' 0=some (.ptr o 2 0 0):=hF' 0 _ (by unfold fV; simp only[go_sem,γ,δ,ε,ζ,η,θ,ι,κ,μ,ν,ξ,ο,ρ,σ,τ,υ,reduceIte,reduceCtorEq])
   have g3:F' 3=some (.bG f.cells):=hF' 3 _ (by unfold fV; simp only[go_sem,γ,δ,ε,ζ,η,θ,ι,κ,μ,ν,ξ,ο,ρ,σ,τ,υ,reduceIte,reduceCtorEq])
   have g5:F' 5=some w:=hF' 5 _ (by unfold fV; simp only[go_sem,γ,δ,ε,ζ,η,θ,ι,κ,μ,ν,ξ,ο,ρ,σ,τ,υ,reduceIte,reduceCtorEq])
   have g6:F' 6=some (.int .i64 v):=hF' 6 _ (by unfold fV; simp only[go_sem,γ,δ,ε,ζ,η,θ,ι,κ,μ,ν,ξ,ο,ρ,σ,τ,υ,reduceIte,reduceCtorEq])
   have g7:F' 7=some (.osl q 1 0 i):=hF' 7 _ (by unfold fV; simp only[go_sem,γ,δ,ε,ζ,η,θ,ι,κ,μ,ν,ξ,ο,ρ,σ,τ,υ,reduceIte,reduceCtorEq])
   have g8:F' 8=some (.int .i64 i):=hF' 8 _ (by unfold fV; simp only[go_sem,γ,δ,ε,ζ,η,θ,ι,κ,μ,ν,ξ,ο,ρ,σ,τ,υ,reduceIte,reduceCtorEq])
   simp only[go_sem,γ,δ,ε,ζ,η,θ,ι,κ,μ,ν,ξ,ο,ρ,σ,τ,υ,reduceIte,reduceCtorEq,zB,g7,g9,h11]
   refine hH'.append 1 (src:=[[.int .i64 x]]) rfl rfl (by unfold roomFor; rw[bJC,k1]; simp only[bJT,maxLen]; omega) fun w' H2 h5 hw=>?_
   obtain⟨z,rfl⟩:=hw (by simp)
   have e:iiv s.1++[[PV.int .i64 x]]=iiv (s.1++[x]):=by simp[iiv]
   have el:(iiv s.1++[[PV.int .i64 x]]).length=i+1:=by simp[k1]
   rw[el] at h5
   rw[el]
   simp only[go_sem,γ,δ,ε,ζ,η,θ,ι,κ,μ,ν,ξ,ο,ρ,σ,τ,υ,reduceIte,reduceCtorEq,zC,g8,wZz i]
   refine aK (i+1,z,H2) ⟨hlt,?_⟩ (by simp only; omega) ?_ PH.le_refl
   ·simp only
    rw[bHG,hx,← e]
    exact h5
   ·unfold fV
    exact Lq
  simp only[aC.wp,go_sem] at fin
  simp only[go_sem,γ,δ,ε,ζ,η,θ,ι,κ,μ,ν,ξ,ο,ρ,σ,τ,υ,reduceIte,reduceCtorEq,SC,f7,f9]
  refine UF Lb (x:=(d:Nat)) Om k1.symm (h1.own 1 rfl) rfl ?_
  cases hc:s.1.contains ((d:Nat):Int) with
  | true =>
   rw[hc,if_pos rfl] at hhome
   simp only[go_sem,γ,δ,ε,ζ,η,θ,ι,κ,μ,ν,ξ,ο,ρ,σ,τ,υ,reduceIte,reduceCtorEq,zA]
   refine fin (-1) (s.2+1) _ _ hhome ?_ rfl h1
   unfold fV
   exact Lq
  | false =>
   rw[hc,if_neg (by simp)] at hhome
   simp only[go_sem,γ,δ,ε,ζ,η,θ,ι,κ,μ,ν,ξ,ο,ρ,σ,τ,υ,reduceIte,reduceCtorEq,f0]
   refine cE Lb.toDF T (o:=o) (n:=12) (a:=s.2+1) (by decide) Om rfl (h1.at 0 rfl) ?_
   have h2:=h1.set 0 rfl (bD l (s.2+2))
   by_cases c:nxM l 12 (s.2+1)=0
   ·rw[if_pos c] at hhome
    simp only[go_sem,γ,δ,ε,ζ,η,θ,ι,κ,μ,ν,ξ,ο,ρ,σ,τ,υ,reduceIte,reduceCtorEq,bW (show ((nxM l 12 (s.2+1):Nat):Int)=0 by omega),zA]
    refine fin (-1) (s.2+2) _ _ hhome ?_ rfl (by rw[PH.set_set] at h2; exact h2)
    unfold fV
    exact Lq
   ·rw[if_neg c] at hhome
    simp only[go_sem,γ,δ,ε,ζ,η,θ,ι,κ,μ,ν,ξ,ο,ρ,σ,τ,υ,reduceIte,reduceCtorEq,bF (show ((nxM l 12 (s.2+1):Nat):Int)≠0 by omega)]
    refine fin d (s.2+2) _ _ hhome ?_ (by simp only[go_sem,γ,δ,ε,ζ,η,θ,ι,κ,μ,ν,ξ,ο,ρ,σ,τ,υ,reduceIte,reduceCtorEq,f9]) (by rw[PH.set_set] at h2; exact h2)
    unfold fV
    exact Lq
 ·have bHF:¬ (i:Int)<(n:Nat):=by omega
  have:i=n:=by omega
  subst this
  simp only[go_sem,γ,δ,ε,ζ,η,θ,ι,κ,μ,ν,ξ,ο,ρ,σ,τ,υ,reduceIte,reduceCtorEq,bHF]
  refine hK q _ _ ?_ (by rw[hs]; exact hH)
  unfold fV
  exact Lq

def bjK (l:List Int) (o a:Nat) (f:aJ) (r:PV) (H:PH):Prop:=Co r (lay (cX l f a f.bHA.length).1)∧H=PH.nil.set o (bD l (cX l f a f.bHA.length).2)
theorem aXX {C:Ctx} (Lb:BP C) {l:List Int} (T:TpM l) (o a:Nat) (ha:a≤10000) (f:aJ) (hF:FM f) (hV:VF f) (hd0:1≤f.bGY.length) :
  vZ.wp C (aT BW.res (bjK l o a f)) (PF.args [.ptr o 2 0 0,.agg f.cells]) (PH.nil.set o (bD l a)):=by
 have hvl:=hV.small.bHA
 have h0:aU (PH.nil.set o (bD l a)) [(o,bD l a)] [(.aB,1,oN [])]:=(aU.nil.new (H:=PH.nil) rfl (bD l a)).rR 1
 have hR:∀ r H,bjK l o a f r H↔Co r (lay (cX l f a f.bHA.length).1)∧H=PH.nil.set o (bD l (cX l f a f.bHA.length).2):=fun _ _=>Iff.rfl
 simp only[go_sem,γ,δ,ε,ζ,η,θ,ι,κ,μ,ν,ξ,ο,ρ,σ,τ,υ,reduceIte,reduceCtorEq,vZ,ZS,BW,ZT,ZU]
 refine wp_loop (α:=Nat × PV × PH) (fun s=>bdJ f o s.2.1 s.1) (fun s=>s.2.2) (fun s=>s.1≤f.bHA.length∧aU s.2.2 [(o,bD l (cX l f a s.1).2)] [(s.2.1,1,oN (cX l f a s.1).1)]) (fun s=>f.bHA.length-s.1) (0,.aB,_) ⟨bJO _,h0⟩ ?_ PH.le_refl ?_
 ·unfold bdJ
  exact Lq
 rintro⟨i,w,H0⟩ ⟨hi,hH⟩
 simp only at hi hH ⊢
 obtain⟨k1,-,k3,k4⟩:=nK l hF a i hi
 simp only[go_sem,γ,δ,ε,ζ,η,θ,ι,κ,μ,ν,ξ,ο,ρ,σ,τ,υ,reduceIte,reduceCtorEq,RZ,ZV,bdJ,bJC]
 by_cases hlt:i<f.bHA.length
 ·have bHF:(i:Int)<(f.bHA.length:Nat):=by omega
  have hfr:=hF.VG hlt
  obtain⟨n,hn⟩:∃ n:Nat,eY f i=n:=⟨(eY f i).toNat,by omega⟩
  have bHG:cX l f a (i+1)=((cX l f a i).1++[(jM l f.bGY.length (cX l f a i).2 (eY f i).toNat).1],(jM l f.bGY.length (cX l f a i).2 (eY f i).toNat).2):=rfl
  rw[hn,bMF] at bHG
  generalize hs:cX l f a i=s at *
  have h11:(1:Nat)*1≤16777216:=by decide
  have h01:(0:Nat)*1≤16777216:=by decide
  simp only[go_sem,γ,δ,ε,ζ,η,θ,ι,κ,μ,ν,ξ,ο,ρ,σ,τ,υ,reduceIte,reduceCtorEq,bHF,ZW,h01]
  refine aQ fun q0 hq0=>?_
  have h1:=hH.aZS (s:=1) (rows:=iiv []) hq0
  obtain⟨r1,-,-⟩:=CN l f.bGY.length s.2 n
  simp only[go_sem,γ,δ,ε,ζ,η,θ,ι,κ,μ,ν,ξ,ο,ρ,σ,τ,υ,reduceIte,reduceCtorEq,ZX]
  refine bkT Lb T o f hV hd0 i hlt n hn Om w (oN s.1) q0 s.2 Om _ _ _ (by unfold fV; exact Lq) h1 ?_
  intro q F1 H1 hF1 h2
  generalize bHL:jM l f.bGY.length s.2 n=row at *
  have f0:F1 0=some (.ptr o 2 0 0):=hF1 0 _ (by unfold fV; simp only[go_sem,γ,δ,ε,ζ,η,θ,ι,κ,μ,ν,ξ,ο,ρ,σ,τ,υ,reduceIte,reduceCtorEq])
  have f3:F1 3=some (.bG f.cells):=hF1 3 _ (by unfold fV; simp only[go_sem,γ,δ,ε,ζ,η,θ,ι,κ,μ,ν,ξ,ο,ρ,σ,τ,υ,reduceIte,reduceCtorEq])
  have f5:F1 5=some w:=hF1 5 _ (by unfold fV; simp only[go_sem,γ,δ,ε,ζ,η,θ,ι,κ,μ,ν,ξ,ο,ρ,σ,τ,υ,reduceIte,reduceCtorEq])
  have f6:F1 6=some (.int .i64 i):=hF1 6 _ (by unfold fV; simp only[go_sem,γ,δ,ε,ζ,η,θ,ι,κ,μ,ν,ξ,ο,ρ,σ,τ,υ,reduceIte,reduceCtorEq])
  have f7:F1 7=some (.osl q 1 0 n):=hF1 7 _ (by unfold fV; simp only[go_sem,γ,δ,ε,ζ,η,θ,ι,κ,μ,ν,ξ,ο,ρ,σ,τ,υ,reduceIte,reduceCtorEq])
  simp only[go_sem,γ,δ,ε,ζ,η,θ,ι,κ,μ,ν,ξ,ο,ρ,σ,τ,υ,reduceIte,reduceCtorEq,SD,f5,f7,h11]
  refine h2.append 0 (src:=[[.osl q 1 0 n]]) rfl Sq (by unfold roomFor; rw[bJC,k1]; simp only[bJT,maxLen]; omega) fun w' H' h3 hw=>?_
  obtain⟨q',rfl⟩:=hw (by simp)
  generalize hw':(PV.osl q' 1 0 (oN s.1++[[PV.osl q 1 0 n]]).length)=w' at *
  obtain⟨rs,z1,z2,z3,z4,z5⟩:=h3.frz 1 rfl
  have y1:=z4 0 _ (by decide) rfl
  simp only at y1
  have yf:PV.frz q 1 rs w'=w':=by rw[← hw'] at y1 ⊢; exact y1
  simp only[go_sem,γ,δ,ε,ζ,η,θ,ι,κ,μ,ν,ξ,ο,ρ,σ,τ,υ,reduceIte,reduceCtorEq,SE,f6,wZz i]
  refine aoH (i+1,w',H'.frz q 1 rs) z1 ⟨hlt,?_⟩ (by simp only; omega) ?_ PH.le_refl
  ·simp only
   rw[bHG]
   have eB:([(o,bD l row.2)]:List BX).map (fun b=>(b.1,b.2.frz q 1 rs))=[(o,bD l row.2)]:=rfl
   have e5:(oN s.1++[[PV.osl q 1 0 n]]).map (fun r=>r.map (PV.dC q 1 rs))=oN (s.1++[row.1]):=by
    rw[bLS,bmR]
    show oN s.1++[[PV.dC q 1 rs (.osl q 1 0 n)]]=_
    rw[z2]
    simp[oN]
   rw[← eB,← e5]
   exact z5
  ·(repeat' (first|exact PF.nil_le|refine PF.aI ?_ ?_))<;>first|(simp only[go_sem,γ,δ,ε,ζ,η,θ,ι,κ,μ,ν,ξ,ο,ρ,σ,τ,υ,reduceIte,reduceCtorEq,f0,f3,yf]<;>rfl)|rfl
 ·have bHF:¬ (i:Int)<(f.bHA.length:Nat):=by omega
  have:i=f.bHA.length:=by omega
  subst this
  simp only[go_sem,γ,δ,ε,ζ,η,θ,ι,κ,μ,ν,ξ,ο,ρ,σ,τ,υ,reduceIte,reduceCtorEq,bHF,SF]
  rcases hH.own 0 rfl with ⟨h1',rfl⟩ | ⟨q,rs,rfl,_⟩
  ·refine aX (vs:=[.aB]) (.inr rfl) (PH.nil.set o (bD l (cX l f a f.bHA.length).2)) Sq (PH.aI PH.nil_le (hH.at 0 rfl)) ?_
   rw[aW,hR]
   refine⟨?_,rfl⟩
   unfold lay
   rw[show (cX l f a f.bHA.length).1.map (fun r=>[ints r])=[] from h1']
   exact .nil 1
  ·obtain⟨rs,g1,g2,g3,-,g4⟩:=hH.frz 0 rfl
   refine akO (vs:=[.osl q 1 0 (oN (cX l f a f.bHA.length).1).length]) (.inr rfl) Sq (.step g1 (.done (H2:=PH.nil.set o (bD l (cX l f a f.bHA.length).2)) ?_ (PH.aI PH.nil_le ?_)))
   ·rw[aW,g3,hR]
    exact⟨.refl _,rfl⟩
   ·have:=g4.at 0 rfl
    rw[this]
    rfl
section
variable {H:PH} {B:List BX} {L:List LI} {s:Nat} {rows:List (List PV)}
theorem aU.buX (h:aU H B L) {r:PV} {H':PH} (m:kF s rows r H') (ha:kE H .nil H'):aU (H.eU .nil H') B (L++[(r,s,rows)]):=by
 obtain⟨hO,hk⟩:=m.eU ha
 have h1:=h.rR s
 have e:(L++[(PV.aB,s,([]:List (List PV)))]).set L.length (r,s,rows)=L++[(r,s,rows)]:=by
  rw[bMR _ _ (bJF _),bLY]; rfl
 rw[← e]
 refine h1.yK L.length (v:=.aB) (s:=s) (rows:=[]) (by simp) hO (fun q hq=>.inr ?_) fun q hq _=>?_
 ·rcases m with ⟨-,rfl,-⟩ | ⟨p,rs,rfl,rfl,-⟩
  ·cases hq
  ·cases hq
   exact ha q (.rows s rs) (by rw[fI]) rfl
 ·obtain⟨x,hx⟩:=h1.CR hq
  rw[hx]; exact hk q x hx
theorem kF.some (s:Nat) (rows:List (List PV)) (G:PH):∃ r H',kF s rows r H'∧kE G .nil H':=by
 obtain⟨o,ho⟩:=G.fresh
 refine⟨.osl o s 0 rows.length,PH.nil.set o (.rows s rows),.inr ⟨o,rows,rfl,rfl,bJF _,bKB⟩,fun q x hx _=>?_⟩
 rw[bR] at hx
 split at hx
 ·rename_i e; rw[e]; exact ho
 ·cases hx
end

section
variable {C:Ctx} {F:PF} {H Hs:PH} {tn a a2:Nat} {raw:List Int} {R:Nat→PV→PH→Prop} {st:Bool} {args:List aP} {d:Option Nat} {K:PF→PH→Prop}
end
section
variable {C:Ctx} {F:PF} {H:PH} {B:List BX} {L:List LI} {args:List aP} {d:Option Nat} {K:PF→PH→Prop}
end
theorem a8G {f:aJ} (hV:VF f) (room:List Int) {d:Nat} (hd:d<f.bGY.length):0≤qY f room d∧qY f room d≤ext f d∧1≤ext f d∧ext f d≤16:=by
 obtain⟨hm,he⟩:=hV.a5A hd
 have:=hV.model _ (bJG hm)
 rw[he] at this
 unfold qY
 split
 ·omega
 ·omega
theorem YV (l:List Int) (x:Int):∀ (xs:List Int) (a:Nat),eV l (xs++[x]) a=((eV l xs a).1++[(vY l x (eV l xs a).2).1],(vY l x (eV l xs a).2).2)
 | [],a=>rfl
 | y::ys,a=>by
  rw[List.cons_append,eV,YV l x ys]
  rfl
theorem UT (l:List Int):∀ (xs:List Int) (a:Nat),(eV l xs a).1.length=xs.length∧a≤(eV l xs a).2∧(eV l xs a).2≤a+2*xs.length
 | [],a=>⟨rfl,bJF _,bJF _⟩
 | x::xs,a=>by
  obtain⟨h1,h2,h3⟩:=UT l xs (vY l x a).2
  have h4:a≤(vY l x a).2∧(vY l x a).2≤a+2:=by
   unfold vY
   split
   ·simp
   ·split<;>simp
  rw[eV]
  simp only[bKQ,h1,true_and]
  omega
theorem aU.store {H:PH} {B:List BX} {L:List LI} (h:aU H B L) (i:Nat) {q s n:Nat} {rows:List (List PV)} (hi:L[i]?=some (.osl q s 0 n,s,rows)) (k:Nat) (c:List PV) :
  ∃ rs,H q=some (.rows s rs)∧n≤rs.length∧rs.take n=rows∧aU (H.set q (.rows s (rs.set k c))) B (L.set i (.osl q s 0 n,s,rows.set k c)):=by
 obtain⟨rs,h1,h2,h3,h4⟩:=(h.own i hi).id rfl
 injection h2 with _ _ _ hn
 subst hn
 refine⟨rs,h1,h3,h4,h.yK i hi (.inr ⟨q,rs.set k c,by rw[bLA],by rw[fI],by rw[bLA,bLA]; exact h3,by rw[bLA,List.take_set,h4]⟩) (fun p hp=>.inl hp) fun p _ hp=>?_⟩
 have:p≠q:=hp q rfl
 rw[bR,if_neg this]
def avM (l:List Int) (o a:Nat) (f:aJ) (r:PV) (H:PH):Prop:=Co r (ints (eV l (fA f []) a).1)∧H=PH.nil.set o (bD l (eV l (fA f []) a).2)
def tN (o:Nat) (q n i:Nat):PF:=(((PF.nil.set 0 (.ptr o 2 0 0)).set 5 (.osl q 1 0 n)).set 6 (.int .i64 i))
theorem a4T {C:Ctx} (Lb:BP C) {l:List Int} (T:TpM l) (o a:Nat) (ha:a≤10000) (f:aJ) (hv:dS f=true) (hd0:1≤f.bGY.length)
  (hr:aD C 85 [.agg f.cells,ints []] .nil (kF 1 (bH (adJ f [])))) :
  zD.wp C (aT KT.res (avM l o a f)) (PF.args [.ptr o 2 0 0,.agg f.cells]) (PH.nil.set o (bD l a)):=by
 have hV:=VF.of hv
 have hd24:=hV.small.bGY
 have hX:adJ f []=fA f []:=by unfold adJ; rw[hv]; rfl
 rw[hX] at hr
 have hXl:=yD f []
 have hXi:∀ i (h:i<(fA f []).length),0≤(fA f [])[i]∧(fA f [])[i]≤16:=fun i h=>by
  rw[aFR]
  have:=a8G hV [] (Om:i<f.bGY.length)
  omega
 have hR:∀ r H,avM l o a f r H↔Co r (ints (eV l (fA f []) a).1)∧H=PH.nil.set o (bD l (eV l (fA f []) a).2):=fun _ _=>Iff.rfl
 generalize fA f []=X at *
 have h0:aU (PH.nil.set o (bD l a)) [(o,bD l a)] []:=aU.nil.new (H:=PH.nil) rfl (bD l a)
 simp only[go_sem,γ,δ,ε,ζ,η,θ,ι,κ,μ,ν,ξ,ο,ρ,σ,τ,υ,reduceIte,reduceCtorEq,zD,amJ,KT,amK]
 refine eO hr.a0W rfl PH.nil_le ?_
 intro r H' hm hap
 have h1:=h0.buX hm hap
 obtain⟨q,rfl⟩:=(h1.own 0 rfl).one (by rw[gU]; omega)
 rw[gU,hXl] at h1
 simp only[go_sem,γ,δ,ε,ζ,η,θ,ι,κ,μ,ν,ξ,ο,ρ,σ,τ,υ,reduceIte,reduceCtorEq,gU,hXl,amL]
 generalize hn:f.bGY.length=n at *
 refine wp_loop (α:=Nat × PH) (fun s=>tN o q n s.1) (fun s=>s.2) (fun s=>s.1≤n∧aU s.2 [(o,bD l (eV l (X.take s.1) a).2)] [(.osl q 1 0 n,1,bH ((eV l (X.take s.1) a).1++X.drop s.1))]) (fun s=>n-s.1) (0,_) ⟨bJO _,h1⟩ ?_ PH.le_refl ?_
 ·unfold tN
  exact Lq
 rintro⟨i,H0⟩ ⟨hi,hH⟩
 simp only at hi hH ⊢
 obtain⟨k1,k2,k3⟩:=UT l (X.take i) a
 rw[bJU,bLG Om] at k1 k3
 simp only[go_sem,γ,δ,ε,ζ,η,θ,ι,κ,μ,ν,ξ,ο,ρ,σ,τ,υ,reduceIte,reduceCtorEq,aaE,amM,tN]
 by_cases hlt:i<n
 ·have bHF:(i:Int)<(n:Nat):=by omega
  have hiX:i<X.length:=by omega
  have hx:=hXi i hiX
  have bHG:eV l (X.take (i+1)) a=((eV l (X.take i) a).1++[(vY l X[i] (eV l (X.take i) a).2).1],(vY l X[i] (eV l (X.take i) a).2).2):=by
   rw[bLC hiX,YV]
  have hdrop:X.drop i=X[i]::X.drop (i+1):=bKY hiX
  generalize eV l (X.take i) a=s at *
  have hcut:vY l X[i] s.2=if nxM l 9 s.2=0 then (0,s.2+1) else if nxM l 9 s.2=1 then (((nxM l (X[i]+1).toNat (s.2+1):Nat):Int),s.2+2) else (X[i],s.2+1):=rfl
  generalize X[i]=x at *
  simp only[go_sem,γ,δ,ε,ζ,η,θ,ι,κ,μ,ν,ξ,ο,ρ,σ,τ,υ,reduceIte,reduceCtorEq,bHF,amN]
  refine cE Lb.toDF T (o:=o) (n:=9) (a:=s.2) (by decide) Om rfl (hH.at 0 rfl) ?_
  have h2:=hH.set 0 rfl (bD l (s.2+1))
  have hY:∀ v:Int,(bH (s.1++X.drop i)).set i [.int .i64 v]=bH ((s.1++[v])++X.drop (i+1)):=fun v=>by
   rw[a5U,hdrop,bMR _ _ Om,k1,bLY,List.set_cons_zero,bKD]
   rfl
  have fin:∀ (y:Int) (b:Nat) (F':PF) (H':PH),vY l x s.2=(y,b)→(tN o q n i).le F'→aU H' [(o,bD l b)] [(.osl q 1 0 n,1,bH ((s.1++[y])++X.drop (i+1)))] →
    aC.wp C (.region KV) (eA (fun s:Nat × PH=>tN o q n s.1) (fun s=>s.2) (fun s=>s.1≤n∧aU s.2 [(o,bD l (eV l (X.take s.1) a).2)] [(.osl q 1 0 n,1,bH ((eV l (X.take s.1) a).1++X.drop s.1))]) (fun s=>n-s.1) (n-i) (dU 0 (gY C (aC.wp C ((aC.region ES).seq aC.ret)) (aT [dV.tmp 4] (avM l o a f))))) F' H':=by
   intro y b F' H' hy hF' hH'
   have g0:F' 0=some (.ptr o 2 0 0):=hF' 0 _ (by unfold tN; simp only[go_sem,γ,δ,ε,ζ,η,θ,ι,κ,μ,ν,ξ,ο,ρ,σ,τ,υ,reduceIte,reduceCtorEq])
   have g5:F' 5=some (.osl q 1 0 n):=hF' 5 _ (by unfold tN; simp only[go_sem,γ,δ,ε,ζ,η,θ,ι,κ,μ,ν,ξ,ο,ρ,σ,τ,υ,reduceIte,reduceCtorEq])
   have g6:F' 6=some (.int .i64 i):=hF' 6 _ (by unfold tN; simp only[go_sem,γ,δ,ε,ζ,η,θ,ι,κ,μ,ν,ξ,ο,ρ,σ,τ,υ,reduceIte,reduceCtorEq])
   simp only[go_sem,γ,δ,ε,ζ,η,θ,ι,κ,μ,ν,ξ,ο,ρ,σ,τ,υ,reduceIte,reduceCtorEq,KV,g6,wZz i]
   refine aK (i+1,H') ⟨hlt,?_⟩ (by simp only; omega) ?_ PH.le_refl
   ·simp only
    rw[bHG,hy]
    exact hH'
   ·unfold tN
    exact Lq
  simp only[aC.wp,go_sem] at fin
  simp only[go_sem,γ,δ,ε,ζ,η,θ,ι,κ,μ,ν,ξ,ο,ρ,σ,τ,υ,reduceIte,reduceCtorEq]
  by_cases c0:nxM l 9 s.2=0
  ·rw[if_pos c0] at hcut
   obtain⟨rs,b1,b2,b3,h3⟩:=h2.store 0 rfl i [.int .i64 0]
   rw[hY] at h3
   have hil:i<rs.length:=by omega
   have hir:rs[i]?=some [.int .i64 x]:=by
    have:(rs.take n)[i]?=some [.int .i64 x]:=by
     rw[b3]
     unfold bH
     rw[bKH,hdrop,bKZ Om,k1,bLY]
     rfl
    rwa [bMS hlt] at this
   simp only[go_sem,γ,δ,ε,ζ,η,θ,ι,κ,μ,ν,ξ,ο,ρ,σ,τ,υ,reduceIte,reduceCtorEq,bW (Om:((nxM l 9 s.2:Nat):Int)=0),xN,amO,bHF,b1,hir,bKC]
   refine fin 0 (s.2+1) _ _ hcut ?_ h3
   unfold tN
   exact Lq
  by_cases c1:nxM l 9 s.2=1
  ·rw[if_neg c0,if_pos c1] at hcut
   obtain⟨xn,hxn⟩:∃ xn:Nat,x=xn:=⟨x.toNat,by omega⟩
   subst hxn
   rw[show ((xn:Int)+1).toNat=xn+1 by omega] at hcut
   obtain⟨rs,b1,b2,b3,-⟩:=h2.store 0 rfl i [.int .i64 0]
   have hir:rs[i]?=some [.int .i64 xn]:=by
    have:(rs.take n)[i]?=some [.int .i64 xn]:=by
     rw[b3]
     unfold bH
     rw[bKH,hdrop,bKZ Om,k1,bLY]
     rfl
    rwa [bMS hlt] at this
   have e1:IntKind.i64.wrap ((xn:Int)+1)=((xn+1:Nat):Int):=dE Om
   have h4:=h2.set 0 rfl (bD l (s.2+2))
   rw[PH.set_set] at h4
   obtain⟨rs2,d1,d2,d3,h5⟩:=h4.store 0 rfl i [.int .i64 (nxM l (xn+1) (s.2+1):Nat)]
   rw[hY] at h5
   have hir2:rs2[i]?=some [.int .i64 xn]:=by
    have:(rs2.take n)[i]?=some [.int .i64 xn]:=by
     rw[d3]
     unfold bH
     rw[bKH,hdrop,bKZ Om,k1,bLY]
     rfl
    rwa [bMS hlt] at this
   simp only[go_sem,γ,δ,ε,ζ,η,θ,ι,κ,μ,ν,ξ,ο,ρ,σ,τ,υ,reduceIte,reduceCtorEq,bF (Om:((nxM l 9 s.2:Nat):Int)≠0),bW (Om:((nxM l 9 s.2:Nat):Int)=1),xN,KU,amP,bHF,b1,hir,e1]
   refine cE Lb.toDF T (o:=o) (n:=xn+1) (a:=s.2+1) Om Om rfl (h2.at 0 rfl) ?_
   simp only[go_sem,γ,δ,ε,ζ,η,θ,ι,κ,μ,ν,ξ,ο,ρ,σ,τ,υ,reduceIte,reduceCtorEq,bHF,d1,hir2,bKC]
   refine fin _ (s.2+2) _ _ hcut ?_ h5
   unfold tN
   exact Lq
  ·rw[if_neg c0,if_neg c1] at hcut
   simp only[go_sem,γ,δ,ε,ζ,η,θ,ι,κ,μ,ν,ξ,ο,ρ,σ,τ,υ,reduceIte,reduceCtorEq,bF (Om:((nxM l 9 s.2:Nat):Int)≠0),bF (Om:((nxM l 9 s.2:Nat):Int)≠1),xN,KU]
   refine fin x (s.2+1) _ _ hcut ?_ ?_
   ·unfold tN
    exact Lq
   ·rw[bKD,List.singleton_append,← hdrop]
    exact h2
 ·have bHF:¬ (i:Int)<(n:Nat):=by omega
  have:i=n:=by omega
  subst this
  have et:X.take i=X:=bJS Om
  have ed:X.drop i=[]:=List.drop_eq_nil_of_le Om
  rw[et,ed,bLD] at hH
  simp only[go_sem,γ,δ,ε,ζ,η,θ,ι,κ,μ,ν,ξ,ο,ρ,σ,τ,υ,reduceIte,reduceCtorEq,bHF,ES]
  obtain⟨rs,g1,g2,g3,-,g4⟩:=hH.frz 0 rfl
  refine akO (vs:=[.osl q 1 0 i]) (.inr rfl) rfl (.step g1 (.done (H2:=PH.nil.set o (bD l (eV l X a).2)) ?_ (PH.aI PH.nil_le ?_)))
  ·rw[aW,g3,hR]
   exact⟨.refl _,rfl⟩
  ·have:=g4.at 0 rfl
   rw[this]
   rfl
def abX:Rg:=[iI 4 0]
def abY:Rg:=[iM 6 1,iC 7 .lss 6 1]
def abZ:Rg:=[iI 4 0]
def acA:Rg:=[iM 8 0,iM 9 1,iB 10 .rem 8 9,iM 5 10]
def acB:Rg:=[iM 11 5,iC 12 .lss 11 0]
def acC:Rg:=[iM 13 5,iM 14 1,iB 15 .add 13 14,iM 4 15]
def acD:Rg:=[iM 16 5,iM 4 16]
def wL:aC:=(sq abX (.seq (sq abY (.cond (Tm 7) (sq abZ .ret) .skip)) (sq acA (.seq (sq acB (.cond (Tm 12) (sq acC .ret) .skip)) (sq acD .ret)))))
def aZI:List Nat:=[]
def CF:aV:=⟨2,17,wL,[.tmp 4]⟩
def aTI:Rg:=[iA 4 (.box false (Tm 1)),iA 6 (.alloc [(.int .i64 0),(.int .i64 0)]),iI 7 0]
def aTJ:Rg:=[iF 10 1 4,iL 11 10,iC 12 .lss 11 0,iM 13 12,gF 14 1 4 13 false,gL 15 14 13 false,gM 16 0 13 false,gB 17 .geq 15 16 13 false,iQ 18 13 17]
def akV:Rg:=[iA 19 (.build [(.int .i64 0),(.int .i64 0)] []),iS 2 6 19,iI 7 110]
def aTK:Rd:=[(iA 21 (.bIU (true,[.int .i64,.int .i64])),true),(iA 22 (.build [(.int .i64 0),(.int .i64 0)] [(0,1,(Ci 1)),(1,1,(Ci 1))]),true),(⟨none,.insert (true,[.int .i64,.int .i64]) (Tm 21) (Tm 22) (Ci 2),none⟩,true),(iA 23 (.build [(.int .i64 0),(.int .i64 0)] [(0,1,(Ci 2)),(1,1,(Ci 2))]),true),(⟨none,.insert (true,[.int .i64,.int .i64]) (Tm 21) (Tm 23) (Ci 3),none⟩,true),(iA 24 (.build [(.int .i64 0),(.int .i64 0)] [(0,1,(Ci 3)),(1,1,(Ci 3))]),true),(⟨none,.insert (true,[.int .i64,.int .i64]) (Tm 21) (Tm 24) (Ci 1),none⟩,true),(iA 25 (.build [(.int .i64 0),(.int .i64 0)] [(0,1,(Ci 3)),(1,1,(Ci 4))]),true),(⟨none,.insert (true,[.int .i64,.int .i64]) (Tm 21) (Tm 25) (Ci 5),none⟩,true),(iM 26 21,false),(iF 27 0 4,true),(iL 28 27,true),(iM 29 2,true),(iA 30 (.build [(.int .i64 0),(.int .i64 0)] [(0,1,(Tm 28)),(1,1,(Tm 29))]),true),(iA 31 (.lookup (true,[.int .i64,.int .i64]) (.int .i64 0) (Tm 26) (Tm 30) true),false),(iM 20 31,false),(iE 32 20 0,false),(iE 33 20 1,false),(iM 8 32,false),(iM 9 33,false)]
def pX:Rg:=[iM 40 9,iA 41 (.un .not (Tm 40)),iM 39 41]
def pY:Rg:=[iA 42 (.build [(.int .i64 0),(.int .i64 0)] []),iS 2 6 42,iI 7 110]
def pZ:Rg:=[iM 44 2,iC 45 .neq 44 3,iM 43 45]
def qA:Rg:=[iM 46 8,iF 47 0 4,iS 1 47 46]
def aTL:Rg:=[iF 49 1 4,iL 50 49,iM 51 0,iC 52 .sub 51 1,iB 53 .eql 50 52,iM 48 53]
def aTM:Rg:=[iF 54 0 4,⟨none,.store 1 (Tm 54) (Ci 4),none⟩]
def aGR:Rg:=[iM 34 8,iF 35 1 4,iL 36 35,iC 37 .add 36 1,iA 38 (.build [(.int .i64 0),(.int .i64 0)] [(0,1,(Tm 34)),(1,1,(Tm 37))]),iS 2 4 38]
def nA:Rg:=[iO 55 2 4,iS 2 6 55,iI 7 0]
def OL:aC:=(sq aTI (.seq (sq aTJ (.cond (Tm 18) (sq akV .ret) .skip)) (dq aTK (.seq (.block 0 (sq pX (.cond (Tm 39) (sq pY .ret) (sq pZ (.cond (Tm 43) (.region qA) (sq aTL (.cond (Tm 48) (.region aTM) (.region aGR)))))))) (sq nA .ret)))))
def boJ:List Nat:=[]
def step:aV:=⟨3,56,OL,[.cell 6 (some 2),.tmp 7]⟩
def aST:Rg:=[iT 4 false]
def aSU:Rg:=[iM 6 0,iN 7 6,iM 8 1,iN 9 8,iB 10 .neq 7 9]
def aSV:Rg:=[iT 4 false]
def aSW:Rg:=[iI 5 0]
def aSX:Rg:=[iM 11 5,iM 12 0,iN 13 12,iB 14 .lss 11 13]
def aSY:Rd:=[(iM 17 0,false),(iM 18 5,false),(iX 19 1 17 18,false),(iL 20 19,false),(iM 21 1,false),(iM 22 5,false),(iX 23 1 21 22,false),(iL 24 23,false),(iB 25 .neq 20 24,false)]
def aSZ:Rg:=[iT 4 false]
def aTA:Rg:=[iM 15 5,iC 16 .add 15 1,iM 5 16]
def aSS:aC:=(.seq (sq aSX (.cond (Tm 14) .skip (.exit 0))) (.seq (.block 1 (dq aSY (.cond (Tm 25) (sq aSZ .ret) .skip))) (.region aTA)))
def aTB:Rg:=[iT 4 true]
def OD:aC:=(sq aST (.seq (sq aSU (.cond (Tm 10) (sq aSV .ret) .skip)) (.seq (sq aSW (.block 0 (.loop aSS))) (sq aTB .ret))))
def bnZ:List Nat:=[]
def same:aV:=⟨2,26,OD,[.tmp 4]⟩
def aUZ:Rg:=[iA 3 (.box true (Tm 1)),iZ 4]
def aVA:Rg:=[iF 7 0 3,iL 8 7,iC 9 .lss 8 1,iM 10 9,gF 11 0 3 10 false,gL 12 11 10 false,gC 13 .gtr 12 5 10 false,iQ 14 10 13,iM 15 14,gF 16 1 3 15 false,gL 17 16 15 false,gC 18 .lss 17 0 15 false,iQ 19 15 18]
def RL:Rg:=[iZ 4]
def RM:Rg:=[iF 20 1 3,iL 21 20,iM 22 0,iN 23 22,iA 24 (.bHZ false (Tm 21) (Tm 23)),iM 5 24]
def RN:Rg:=[iM 25 5,iM 26 0,iN 27 26,iB 28 .lss 25 27,iM 29 28,gF 30 0 3 29 true,gL 31 30 29 true,gC 32 .eql 31 3 29 true,gM 33 32 29 true,gF 34 0 3 33 false,gL 35 34 33 false,gC 36 .eql 35 4 33 false,iG 37 (.pick (Tm 33) (.const (.bool true)) (Tm 36)) 29 true,iP 38 29 37]
def alA:Rg:=[iM 39 5,iC 40 .add 39 1,iM 5 40]
def alB:Rg:=[iM 41 0,iM 42 5,iA 43 (.slice 1 (Tm 41) none (some (Tm 42)) none),iK 44 178 43,iM 6 44]
def RP:Rg:=[iM 45 6,iK 46 180 45]
def RQ:Rg:=[iM 47 6,iK 48 177 47,iM 4 48]
def PA:aC:=(sq aUZ (.seq (sq aVA (.cond (Tm 19) (sq RL .ret) .skip)) (sq RM (.seq (sq RN (.cond (Tm 38) (.region alA) .skip)) (sq alB (sq RP (sq RQ .ret)))))))
def boX:List Nat:=[3]
def aIK:aV:=⟨2,49,PA,[.tmp 4]⟩
def awD:Rg:=[iA 2 (.alloc [(.int .i64 0),(.int .i64 0)])]
def awE:Rg:=[iM 3 0,iC 4 .lss 3 1]
def awF:Rg:=[iA 5 (.build [(.int .i64 0),(.int .i64 0)] [(0,1,(Ci 4))]),iS 2 2 5]
def awG:Rg:=[iA 6 (.build [(.int .i64 0),(.int .i64 0)] [(0,1,(Ci 1))]),iS 2 2 6]
def DJ:aC:=(sq awD (.seq (sq awE (.cond (Tm 4) (sq awF .ret) .skip)) (sq awG .ret)))
def bcW:List Nat:=[]
def begin:aV:=⟨1,7,DJ,[.cell 2 (some 2)]⟩
def alP:Rg:=[iZ 2]
def alQ:Rg:=[iI 3 0]
def alR:Rg:=[iM 9 0,iN 10 9,iI 11 0]
def alS:Rg:=[iB 12 .lss 11 10]
def alT:Rg:=[iX 13 1 9 11,iL 14 13,iM 5 14]
def alU:Rg:=[iM 15 3,iM 16 5,iN 17 16,iB 18 .add 15 17,iM 3 18]
def alV:Rg:=[iM 19 3,iC 20 .lss 19 0]
def a4M:Rg:=[iA 21 .stuck,⟨none,.stuck,none⟩]
def alW:Rg:=[iC 22 .add 11 1,iM 11 22]
def alO:aC:=(sq alS (.seq (.cond (Tm 12) .skip (.exit 0)) (.seq (.block 1 (sq alT (sq alU (sq alV (.cond (Tm 20) (.region a4M) .skip))))) (.region alW))))
def YT:Rg:=[iM 23 3,iA 24 (.call 179 [(.const .aB),(Tm 23)]),iM 6 24]
def DO:Rg:=[iM 25 0,iN 26 25,iI 27 0]
def DP:Rg:=[iB 28 .lss 27 26]
def DQ:Rg:=[iX 29 1 25 27,iL 30 29,iM 8 30]
def DR:Rg:=[iM 31 6,iM 32 8,iA 33 (.append 1 8 (Tm 31) (Tm 32)),iM 6 33]
def tU:Rg:=[iC 34 .add 27 1,iM 27 34]
def DN:aC:=(sq DP (.seq (.cond (Tm 28) .skip (.exit 2)) (.seq (.block 3 (sq DQ (.region DR))) (.region tU))))
def tV:Rg:=[iM 35 6,iM 2 35]
def yV:aC:=(sq alP (sq alQ (.seq (sq alR (.block 0 (.loop alO))) (sq YT (.seq (sq DO (.block 2 (.loop DN))) (sq tV .ret))))))
def a4N:List Nat:=[]
def concat:aV:=⟨1,36,yV,[.tmp 2]⟩
def avW:Rg:=[iT 0 false]
def avX:Rg:=[iA 10 (.call 144 [(Ci 1)]),iA 1 (.alloc [(.int .i64 0),(.int .i64 0)]),iS 2 1 10]
def avY:Rg:=[iO 12 2 1,iA 13 (.call 145 [(Ci 1),(Tm 12),(Ci 1)]),iM 11 13,iE 14 11 0,iE 15 11 1,iA 2 (.alloc [(.int .i64 0),(.int .i64 0)]),iS 2 2 14,iM 3 15]
def avZ:Rg:=[iO 17 2 2,iA 18 (.call 145 [(Ci 1),(Tm 17),(Ci 2)]),iM 16 18,iE 19 16 0,iE 20 16 1,iA 4 (.alloc [(.int .i64 0),(.int .i64 0)]),iS 2 4 19,iM 5 20]
def awA:Rg:=[iO 22 2 4,iA 23 (.call 145 [(Ci 1),(Tm 22),(Ci 3)]),iM 21 23,iE 24 21 0,iE 25 21 1,iA 6 (.alloc [(.int .i64 0),(.int .i64 0)]),iS 2 6 24,iM 7 25]
def awB:Rg:=[iO 27 2 6,iA 28 (.call 145 [(Ci 1),(Tm 27),(Ci 1)]),iM 26 28,iE 29 26 0,iE 30 26 1,iA 8 (.alloc [(.int .i64 0),(.int .i64 0)]),iS 2 8 29,iM 9 30]
def awC:Rg:=[iO 31 2 1,iA 32 (.build [(.int .i64 0),(.int .i64 0)] [(0,1,(Ci 1))]),iA 33 (.eqs false [.int,.int] (Tm 31) (Tm 32)),iM 34 33,gM 35 3 34 true,gC 36 .eql 35 0 34 true,iP 37 34 36,iM 38 37,gM 39 5 38 true,gC 40 .eql 39 0 38 true,iP 41 38 40,iM 42 41,gM 43 7 42 true,gC 44 .eql 43 0 42 true,iP 45 42 44,iM 46 45,gM 47 9 46 true,gC 48 .eql 47 110 46 true,iP 49 46 48,iM 50 49,gO 51 2 6 50 true,iG 52 (.build [(.int .i64 0),(.int .i64 0)] [(0,1,(Ci 4))]) 50 true,iG 53 (.eqs false [.int,.int] (Tm 51) (Tm 52)) 50 true,iP 54 50 53,iM 55 54,iG 56 (.bHE true 1 2 [(.int .i64 0)] [(0,(Ci 2)),(1,(Ci 1))]) 55 true,iG 57 (.bHE true 1 1 [.aB] [(0,(Tm 56))]) 55 true,gO 58 2 6 55 true,gK2 59 146 57 58 55 true,iG 60 (.bHE true 1 2 [(.int .i64 0)] [(0,(Ci 1)),(1,(Ci 2))]) 55 true,gK2 61 91 59 60 55 true,iP 62 55 61,iM 63 62,iG 64 (.call 144 [(Ci 0)]) 63 true,iG 65 (.build [(.int .i64 0),(.int .i64 0)] [(0,1,(Ci 4))]) 63 true,iG 66 (.eqs false [.int,.int] (Tm 64) (Tm 65)) 63 true,iP 67 63 66,iM 0 67]
def DH:aC:=(sq avW (sq avX (sq avY (sq avZ (sq awA (sq awB (sq awC .ret)))))))
def bcU:List Nat:=[56,57,60]
def YK:aV:=⟨0,68,DH,[.tmp 0]⟩
def bqQ:Rg:=[iA 5 (.box true (Tm 1)),iT 8 false]
def bqR:Rg:=[iM 20 3,iN 21 20,iC 22 .gtr 21 20]
def bqS:Rg:=[iA 23 (.call 26 []),iM 8 23]
def bqT:Rg:=[iI 9 0]
def bqU:Rg:=[iM 24 9,iM 25 3,iN 26 25,iB 27 .lss 24 26]
def bqV:Rg:=[iM 30 3,iM 31 9,iX 32 1 30 31,iL 33 32,iN 34 33,iC 35 .gtr 34 20]
def bqW:Rg:=[iA 36 (.call 26 []),iM 8 36]
def bqX:Rg:=[iM 28 9,iC 29 .add 28 1,iM 9 29]
def bqP:aC:=(.seq (sq bqU (.cond (Tm 27) .skip (.exit 0))) (.seq (.block 1 (sq bqV (.cond (Tm 35) (sq bqW .ret) .skip))) (.region bqX)))
def bqY:Rg:=[iM 37 0,iA 38 (.call 24 [(Tm 37),(Ci 5)]),iM 10 38]
def bmJ:Rd:=[(iF 39 0 5,false),(iL 40 39,false),(iA 41 (.call 24 [(Tm 40),(Ci 5)]),true),(iA 42 (.bin .add (Ci 1) (Tm 41)),true),(iF 43 1 5,true),(iL 44 43,true),(iA 45 (.call 24 [(Tm 44),(Ci 5)]),true),(iA 46 (.build [(.int .i64 0),(.int .i64 0)] [(0,1,(Tm 42)),(1,1,(Tm 45))]),false),(iA 11 (.alloc [(.int .i64 0),(.int .i64 0)]),true),(iS 2 11 46,true)]
def bmK:Rg:=[iM 48 0,iO 49 2 5,iM 50 2,iA 51 (.call 145 [(Tm 48),(Tm 49),(Tm 50)]),iM 47 51,iE 52 47 0,iE 53 47 1,iA 12 (.alloc [(.int .i64 0),(.int .i64 0)]),iS 2 12 52,iM 13 53]
def bmL:Rg:=[iM 55 0,iO 56 2 5,iM 57 2,iA 58 (.call 92 [(Tm 55),(Tm 56),(Tm 57)]),iM 54 58,iE 59 54 0,iE 60 54 1,iA 14 (.alloc [(.int .i64 0),(.int .i64 0)]),iS 2 14 59,iM 15 60]
def bmM:Rd:=[(iM 62 10,true),(iO 63 2 11,true),(iM 64 2,false),(iA 65 (.call 24 [(Tm 64),(Ci 4)]),true),(iA 66 (.bin .add (Ci 1) (Tm 65)),false),(iA 67 (.call 145 [(Tm 62),(Tm 63),(Tm 66)]),true),(iM 61 67,false),(iE 68 61 0,false),(iE 69 61 1,true),(iA 16 (.alloc [(.int .i64 0),(.int .i64 0)]),true),(iS 2 16 68,true),(iM 17 69,false)]
def bmN:Rd:=[(iM 71 10,true),(iO 72 2 11,true),(iM 73 2,false),(iA 74 (.call 24 [(Tm 73),(Ci 4)]),true),(iA 75 (.bin .add (Ci 1) (Tm 74)),false),(iA 76 (.call 92 [(Tm 71),(Tm 72),(Tm 75)]),true),(iM 70 76,false),(iE 77 70 0,false),(iE 78 70 1,true),(iA 18 (.alloc [(.int .i64 0),(.int .i64 0)]),true),(iS 2 18 77,true),(iM 19 78,false)]
def bmO:Rd:=[(iA 79 (.call 26 []),true),(iM 80 79,false),(gO 81 2 12 80 true,false),(gO 82 2 14 80 true,false),(iG 83 (.eqs false [.int,.int] (Tm 81) (Tm 82)) 80 true,false),(iP 84 80 83,false),(iM 85 84,false),(gM 86 13 85 true,false),(gM 87 15 85 true,false),(gB 88 .eql 86 87 85 true,false),(iP 89 85 88,false),(iM 90 89,false),(gO 91 2 16 90 true,false),(gO 92 2 18 90 true,false),(iG 93 (.eqs false [.int,.int] (Tm 91) (Tm 92)) 90 true,false),(iP 94 90 93,false),(iM 95 94,false),(gM 96 17 95 true,false),(gM 97 19 95 true,false),(gB 98 .eql 96 97 95 true,false),(iP 99 95 98,false),(iM 100 99,false),(gM 101 3 100 true,false),(gO 102 2 5 100 true,false),(gK2 103 146 101 102 100 true,true),(gM 104 3 100 true,true),(gO 105 2 5 100 true,true),(gK2 106 93 104 105 100 true,true),(gK2 107 91 103 106 100 true,true),(iP 108 100 107,false),(iM 109 108,false),(gM 110 3 109 true,false),(gO 111 2 11 109 true,false),(gK2 112 146 110 111 109 true,true),(gM 113 3 109 true,true),(gO 114 2 11 109 true,true),(gK2 115 93 113 114 109 true,true),(gK2 116 91 112 115 109 true,true),(iP 117 109 116,false),(iM 8 117,false)]
def beY:aC:=(sq bqQ (.seq (sq bqR (.cond (Tm 22) (sq bqS .ret) .skip)) (.seq (sq bqT (.block 0 (.loop bqP))) (sq bqY (dq bmJ (sq bmK (sq bmL (dq bmM (dq bmN (dq bmO .ret))))))))))
def law:aV:=⟨4,118,beY,[.tmp 8]⟩
open Go Go.RowKit Go.Sort Go.Shelf Go.Proofs
section
variable {E:Env} {H:PH} {w:World}
theorem bK.YL (hW:bK E H w) {w':World} (hs:w.heap.size≤w'.heap.size) (hb:∀ b,b<w.heap.size→w'.heap[b]?=w.heap[b]?):bK E H w':=by
 refine⟨fun b cs h=>?_,fun o x h=>?_,fun o n h=>?_⟩
 ·obtain⟨h1,ty,fr,h2⟩:=hW.g b cs h
  exact⟨h1,ty,fr,(hb b (bMN.1 h2).1).trans h2⟩
 ·obtain⟨h1,h2⟩:=hW.h o x h
  exact⟨Nat.lt_of_lt_of_le h1 hs,h2.mono (.refl E) (hb o h1)⟩
 ·obtain⟨cur,ty,fr,h1,h2⟩:=hW.s o n h
  exact⟨cur,ty,fr,(hb o (bMN.1 h1).1).trans h1,h2⟩
theorem Ext.YL {E':Env} {H':PH} {w1 w2:World} (h:Ext E H w E' H' w1) (ho:w2.os=w1.os) (ht:w2.tape=w1.tape) (hp:w2.output=w1.output) (hs:w1.heap.size≤w2.heap.size)
  (hb:∀ b,b<w1.heap.size→w2.heap[b]?=w1.heap[b]?):Ext E H w E' H' w2 :=
 ⟨h.env,ho.trans h.os,ht.trans h.tape,hp.trans h.output,Nat.le_trans h.size hs,fun b hlt hn=>(hb b (Nat.lt_of_lt_of_le hlt h.size)).trans (h.block b hlt hn),h.new,h.newG⟩
theorem abJ (hW:bK E H w) {o off:Nat} {rs:List (List PV)} {xs:List Int} (ho:H o=some (.rows 1 rs)) (hx:(rs.drop off).take xs.length=bH xs):Holds (Value.int .i64) w o off xs.toArray:=by
 obtain⟨-,cur,ty,h1,h2,h3,h4,h5⟩:=hW.h o _ ho
 intro j hj
 have hj':j<xs.length:=by simpa using hj
 have hat:at2 rs (off+j) 0=some (.int .i64 xs[j]):=by
  have e:((rs.drop off).take xs.length)[j]?=(bH xs)[j]?:=by rw[hx]
  rw[bMS hj',bMP] at e
  unfold at2
  rw[e]
  simp[bH,hj']
 obtain⟨u,e1,e2,e3⟩:=h5 _ 0 _ hat
 cases e3
 have e4:xs.toArray[j]! = xs[j]:=by simp[hj']
 refine⟨?_,?_⟩
 ·simp only[World.cell?,h1,Option.isSome_none,bME,if_false]
  rw[e4]
  simpa using e1
 ·simp[World.frozen?,h1]
theorem aSD (hW:bK E H w) {o:Nat} {xs ys:List Int} (ho:H o=some (.rows 1 (bH xs))) (hl:ys.length=xs.length) (n:Nat) (os:Array Obj) :
  bK E (H.set o (.rows 1 (bH ys))) (grow (putRow (Value.int .i64) (Sort.ahead w n) o 0 ys.toArray) os)∧Ext E H w E (H.set o (.rows 1 (bH ys))) (grow (putRow (Value.int .i64) (Sort.ahead w n) o 0 ys.toArray) os):=by
 obtain⟨-,cur,ty,h1,h2,h3,h4,h5⟩:=hW.h o _ ho
 have hlen:xs.length≤cur.size:=by simpa [bH] using h4
 have hR:iY E 1 (bH ys) (putCells (Value.int .i64) 0 ys.toArray cur):=by
  refine⟨fun r hr=>?_,?_,fun i j pv hp=>?_⟩
  ·unfold bH at hr
   rw[bKI] at hr
   obtain⟨n,-,rfl⟩:=hr
   rfl
  ·simp[bH,putCells]; omega
  ·unfold at2 bH at hp
   rw[bKH,bMH] at hp
   obtain⟨r,hr,hp⟩:=hp
   rw[bJJ] at hr
   obtain⟨m,hm,rfl⟩:=hr
   have hi:=(bKN.1 hm).1
   cases j with
   | succ j=>simp at hp
   | zero =>
    simp at hp
    subst hp
    refine⟨.int .i64 m,?_,rfl,.int _ _⟩
    have hc:i<cur.size:=by omega
    simp only[Nat.mul_one,bKU,putCells,Array.getElem?_mapIdx,bMI hc,bKL,bJO,true_and,bKC,Nat.sub_zero,List.size_toArray]
    rw[if_pos hi]
    have:ys.toArray[i]! = m:=by
     obtain⟨h,e⟩:=bKN.1 hm
     simp[h,e]
    rw[this]
 obtain⟨k1,k2⟩:=hW.akT ho h1 (by simp[putCells]) hR
 have hheap:∀ b,b<(w.setRow o (putCells (Value.int .i64) 0 ys.toArray cur)).heap.size→(grow (putRow (Value.int .i64) (Sort.ahead w n) o 0 ys.toArray) os).heap[b]?=(w.setRow o (putCells (Value.int .i64) 0 ys.toArray cur)).heap[b]?:=by
  intro b hb
  have hb':b<w.heap.size:=by simpa [World.setRow] using hb
  have e1:(grow (putRow (Value.int .i64) (Sort.ahead w n) o 0 ys.toArray) os).heap[b]?=(putRow (Value.int .i64) (Sort.ahead w n) o 0 ys.toArray).heap[b]?:=by
   unfold grow
   exact Array.getElem?_append_left (by simpa using hb')
  rw[e1]
  simp only[putRow,mapBlock,World.setRow,Array.getElem?_modify,heap_ahead]
  by_cases e:o=b
  ·subst e
   simp[h1,onCells]
  ·simp[e]
 have hsize:(w.setRow o (putCells (Value.int .i64) 0 ys.toArray cur)).heap.size≤(grow (putRow (Value.int .i64) (Sort.ahead w n) o 0 ys.toArray) os).heap.size:=by
  simp[World.setRow]
 exact⟨k1.YL hsize hheap,k2.YL rfl rfl rfl hsize hheap⟩
end
section
variable {C:Ctx} {ρ:Ren} {name:Nat}
def sorted (xs:List Int):List Int:=xs.mergeSort fun x y=>decide (x≤y)
theorem a1B (L:Lays.n189 C.P ρ) (hn:C.num name=ρ.f 189) (hf:∃ fn,C.P.funcs[C.num name]?=some fn∧fn.body.isSome=true∧(fn.name=="runtime.NumGoroutine")=false) (o:Nat) (xs:List Int) (hx:xs≠[]) (hl:xs.length<4611686018427387904) :
  aD C name [.osl o 1 0 xs.length] (PH.nil.set o (.rows 1 (bH xs))) (fun r H'=>r=.tup []∧H'=PH.nil.set o (.rows 1 (bH (sorted xs)))):=by
 refine⟨hf,fun E w vs hN hW hvs=>?_⟩
 have ho:(PH.nil.set o (.rows 1 (bH xs))) o=some (.rows 1 (bH xs)):=by simp[bV]
 obtain⟨vl⟩:=vs
 cases hvs with
 | cons h1 h2 =>
 cases h2
 cases h1 with
 | @osl _ _ _ _ cap n a hb hsp bIY hlen bIT hs bIE =>
 have hcap:cap≠0:=by
  intro e; subst e
  exact hx (bMQ Om)
 have ha:a=⟨o,0,none⟩:=by
  obtain⟨b,off,sp⟩:=a
  simp only at hb hsp bIY
  subst hb; subst hsp
  rcases bIY with h | h
  ·exact (hcap h).elim
  ·simp at h; subst h; rfl
 subst ha
 rw[hn]
 have hH:=abJ hW (off:=0) (xs:=xs) ho (by rw[bKG]; exact bJS (by simp[bH]))
 refine (Any.slices_Sort_int L o 0 cap xs w hH (hW.h o _ ho).1 hl).mono fun e w' he=>?_
 obtain⟨rfl,n,os,rfl⟩:=he
 obtain⟨k1,k2⟩:=aSD hW ho (ys:=sorted xs) (by simp[sorted]) n os
 rw[show (PH.nil.set o (.rows 1 (bH xs))).set o (.rows 1 (bH (sorted xs)))=PH.nil.set o (.rows 1 (bH (sorted xs))) from PH.ext fun q=>by simp only[bV]; split<;>rfl] at k1 k2
 exact⟨_,.tup [],E,_,rfl,k1,.tup #[] rfl (by simp),k2,rfl,rfl⟩
theorem aMI (L:Lays.n189 C.P ρ) (hn:C.num name=ρ.f 189) (hf:∃ fn,C.P.funcs[C.num name]?=some fn∧fn.body.isSome=true∧(fn.name=="runtime.NumGoroutine")=false) (v:PV) (H:PH)
  (hv:v=.aB∨∃ o off,v=.osl o 1 off 0):aD C name [v] H (fun r H'=>r=.tup []∧H'=H):=by
 refine⟨hf,fun E w vs hN hW hvs=>?_⟩
 obtain⟨vl⟩:=vs
 cases hvs with
 | cons h1 h2 =>
 cases h2
 rename_i u
 have:∃ p cap,u=.slice p 0 cap:=by
  rcases hv with rfl | ⟨o,off,rfl⟩
  ·cases h1; exact⟨none,0,rfl⟩
  ·cases h1; exact⟨_,_,rfl⟩
 obtain⟨p,cap,rfl⟩:=this
 rw[hn]
 refine (Any.slices_Sort_int_none L p cap w).mono fun e w' he=>?_
 obtain⟨rfl,rfl⟩:=he
 exact⟨_,.tup [],E,_,rfl,hW,.tup #[] rfl (by simp),.refl _ _ _,rfl,rfl⟩
theorem auE (L:Lays2.n20 C.P ρ) (hn:C.num name=ρ.f 20) (hf:∃ fn,C.P.funcs[C.num name]?=some fn∧fn.body.isSome=true∧(fn.name=="runtime.NumGoroutine")=false) (o:Nat) (xs:List Int) (hx:xs≠[]) (hl:xs.length<4611686018427387904) :
  aD C name [.osl o 1 0 xs.length] (PH.nil.set o (.rows 1 (bH xs))) (fun r H'=>r=.osl o 1 0 (Lib.compact xs).length∧H'=PH.nil.set o (.rows 1 (bH (Lib.compact xs++bJE (xs.length-(Lib.compact xs).length) 0)))):=by
 refine⟨hf,fun E w vs hN hW hvs=>?_⟩
 have ho:(PH.nil.set o (.rows 1 (bH xs))) o=some (.rows 1 (bH xs)):=by simp[bV]
 obtain⟨vl⟩:=vs
 cases hvs with
 | cons h1 h2 =>
 cases h2
 cases h1 with
 | @osl _ _ _ _ cap n a hb hsp bIY hlen bIT hs bIE =>
 have hcap:cap≠0:=by
  intro e; subst e
  exact hx (bMQ Om)
 have ha:a=⟨o,0,none⟩:=by
  obtain⟨b,off,sp⟩:=a
  simp only at hb hsp bIY
  subst hb; subst hsp
  rcases bIY with h | h
  ·exact (hcap h).elim
  ·simp at h; subst h; rfl
 subst ha
 rw[hn]
 have hH:=abJ hW (off:=0) (xs:=xs) ho (by rw[bKG]; exact bJS (by simp[bH]))
 have hle:(Lib.compact xs).length≤xs.length:=by
  unfold Lib.compact Lib.compactUpTo
  have:=List.length_filter_le (Lib.keeps xs.toArray) (bJD xs.length)
  simpa using this
 refine (Any.slices_Compact_int L o 0 cap xs w hH Om hlen).mono fun e w' he=>?_
 obtain⟨rfl,n,rfl⟩:=he
 have key:=aSD hW ho (ys:=Lib.compact xs++bJE (xs.length-(Lib.compact xs).length) 0) (by simp; omega) n #[]
 rw[grow_empty] at key
 obtain⟨k1,k2⟩:=key
 rw[show ∀ z,(PH.nil.set o (.rows 1 (bH xs))).set o (.rows 1 z)=PH.nil.set o (.rows 1 z) from fun z=>PH.ext fun q=>by simp only[bV]; split<;>rfl] at k1 k2
 exact⟨_,.osl o 1 0 _,E,_,rfl,k1,.osl rfl rfl (.inr (by simp)) Om bIT hs bIE,k2,rfl,rfl⟩
theorem aiV (L:Lays2.n20 C.P ρ) (hn:C.num name=ρ.f 20) (hf:∃ fn,C.P.funcs[C.num name]?=some fn∧fn.body.isSome=true∧(fn.name=="runtime.NumGoroutine")=false) (v:PV) (H:PH)
  (hv:v=.aB∨∃ o off,v=.osl o 1 off 0):aD C name [v] H (fun r H'=>r=v∧H'=H):=by
 refine⟨hf,fun E w vs hN hW hvs=>?_⟩
 obtain⟨vl⟩:=vs
 cases hvs with
 | cons h1 h2 =>
 cases h2
 rename_i u
 have:∃ p cap,u=.slice p 0 cap:=by
  rcases hv with rfl | ⟨o,off,rfl⟩
  ·cases h1; exact⟨none,0,rfl⟩
  ·cases h1; exact⟨_,_,rfl⟩
 obtain⟨p,cap,rfl⟩:=this
 rw[hn]
 refine (Any.slices_Compact_int_empty L p cap w).mono fun e w' he=>?_
 obtain⟨rfl,rfl⟩:=he
 exact⟨_,v,E,_,rfl,hW,h1,.refl _ _ _,rfl,rfl⟩
end
abbrev lists (ws:List (List Int)):PV:=.sl 1 (ws.map fun w=>[ints w])
def US (xs:List Int) (r:PV) (H:PH):Prop:=(xs=[]∧r=.aB∧H=.nil)∨(xs≠[]∧∃ o,r=.osl o 1 0 xs.length∧H=PH.nil.set o (.rows 1 (bH xs)))
def bjQ (n:Int) (r:PV) (H:PH):Prop:=(n=0∧r=.aB∧H=.nil)∨(0<n∧∃ o,r=.osl o 1 0 0∧H=PH.nil.set o (.rows 1 []))
def aXP (ws:List (List Int)) (i:Nat):PF:=((((((PF.nil.set 0 (lists ws)).set 2 (.aB)).set 3 (.int .i64 ((ws.take i).flatten.length:Nat))).set 9 (lists ws)).set 10 (.int .i64 (ws.length:Nat))).set 11 (.int .i64 i))
def DL (ws:List (List Int)) (v:PV) (i:Nat):PF:=(((((PF.nil.set 2 (.aB)).set 6 (v)).set 25 (lists ws)).set 26 (.int .i64 (ws.length:Nat))).set 27 (.int .i64 i))
theorem amX (ws:List (List Int)) {i:Nat} (h:i<ws.length):(ws.take (i+1)).flatten=(ws.take i).flatten++ws[i]:=by
 rw[bLC h,List.flatten_append]; simp
theorem ajC (ws:List (List Int)) (i:Nat):(ws.take i).flatten.length≤ws.flatten.length:=by
 conv=>rhs; rw[← bLU i ws,List.flatten_append,bJL]
 omega
theorem a4L {C:Ctx} (ws:List (List Int)) (h1:ws.length≤1000000) (h2:ws.flatten.length≤1000000) (hg:∀ n:Int,0≤n→n≤1000000→aD C 179 [.aB,.int .i64 n] .nil (bjQ n)) :
  yV.wp C (aT concat.res (US ws.flatten)) (PF.args [lists ws]) .nil:=by
 simp only[go_sem,γ,δ,ε,ζ,η,θ,ι,κ,μ,ν,ξ,ο,ρ,σ,τ,υ,reduceIte,reduceCtorEq,yV,alP,alQ,alR,lists,concat]
 refine wp_loop (α:=Nat) (aXP ws) (fun _=>.nil) (fun i=>i≤ws.length) (fun i=>ws.length-i) 0 Om ?_ PH.nil_le ?_
 ·unfold aXP
  exact Lq
 intro i hi
 simp only[go_sem,γ,δ,ε,ζ,η,θ,ι,κ,μ,ν,ξ,ο,ρ,σ,τ,υ,reduceIte,reduceCtorEq,alO,alS,aXP]
 refine kO (fun h=>?_) (fun h=>?_)
 ·have hlt:i<ws.length:=by simpa using h
  have hx:(ws.map fun w=>[ints w])[i]?=some [ints ws[i]]:=by simp[hlt]
  have hf:=amX ws hlt
  have hle:=ajC ws (i+1)
  have hlen:(ws.take (i+1)).flatten.length=(ws.take i).flatten.length+ws[i].length:=by rw[hf,bJL]
  have hw:IntKind.i64.wrap (((ws.take i).flatten.length:Nat)+(ws[i].length:Int))=((ws.take (i+1)).flatten.length:Nat):=by
   rw[hlen]
   rw[show (((ws.take i).flatten.length:Nat):Int)+(ws[i].length:Int)=(((ws.take i).flatten.length+ws[i].length:Nat):Int) by omega]
   exact xH Om
  have hn:¬ (((ws.take (i+1)).flatten.length:Nat):Int)<0:=by omega
  simp only[go_sem,γ,δ,ε,ζ,η,θ,ι,κ,μ,ν,ξ,ο,ρ,σ,τ,υ,reduceIte,reduceCtorEq,alT,alU,hx,hw,alV,hn,alW]
  refine aK (i+1) Om Om ?_ PH.nil_le
  unfold aXP
  (repeat' (first|exact PF.nil_le|refine PF.aI ?_ ?_))<;>first|(simp only[go_sem,γ,δ,ε,ζ,η,θ,ι,κ,μ,ν,ξ,ο,ρ,σ,τ,υ,reduceIte,reduceCtorEq,wZz i]<;>rfl)|rfl
 ·have he:i=ws.length:=by simp at h; omega
  subst he
  have ht:(ws.take ws.length).flatten=ws.flatten:=by rw[bKB]
  simp only[go_sem,γ,δ,ε,ζ,η,θ,ι,κ,μ,ν,ξ,ο,ρ,σ,τ,υ,reduceIte,reduceCtorEq,YT,ht]
  refine eO (hg (ws.flatten.length:Nat) Om Om) Ev PH.nil_le ?_
  intro r H' hr ha
  rcases hr with ⟨hn,rfl,rfl⟩ | ⟨hn,o,rfl,rfl⟩
  ·have h0:ws.flatten=[]:=bMQ Om
   rw[PH.kS]
   simp only[go_sem,γ,δ,ε,ζ,η,θ,ι,κ,μ,ν,ξ,ο,ρ,σ,τ,υ,reduceIte,reduceCtorEq,DO]
   refine wp_loop (α:=Nat) (DL ws .aB) (fun _=>.nil) (fun i=>i≤ws.length) (fun i=>ws.length-i) 0 Om ?_ PH.nil_le ?_
   ·unfold DL
    exact Lq
   intro i hi
   simp only[go_sem,γ,δ,ε,ζ,η,θ,ι,κ,μ,ν,ξ,ο,ρ,σ,τ,υ,reduceIte,reduceCtorEq,DN,DP,DL]
   refine kO (fun h=>?_) (fun h=>?_)
   ·have hlt:i<ws.length:=by simpa using h
    have hx:(ws.map fun w=>[ints w])[i]?=some [ints ws[i]]:=by simp[hlt]
    have he:ws[i]=[]:=by
     rw[List.flatten_eq_nil_iff] at h0
     exact h0 _ (bJG _)
    simp only[go_sem,γ,δ,ε,ζ,η,θ,ι,κ,μ,ν,ξ,ο,ρ,σ,τ,υ,reduceIte,reduceCtorEq,DQ,DR,hx,he]
    refine xF (src:=[]) rfl (by unfold roomFor; simp) (fun _=>?_) (fun h=>(h rfl).elim)
    simp only[go_sem,γ,δ,ε,ζ,η,θ,ι,κ,μ,ν,ξ,ο,ρ,σ,τ,υ,reduceIte,reduceCtorEq,tU]
    refine aK (i+1) Om Om ?_ PH.nil_le
    unfold DL
    (repeat' (first|exact PF.nil_le|refine PF.aI ?_ ?_))<;>first|(simp only[go_sem,γ,δ,ε,ζ,η,θ,ι,κ,μ,ν,ξ,ο,ρ,σ,τ,υ,reduceIte,reduceCtorEq,wZz i]<;>rfl)|rfl
   ·simp only[go_sem,γ,δ,ε,ζ,η,θ,ι,κ,μ,ν,ξ,ο,ρ,σ,τ,υ,reduceIte,reduceCtorEq,tV]
    exact aX (.inr rfl) .nil Ev PH.nil_le (.inl ⟨h0,rfl,rfl⟩)
  ·have h0:ws.flatten≠[]:=by intro e; rw[e] at hn; simp at hn
   rw[PH.jD]
   simp only[go_sem,γ,δ,ε,ζ,η,θ,ι,κ,μ,ν,ξ,ο,ρ,σ,τ,υ,reduceIte,reduceCtorEq,DO]
   refine wp_loop (α:=Nat × Nat) (fun a=>DL ws (.osl a.2 1 0 (ws.take a.1).flatten.length) a.1) (fun a=>PH.nil.set a.2 (.rows 1 (bH (ws.take a.1).flatten))) (fun a=>a.1≤ws.length) (fun a=>ws.length-a.1) (0,o) (by simp) ?_ ?_ ?_
   ·unfold DL
    exact Lq
   ·exact PH.aI PH.nil_le (by simp only[go_sem,γ,δ,ε,ζ,η,θ,ι,κ,μ,ν,ξ,ο,ρ,σ,τ,υ,reduceIte,reduceCtorEq]; rfl)
   rintro⟨i,q⟩ hi
   simp only[go_sem,γ,δ,ε,ζ,η,θ,ι,κ,μ,ν,ξ,ο,ρ,σ,τ,υ,reduceIte,reduceCtorEq,DN,DP,DL]
   simp only at hi
   refine kO (fun h=>?_) (fun h=>?_)
   ·have hlt:i<ws.length:=by simpa using h
    have hx:(ws.map fun w=>[ints w])[i]?=some [ints ws[i]]:=by simp[hlt]
    have hf:=amX ws hlt
    have hle:=ajC ws (i+1)
    have hlen:(ws.take (i+1)).flatten.length=(ws.take i).flatten.length+ws[i].length:=by rw[hf,bJL]
    have hrows:(bH (ws.take i).flatten).take (ws.take i).flatten.length++(ws[i].map fun n=>[PV.int .i64 n])=bH (ws.take (i+1)).flatten:=by
     rw[bJS (by unfold bH; rw[bJC]; exact bJF _),hf]; unfold bH; rw[bLS]
    have fin:∀ (q':Nat) (H':PH),H' q'=some (.rows 1 (bH (ws.take (i+1)).flatten))→∀ F':PF,F' 2=some .aB→F' 6=some (.osl q' 1 0 (ws.take (i+1)).flatten.length)→F' 25=some (lists ws)→F' 26=some (.int .i64 ws.length)→F' 27=some (.int .i64 ((i+1:Nat):Int)) →
      eA (fun a:Nat × Nat=>DL ws (.osl a.2 1 0 (ws.take a.1).flatten.length) a.1) (fun a=>PH.nil.set a.2 (.rows 1 (bH (ws.take a.1).flatten))) (fun a=>a.1≤ws.length) (fun a=>ws.length-a.1) (ws.length-i) (dU 2 (gY C (aC.wp C ((aC.region tV).seq aC.ret)) (aT [.tmp 2] (US ws.flatten)))) .normal F' H':=by
     intro q' H' e1 F' f2 f6 f25 f26 f27
     refine aK (i+1,q') (by simp only; omega) (by simp only; omega) ?_ (PH.aI PH.nil_le e1)
     unfold DL
     exact PF.aI (PF.aI (PF.aI (PF.aI (PF.aI PF.nil_le f2) f6) f25) f26) f27
    simp only[go_sem,γ,δ,ε,ζ,η,θ,ι,κ,μ,ν,ξ,ο,ρ,σ,τ,υ,reduceIte,reduceCtorEq,DQ,DR,hx]
    refine PZ (src:=ws[i].map fun n=>[PV.int .i64 n]) (rs:=bH (ws.take i).flatten) rfl (by unfold roomFor; rw[bJC]; simp only[maxLen]; omega) Sq (by unfold bH; rw[bJC]; exact bJF _) ?_ ?_
    ·rw[hrows,bJC,← hlen]
     simp only[go_sem,γ,δ,ε,ζ,η,θ,ι,κ,μ,ν,ξ,ο,ρ,σ,τ,υ,reduceIte,reduceCtorEq,tU,wZz i]
     exact fin q _ Sq _ Sq Sq Sq Sq Sq
    ·intro q' hq'
     rw[hrows,bJC,← hlen]
     simp only[go_sem,γ,δ,ε,ζ,η,θ,ι,κ,μ,ν,ξ,ο,ρ,σ,τ,υ,reduceIte,reduceCtorEq,tU,wZz i]
     exact fin q' _ Sq _ Sq Sq Sq Sq Sq
   ·have he:i=ws.length:=by simp at h; omega
    subst he
    simp only[go_sem,γ,δ,ε,ζ,η,θ,ι,κ,μ,ν,ξ,ο,ρ,σ,τ,υ,reduceIte,reduceCtorEq,tV]
    refine aX (.inr rfl) (PH.nil.set q (.rows 1 (bH ws.flatten))) Ev (PH.aI PH.nil_le (by simp only[go_sem,γ,δ,ε,ζ,η,θ,ι,κ,μ,ν,ξ,ο,ρ,σ,τ,υ,reduceIte,reduceCtorEq,ht])) (.inr ⟨h0,q,?_,rfl⟩)
    simp only[aW,ht]
abbrev WPs:=List (PV × List Int)
def gD (ps:WPs):List (List PV):=ps.map fun p=>[p.1]
def mD (ps:WPs):List LI:=ps.map fun p=>(p.1,1,bH p.2)
def wls (ps:WPs):List (List Int):=ps.map (·.2)
def kK (vo:PV) (ps:WPs):List LI:=(vo,1,gD ps)::mD ps
section
variable {H:PH} {B:List BX}
theorem NN (ps:WPs):(gD ps).length=ps.length:=bJC _
theorem ajM {ps:WPs} {i:Nat} {v:PV} {w:List Int} (hi:ps[i]?=some (v,w)):(mD ps)[i]?=some (v,1,bH w):=by
 unfold mD
 rw[bKH,hi]; rfl
theorem aEL {ps:WPs} {i:Nat} {v:PV} {w:List Int} (hi:ps[i]?=some (v,w)):(gD ps)[i]?=some [v]:=by
 unfold gD
 rw[bKH,hi]; rfl
theorem aU.inner {vo:PV} {ps:WPs} (h:aU H B (kK vo ps)) {i:Nat} {v:PV} {w:List Int} (hi:ps[i]?=some (v,w)):bO H 1 v (bH w):=h.own (i+1) (ajM hi)
theorem aU.outer {vo:PV} {ps:WPs} (h:aU H B (kK vo ps)):bO H 1 vo (gD ps):=h.own 0 rfl
theorem aBH (a b:List Int):bH (a++b)=bH a++bH b:=bLS
theorem aU.bvC {vo:PV} {ps:WPs} (h:aU H B (kK vo ps)) {i b:Nat} {v y:PV} {w src:List Int} {K:PV→PH→Prop} (hi:ps[i]?=some (v,w)) (hy:eN H 1 y=some (bH src)) (hr:roomFor w.length src.length b) (hne:src≠[])
  (hk:∀ q H',aU H' B ((vo,1,gD ps)::(mD ps).set i (.osl q 1 0 (w++src).length,1,bH (w++src)))→K (.osl q 1 0 (w++src).length) H'):lS H 1 b v y K:=by
 have bID:bH src≠[]:=fun e=>hne (List.map_eq_nil_iff.1 e)
 refine h.append (i+1) (ajM hi) hy (by rw[gU,gU]; exact hr) fun v' H' h' hv=>?_
 obtain⟨q,rfl⟩:=hv bID
 rw[← aBH,gU] at h' ⊢
 exact hk q H' h'
theorem aU.bsC {qo n i:Nat} {ps:WPs} {v':PV} {w':List Int} (h:aU H B ((.osl qo 1 0 n,1,gD ps)::(mD ps).set i (v',1,bH w'))) :
  ∃ rs,H qo=some (.rows 1 rs)∧n≤rs.length∧rs.take n=gD ps∧aU (H.set qo (.rows 1 (rs.set i [v']))) B (kK (.osl qo 1 0 n) (ps.set i (v',w'))):=by
 obtain⟨rs,h1,h2,h3,h4⟩:=h.store 0 rfl i [v']
 refine⟨rs,h1,h2,h3,?_⟩
 have e:kK (.osl qo 1 0 n) (ps.set i (v',w'))=((.osl qo 1 0 n,1,gD ps)::(mD ps).set i (v',1,bH w')).set 0 (.osl qo 1 0 n,1,(gD ps).set i [v']):=by
  unfold kK gD mD
  rw[List.map_set,List.map_set]
  rfl
 rw[e]
 exact h4
def oI (fs:List (List PV)) (ws:List (List Int)):Prop:=fs.length=ws.length∧∀ (i:Nat) r w,fs[i]?=some r→ws[i]?=some w→r=[ints w]∨(r=[.aB]∧w=[])
theorem oI.nil:oI [] []:=⟨rfl,fun i r w h=>by cases h⟩
theorem oI.snoc {fs:List (List PV)} {ws:List (List Int)} {u:PV} {w:List Int} (h:oI fs ws) (hu:u=ints w∨(u=.aB∧w=[])):oI (fs++[[u]]) (ws++[w]):=by
 refine⟨by simp[h.1],fun i r x hr hx=>?_⟩
 rcases Nat.lt_trichotomy i fs.length with c | c | c
 ·rw[bLN c] at hr
  rw[bLN (by rw[← h.1]; exact c)] at hx
  exact h.2 i r x hr hx
 ·subst c
  rw[bKZ (bJF _),bLY] at hr
  rw[h.1,bKZ (bJF _),bLY] at hx
  cases hr; cases hx
  rcases hu with rfl | ⟨rfl,rfl⟩
  ·exact .inl rfl
  ·exact .inr ⟨rfl,rfl⟩
 ·rw[bKZ Om,bKM (by simp; omega)] at hr
  cases hr
theorem oI.flat {fs:List (List PV)} {ws:List (List Int)} (h:oI fs ws):Flat fs:=Flat.of fun r hr c hc q s rs=>by
 obtain⟨i,hi⟩:=List.mem_iff_getElem?.1 hr
 have hl:=(bKN.1 hi).1
 rcases h.2 i r _ hi (bJN (by rw[← h.1]; exact hl)) with rfl | ⟨rfl,-⟩
 ·rw[bKP] at hc; subst hc; rfl
 ·rw[bKP] at hc; subst hc; rfl
theorem oI.co {fs:List (List PV)} {ws:List (List Int)} (h:oI fs ws):Co (.sl 1 fs) (lists ws):=by
 have key:∀ (i:Nat) r t,fs[i]?=some r→(ws.map fun w=>[ints w])[i]?=some t→∃ w,t=[ints w]∧(r=[ints w]∨(r=[.aB]∧w=[])):=fun i r t hr ht=>by
  rw[bKH] at ht
  cases hw:ws[i]? with
  | none=>rw[hw] at ht; cases ht
  | some w =>
   rw[hw] at ht
   cases ht
   exact⟨w,rfl,h.2 i r w hr hw⟩
 refine .sl (by rw[bJC,h.1]) (fun i r t hr ht=>?_) (fun i j p q hp hq=>?_)
 ·obtain⟨w,rfl,h1 | ⟨h1,-⟩⟩:=key i r t hr ht<;>subst h1<;>rfl
 ·unfold at2 at hp hq
  cases hr:fs[i]? with
  | none=>rw[hr] at hp; cases hp
  | some r =>
   cases ht:(ws.map fun w=>[ints w])[i]? with
   | none=>rw[ht] at hq; cases hq
   | some t =>
    rw[hr] at hp
    rw[ht] at hq
    obtain⟨w,rfl,h1⟩:=key i r t hr ht
    rcases h1 with rfl | ⟨rfl,rfl⟩
    ·have:some p=some q:=hp.symm.trans hq
     cases this
     exact .refl _
    ·cases j with
     | zero=>cases hp; cases hq; exact .nil 1
     | succ j=>cases hp
end
def Fx (u:PV):Prop:=∀ q s rs,PV.frz q s rs u=u
theorem Fx.int (k:IntKind) (n:Int):Fx (.int k n):=fun _ _ _=>rfl
theorem Fx.bool (b:Bool):Fx (.bool b):=fun _ _ _=>rfl
theorem Fx.sl (n:Nat) (r:List (List PV)):Fx (.sl n r):=fun _ _ _=>rfl
theorem Fx.aB:Fx .aB:=fun _ _ _=>rfl
theorem Fx.ptr (q z i c:Nat):Fx (.ptr q z i c):=fun _ _ _=>rfl
theorem Fx.bG (c:List PV):Fx (.bG c):=fun _ _ _=>rfl
theorem bO.dC {H:PH} {s:Nat} {v:PV} {rows:List (List PV)} (h:bO H s v rows) (q z:Nat) (rs:List (List PV)):PV.frz q z rs v=PV.dC q z rs v:=by
 rcases h with ⟨-,rfl⟩ | ⟨p,rs',rfl,-⟩<;>rfl
def aJE (φ:PV→PV) (F:PF):PF:=fun i=>(F i).map φ
theorem RR (φ:PV→PV) (F:PF) (i:Nat):aJE φ F i=(F i).map φ:=rfl
theorem WM:∀ (ps:WPs) {H:PH} {B:List BX} {vo:PV} (fs:List (List PV)) (ws0:List (List Int)),oI fs ws0→aU H B ((vo,1,fs++gD ps)::mD ps)→(∀ b∈B,∀ q s rs,cQ.frz q s rs b.2=b.2) →
  ∃ (φ:PV→PV) (H1:PH),Co (φ vo) (lists (ws0++wls ps))∧(∀ u,Fx u→φ u=u)∧(∀ e:Int,φ (.tup [vo,.int .i64 e])=.tup [φ vo,.int .i64 e])∧aU H1 B []∧(∀ F:PF,iH F H (aJE φ F) H1)∧∀ o,(H o=none∨vo.oid=some o∨∃ p∈ps,p.1.oid=some o)→H1 o=none
 | [],H,B,vo,fs,ws0,hs,h,hB=>by
  have e0:fs++gD []=fs:=bLD fs
  have e1:ws0++wls []=ws0:=bLD ws0
  rw[e0] at h
  rw[e1]
  rcases h.own 0 rfl with ⟨h1,rfl⟩ | ⟨q,rs,rfl,_⟩
  ·refine⟨id,H,?_,fun _ _=>rfl,fun _=>rfl,h.aYB 0,fun F=>?_,fun o ho=>?_⟩
   ·subst h1
    have:ws0=[]:=List.length_eq_zero_iff.1 hs.1.symm
    subst this
    exact .nil 1
   ·have:aJE id F=F:=funext fun i=>by rw[RR]; simp
    rw[this]
    exact .refl _ _
   ·rcases ho with ho | ho | ⟨p,hp,-⟩
    ·exact ho
    ·cases ho
    ·cases hp
  ·obtain⟨rs,z1,z2,z3,z4,z5⟩:=h.frz 0 rfl
   refine⟨PV.frz q 1 rs,H.frz q 1 rs,?_,fun u hu=>hu _ _ _,fun e=>?_,?_,fun F=>.step q z1 (.refl _ _),fun o ho=>?_⟩
   ·rw[z3]; exact hs.co
   ·show PV.tup [PV.dC q 1 rs (.osl q 1 0 fs.length),.int .i64 e]=_
    rw[z2,z3]
   ·have eB:(B.map fun b=>(b.1,b.2.frz q 1 rs))=B:=by
     conv=>rhs; rw[← List.map_id B]
     refine List.map_congr_left fun b hb=>?_
     rw[hB b hb q 1 rs]; rfl
    rw[eB] at z5
    exact z5
   ·rw[vH]
    rcases ho with ho | ho | ⟨p,hp,-⟩
    ·rw[ho]; split<;>rfl
    ·have:q=o:=by injection ho
     rw[if_pos this.symm]
    ·cases hp
 | (v,w)::ps,H,B,vo,fs,ws0,hs,h,hB=>by
  have eo:∀ u:PV,fs++[[u]]++gD ps=fs++[u]::gD ps:=fun u=>by rw[bKD]; rfl
  have ew:ws0++[w]++wls ps=ws0++wls ((v,w)::ps):=by rw[bKD]; rfl
  have ho:bO H 1 v (bH w):=h.own 1 rfl
  rcases ho with ⟨h1,rfl⟩ | ⟨q,rs,rfl,_⟩
  ·have hw:w=[]:=List.map_eq_nil_iff.1 h1
   have h2:=h.aYB 1
   obtain⟨φ,H1,k1,k2,k3,k4,k5,k6⟩:=WM ps (fs++[[.aB]]) (ws0++[w]) (hs.snoc (.inr ⟨rfl,hw⟩)) (by rw[eo]; exact h2) hB
   rw[ew] at k1
   refine⟨φ,H1,k1,k2,k3,k4,k5,fun o ho=>k6 o ?_⟩
   rcases ho with ho | ho | ⟨p,hp,ho⟩
   ·exact .inl ho
   ·exact .inr (.inl ho)
   ·rcases bJR.1 hp with rfl | hp
    ·cases ho
    ·exact .inr (.inr ⟨p,hp,ho⟩)
  ·obtain⟨rs,z1,z2,z3,z4,z5⟩:=h.frz 1 rfl
   have eB:(B.map fun b=>(b.1,b.2.frz q 1 rs))=B:=by
    conv=>rhs; rw[← List.map_id B]
    refine List.map_congr_left fun b hb=>?_
    rw[hB b hb q 1 rs]; rfl
   have y0:PV.dC q 1 rs vo=vo:=z4 0 _ (by decide) rfl
   have y0':PV.frz q 1 rs vo=vo:=((h.own 0 rfl).dC q 1 rs).trans y0
   have yp:∀ p∈ps,PV.dC q 1 rs p.1=p.1:=fun p hp=>by
    obtain⟨j,hj⟩:=List.mem_iff_getElem?.1 hp
    exact z4 (j+2) (p.1,1,bH p.2) Om (ajM hj)
   have er:(fs++gD ((.osl q 1 0 (bH w).length,w)::ps)).map (fun r=>r.map (PV.dC q 1 rs))=fs++[[ints w]]++gD ps:=by
    rw[bLS,hs.flat,bKD]
    congr 1
    show [PV.dC q 1 rs (.osl q 1 0 (bH w).length)]::(gD ps).map _=_
    rw[z2]
    have:(gD ps).map (fun r=>r.map (PV.dC q 1 rs))=gD ps:=by
     unfold gD
     rw[List.map_map]
     refine List.map_congr_left fun p hp=>?_
     show [PV.dC q 1 rs p.1]=_
     rw[yp p hp]
    rw[this]
    rfl
   have ei:(mD ps).map (fun x=>(x.1,x.2.1,x.2.2.map fun r=>r.map (PV.dC q 1 rs)))=mD ps:=by
    unfold mD
    rw[List.map_map]
    refine List.map_congr_left fun p _=>?_
    show (p.1,1,(bH p.2).map fun r=>r.map (PV.dC q 1 rs))=_
    rw[show (bH p.2).map (fun r=>r.map (PV.dC q 1 rs))=bH p.2 from Flat.map p.2 (fun x c hc q s rs=>by rw[bKP] at hc; subst hc; rfl) q 1 rs]
   have z6:aU (H.frz q 1 rs) B ((vo,1,fs++[[ints w]]++gD ps)::mD ps):=by
    rw[eB] at z5
    have z7:aU (H.frz q 1 rs) B ((vo,1,(fs++gD ((.osl q 1 0 (bH w).length,w)::ps)).map (fun r=>r.map (PV.dC q 1 rs)))::(mD ps).map (fun x=>(x.1,x.2.1,x.2.2.map fun r=>r.map (PV.dC q 1 rs)))):=z5
    rw[er,ei] at z7
    exact z7
   obtain⟨φ,H1,k1,k2,k3,k4,k5,k6⟩:=WM ps (fs++[[ints w]]) (ws0++[w]) (hs.snoc (.inl rfl)) z6 hB
   rw[ew] at k1
   refine⟨fun u=>φ (PV.frz q 1 rs u),H1,?_,fun u hu=>?_,fun e=>?_,k4,fun F=>.step q z1 ?_,fun o ho=>k6 o ?_⟩
   ·simp only
    rw[y0']; exact k1
   ·simp only
    rw[hu,k2 u hu]
   ·simp only
    rw[y0']
    have yt:PV.frz q 1 rs (.tup [vo,.int .i64 e])=.tup [PV.frz q 1 rs vo,.int .i64 e]:=by
     rcases h.own 0 rfl with ⟨-,e0⟩ | ⟨p,rs',e0,-⟩<;>(subst e0; rfl)
    rw[yt,y0',k3]
   ·have:aJE (fun u=>φ (PV.frz q 1 rs u)) F=aJE φ (F.frz q 1 rs):=funext fun i=>by
     rw[RR,RR,qN,Option.map_map]
     rfl
    rw[this]
    exact k5 _
   ·rw[vH]
    rcases ho with ho | ho | ⟨p,hp,ho⟩
    ·left; rw[ho]; split<;>rfl
    ·exact .inr (.inl ho)
    ·rcases bJR.1 hp with rfl | hp
     ·have:q=o:=by injection ho
      left; rw[if_pos this.symm]
     ·exact .inr (.inr ⟨p,hp,ho⟩)
theorem aD.buV {C:Ctx} {name:Nat} {args args':List PV} {v:PV} {Hx:PH} {F1:PF} (hv:Plain v) (hz:iH (PF.args args) Hx F1 .nil) (hF:∀ (i:Nat) p',args'[i]?=some p'→F1 i=some p') (hl:args'.length=args.length)
  (h:aD C name args' .nil (aE v)):aD C name args Hx (fun r H'=>r=v∧H'=Hx):=by
 refine⟨h.1,fun E w vs hN hW hvs=>?_⟩
 obtain⟨E1,k1,k2,k3⟩:=hz.sound hW
 have hlen:=hvs.len
 have hvs1:eG E1 args' vs.toList:=by
  refine eG.of _ _ (by rw[hl]; exact hlen) fun i p u hp hu=>?_
  have:=k3 (fun i=>(vs.toList[i]?).getD undef) (fun j q hj=>by
   have hjl:=(bKN.1 hj).1
   have hjv:j<vs.toList.length:=by omega
   simp only[bJN hjv,bLQ]
   exact hvs.at_ j q _ hj (bJN hjv)) i p (hF i p hp)
  simp only[hu,bLQ] at this
  exact this
 refine (h.2 E1 w vs (k2.env.num.trans hN) k1 hvs1).mono fun e w' he=>?_
 obtain⟨u,pv,E2,H2,rfl,hW2,hr,hE,rfl,rfl⟩:=he
 have hblk:∀ b,b<w.heap.size→w'.heap[b]?=w.heap[b]?:=fun b hb=>hE.block b hb rfl
 exact⟨u,pv,E,_,rfl,hW.same hE.size (fun b hb _=>hblk b hb) (fun q x hq=>hblk q (hW.h q x hq).1),hv.rep hr,⟨.refl E,hE.os,hE.tape,hE.output,hE.size,fun b hb _=>hblk b hb,fun q x hq=>.inl ⟨x,hq⟩,fun b cs hb=>.inl hb⟩,rfl,rfl⟩
theorem aD.beZ {C:Ctx} {name:Nat} {pre:List PV} {v vo:PV} {ps:WPs} {H:PH} {B:List BX} (hv:Plain v) (hp:∀ u∈pre,Fx u) (hH:aU H B (kK vo ps)) (h:aD C name (pre++[lists (wls ps)]) .nil (aE v)) :
  aD C name (pre++[vo]) (H.only (dN (kK vo ps))) (fun r H'=>r=v∧H'=H.only (dN (kK vo ps))):=by
 have hO:aU (H.only (dN (kK vo ps))) [] (kK vo ps):=hH.only (B1:=[]) (List.nil_sublist _) (bLJ.refl _)
 obtain⟨φ,H1,k1,k2,-,-,k5,k6⟩:=WM ps [] [] .nil hO (fun b hb=>by cases hb)
 have hn:H1=.nil:=PH.ext fun o=>by
  refine k6 o ?_
  by_cases c:o∈dN (kK vo ps)
  ·right
   obtain⟨x,hx,ho⟩:=List.mem_filterMap.1 c
   rcases bJR.1 hx with rfl | hx
   ·exact .inl ho
   ·obtain⟨p,hp,rfl⟩:=bKI.1 hx
    exact .inr ⟨p,hp,ho⟩
  ·left
   unfold PH.only
   simp[c]
 subst hn
 have h2:aD C name (pre++[φ vo]) .nil (aE v):=h.args (by
  refine⟨by simp,fun j p q hj hq=>?_⟩
  rcases Nat.lt_trichotomy j pre.length with c | c | c
  ·rw[bLN c] at hj hq
   rw[hj] at hq; cases hq; exact .refl _
  ·subst c
   rw[bKZ (bJF _),bLY] at hj hq
   cases hj; cases hq; exact k1
  ·rw[bKZ Om,bKM (by simp; omega)] at hj
   cases hj)
 refine h2.buV hv (k5 _) (fun i p' hi=>?_) (by simp)
 rw[RR]
 show (( pre++[vo])[i]?).map φ=some p'
 rcases Nat.lt_trichotomy i pre.length with c | c | c
 ·rw[bLN c] at hi ⊢
  rw[hi,bKL,k2 p' (hp p' (bLT hi))]
 ·subst c
  rw[bKZ (bJF _),bLY] at hi ⊢
  cases hi
  rfl
 ·rw[bKZ Om,bKM (by simp; omega)] at hi
  cases hi
theorem bO.lenOf {H:PH} {v:PV} {rows:List (List PV)} {s:Nat} (h:bO H s v rows):PV.wK v=some (.int .i64 (rows.length:Nat)):=by
 rcases h with ⟨rfl,rfl⟩ | ⟨q,rs,rfl,-⟩<;>rfl
theorem aKC {C:Ctx} {F:PF} {H:PH} {name:Nat} {d:Option Nat} {v x u:PV} {l:List Int} {args:List aP} {K:PF→PH→Prop} (hv:Plain u) (h:aD C name [ints l,x] .nil (aE u)) (hx:Fx x) (hO:bO H 1 v (bH l)) (ha:aP.evs F args=some [v,x])
  (hk:K (F.put d u) H):fP C name args [] d K F H:=by
 rcases hO with ⟨h0,rfl⟩ | ⟨q,rs,rfl,h1,h2,h3⟩
 ·have:l=[]:=List.map_eq_nil_iff.1 h0
  subst this
  exact aA (h.args (.auR (.nil 1) (.auR (.refl x) .brI))) ha hk
 ·refine BG hv ?_ h1 ha hk
  rw[bLB,bLB,List.map_nil,hx,pO h2,h3]
  exact h
def acV (l:List Int):Bool:=decide l.Nodup
theorem aLZ (l:List Int) (x:Int):acV (l++[x])=(acV l&&!l.contains x):=by
 unfold acV
 rw[Bool.eq_iff_iff,decide_eq_true_iff,bJZ,decide_eq_true_iff,bLP]
 constructor
 ·rintro⟨h1,-,h3⟩
  refine⟨h1,?_⟩
  cases hc:l.contains x with
  | false=>rfl
  | true=>exact absurd rfl (h3 x (bLR.1 hc) x (by simp))
 ·rintro⟨h1,h2⟩
  refine⟨h1,by simp,fun a ha b hb=>?_⟩
  rw[bKP] at hb
  subst hb
  rintro rfl
  rw[bLR.2 ha] at h2
  cases h2
theorem aU.brH {H:PH} {B:List BX} {vo:PV} {ps:WPs} (h:aU H B (kK vo ps)) {i:Nat} (hi:i<ps.length) :
  ∃ qo rs,vo=.osl qo 1 0 ps.length∧H qo=some (.rows 1 rs)∧rs[i]?=some [ps[i].1]∧i<rs.length:=by
 rcases h.outer with ⟨h1,-⟩ | ⟨q,rs,rfl,h1,h2,h3⟩
 ·have:(gD ps).length=0:=by rw[h1]; rfl
  rw[NN] at this
  omega
 ·rw[NN] at h2 h3
  refine⟨q,rs,by rw[NN],h1,?_,by omega⟩
  have:=aEL (ps:=ps) (i:=i) (v:=ps[i].1) (w:=ps[i].2) (by rw[bJN hi])
  rw[← h3,bMS hi] at this
  exact this
theorem alI (ps:WPs):(wls ps).length=ps.length:=bJC _
structure bqA (f:aJ) (now:List (List Int)) (r:Int) (d:Nat) (ps:WPs):Prop where
 eq:wls ps=afR f now r d
 num:ps.length≤d
 len:∀ i (h:i<ps.length),1≤(ps[i].2).length∧(ps[i].2).length≤d
theorem bqA.of {f:aJ} {now:List (List Int)} {r:Int} (ha:mS f now r=true) {d:Nat} (hd:d≤f.bGY.length) {ps:WPs} (h:wls ps=afR f now r d):bqA f now r d ps:=by
 have k:=asB ha d hd
 rw[← h] at k
 have h1:∀ i (h:i<ps.length),ps[i].2∈wls ps:=fun i hi=>bKI.2 ⟨ps[i],bJG hi,rfl⟩
 have ne:∀ l∈wls ps,1≤l.length:=fun l hl=>by
  have:=k.ok l hl
  unfold kN at this
  cases l with
  | nil=>cases this
  | cons x xs=>rw[bKQ]; omega
 refine⟨h,?_,fun i hi=>⟨ne _ (h1 i hi),?_⟩⟩
 ·have h2:(wls ps).length≤(wls ps).flatten.length:=by
   generalize wls ps=w at ne
   induction w with
   | nil=>exact bJF _
   | cons l w ih =>
    have:=ih fun x hx=>ne x (List.mem_cons_of_mem _ hx)
    have:=ne l (by simp)
    rw[List.flatten_cons,bJL,bKQ]
    omega
  rw[alI,k.len] at h2
  exact h2
 ·have:=(List.sublist_flatten_of_mem (h1 i hi)).length_le
  rw[k.len] at this
  exact this

def wi (x n:Int):Int:=if n<1 then 0 else if x.tmod n<0 then x.tmod n+n else x.tmod n
theorem aZH {C:Ctx} (x n:Int) (hn:InK .i64 n):wL.wp C (aT CF.res (aE (.int .i64 (wi x n)))) (PF.args [.int .i64 x,.int .i64 n]) .nil:=by
 simp only[go_sem,γ,δ,ε,ζ,η,θ,ι,κ,μ,ν,ξ,ο,ρ,σ,τ,υ,reduceIte,reduceCtorEq,wL,abX,abY,CF]
 refine kO (fun h=>?_) (fun h=>?_)
 ·simp only[go_sem,γ,δ,ε,ζ,η,θ,ι,κ,μ,ν,ξ,ο,ρ,σ,τ,υ,reduceIte,reduceCtorEq,abZ]
  refine aM (.inr rfl) Ev ?_
  simp only[decide_eq_true_eq] at h
  simp[aW,wi,h]
 ·simp only[decide_eq_false_iff_not] at h
  have h0:n≠0:=by omega
  simp only[go_sem,γ,δ,ε,ζ,η,θ,ι,κ,μ,ν,ξ,ο,ρ,σ,τ,υ,reduceIte,reduceCtorEq,acA,acB,h0]
  refine kO (fun h2=>?_) (fun h2=>?_)
  ·simp only[decide_eq_true_eq] at h2
   simp only[go_sem,γ,δ,ε,ζ,η,θ,ι,κ,μ,ν,ξ,ο,ρ,σ,τ,υ,reduceIte,reduceCtorEq,acC]
   refine aM (.inr rfl) Ev ?_
   have h3:=Int.lt_tmod_of_pos x (Om:0<n)
   have:=hn.2
   have e:IntKind.i64.max=9223372036854775807:=by decide
   simp only[aW,wi,if_neg h,if_pos h2]
   rw[wrap_i64 Om Om]
  ·simp only[decide_eq_false_iff_not] at h2
   simp only[go_sem,γ,δ,ε,ζ,η,θ,ι,κ,μ,ν,ξ,ο,ρ,σ,τ,υ,reduceIte,reduceCtorEq,acD]
   refine aM (.inr rfl) Ev ?_
   simp only[aW,wi,if_neg h,if_neg h2]
def BU (n:Int):PV:=.agg [.int .i64 (if n<1 then 4 else 1),.int .i64 0]
theorem bcV {C:Ctx} (n:Int):DJ.wp C (aT begin.res (aE (BU n))) (PF.args [.int .i64 n]) .nil:=by
 simp only[go_sem,γ,δ,ε,ζ,η,θ,ι,κ,μ,ν,ξ,ο,ρ,σ,τ,υ,reduceIte,reduceCtorEq,DJ,awD,begin]
 refine aQ fun o ho=>?_
 simp only[go_sem,γ,δ,ε,ζ,η,θ,ι,κ,μ,ν,ξ,ο,ρ,σ,τ,υ,reduceIte,reduceCtorEq,awE]
 refine kO (fun h=>?_) (fun h=>?_)
 ·simp only[go_sem,γ,δ,ε,ζ,η,θ,ι,κ,μ,ν,ξ,ο,ρ,σ,τ,υ,reduceIte,reduceCtorEq,awF]
  refine aM (.inr rfl) Ev ?_
  simp only[decide_eq_true_eq] at h
  simp[aW,BU,h]
 ·simp only[go_sem,γ,δ,ε,ζ,η,θ,ι,κ,μ,ν,ξ,ο,ρ,σ,τ,υ,reduceIte,reduceCtorEq,awG]
  refine aM (.inr rfl) Ev ?_
  simp only[decide_eq_false_iff_not] at h
  simp[aW,BU,h]
def mL (n p w e:Int):(Int × Int) × Int :=
 if w<0∨w≥n then ((0,0),110)
 else if p=1∧e=1 then ((2,w),0)
 else if p=2∧e=2 then ((3,w),0)
 else if p=3∧e=3∧w=IntKind.i64.wrap (n-1) then ((4,w),0)
 else if p=3∧e=3 then ((1,IntKind.i64.wrap (w+1)),0)
 else if p=3∧e=4 then ((5,w),0)
 else ((0,0),110)
def stV (x:Int × Int):PV:=.agg [.int .i64 x.1,.int .i64 x.2]
def mM (x:(Int × Int) × Int):PV:=.tup [stV x.1,.int .i64 x.2]
theorem boI {C:Ctx} (n p w e:Int):OL.wp C (aT step.res (aE (mM (mL n p w e)))) (PF.args [.int .i64 n,.agg [.int .i64 p,.int .i64 w],.int .i64 e]) .nil:=by
 simp only[go_sem,γ,δ,ε,ζ,η,θ,ι,κ,μ,ν,ξ,ο,ρ,σ,τ,υ,reduceIte,reduceCtorEq,OL,aTI,step]
 refine aQ fun o4 ho4=>?_
 simp only[go_sem,γ,δ,ε,ζ,η,θ,ι,κ,μ,ν,ξ,ο,ρ,σ,τ,υ,reduceIte,reduceCtorEq]
 refine aQ fun o6 ho6=>?_
 have n64:¬ o6=o4:=(cY.1 ho6).1
 have n46:¬ o4=o6:=fun h=>n64 h.symm
 simp only[go_sem,γ,δ,ε,ζ,η,θ,ι,κ,μ,ν,ξ,ο,ρ,σ,τ,υ,reduceIte,reduceCtorEq,aTJ,n64,n46]
 by_cases h1:w<0
 ·simp only[go_sem,γ,δ,ε,ζ,η,θ,ι,κ,μ,ν,ξ,ο,ρ,σ,τ,υ,reduceIte,reduceCtorEq,h1,akV,n64,n46]
  refine aM (.inr rfl) Ev ?_
  simp[aW,mL,h1,mM,stV]
 simp only[go_sem,γ,δ,ε,ζ,η,θ,ι,κ,μ,ν,ξ,ο,ρ,σ,τ,υ,reduceIte,reduceCtorEq,h1,n64,n46]
 by_cases h2:w≥n
 ·simp only[go_sem,γ,δ,ε,ζ,η,θ,ι,κ,μ,ν,ξ,ο,ρ,σ,τ,υ,reduceIte,reduceCtorEq,h2,akV,n64,n46]
  refine aM (.inr rfl) Ev ?_
  simp[aW,mL,h2,mM,stV]
 simp only[go_sem,γ,δ,ε,ζ,η,θ,ι,κ,μ,ν,ξ,ο,ρ,σ,τ,υ,reduceIte,reduceCtorEq,h2,aTK,n64,n46]
 refine bU ((PH.nil.set o4 (.rows 2 [[.int .i64 p,.int .i64 w]]))) eD (PH.aI PH.nil_le (by simp only[go_sem,γ,δ,ε,ζ,η,θ,ι,κ,μ,ν,ξ,ο,ρ,σ,τ,υ,reduceIte,reduceCtorEq,n64,n46])) ?_
 simp only[go_sem,γ,δ,ε,ζ,η,θ,ι,κ,μ,ν,ξ,ο,ρ,σ,τ,υ,reduceIte,reduceCtorEq]
 refine aQ fun o21 ho21=>?_
 have n214:¬ o21=o4:=(cY.1 (cY.1 ho21).2).1
 have n421:¬ o4=o21:=fun h=>n214 h.symm
 have n216:¬ o21=o6:=(cY.1 ho21).1
 have n621:¬ o6=o21:=fun h=>n216 h.symm
 simp only[go_sem,γ,δ,ε,ζ,η,θ,ι,κ,μ,ν,ξ,ο,ρ,σ,τ,υ,reduceIte,reduceCtorEq]
 refine QS (o:=o21) (kv:=.agg [.int .i64 1,.int .i64 1]) (vv:=.int .i64 2) (key:=[.int .i64 1,.int .i64 1]) (g:=fun _=>none) Sq Sq Sq Sq Sq (by rfl) (by simp only[go_sem,γ,δ,ε,ζ,η,θ,ι,κ,μ,ν,ξ,ο,ρ,σ,τ,υ,reduceIte,reduceCtorEq,n214]) ?_
 simp only[go_sem,γ,δ,ε,ζ,η,θ,ι,κ,μ,ν,ξ,ο,ρ,σ,τ,υ,reduceIte,reduceCtorEq]
 refine QS (o:=o21) (kv:=.agg [.int .i64 2,.int .i64 2]) (vv:=.int .i64 3) (key:=[.int .i64 2,.int .i64 2]) (g:=eQ.upd (fun _=>none) [.int .i64 1,.int .i64 1] (.int .i64 2)) Sq Sq Sq Sq Sq (by rfl) (by simp only[go_sem,γ,δ,ε,ζ,η,θ,ι,κ,μ,ν,ξ,ο,ρ,σ,τ,υ,reduceIte,reduceCtorEq,n214]) ?_
 simp only[go_sem,γ,δ,ε,ζ,η,θ,ι,κ,μ,ν,ξ,ο,ρ,σ,τ,υ,reduceIte,reduceCtorEq]
 refine QS (o:=o21) (kv:=.agg [.int .i64 3,.int .i64 3]) (vv:=.int .i64 1) (key:=[.int .i64 3,.int .i64 3]) (g:=eQ.upd (eQ.upd (fun _=>none) [.int .i64 1,.int .i64 1] (.int .i64 2)) [.int .i64 2,.int .i64 2] (.int .i64 3)) Sq Sq Sq Sq Sq (by rfl) (by simp only[go_sem,γ,δ,ε,ζ,η,θ,ι,κ,μ,ν,ξ,ο,ρ,σ,τ,υ,reduceIte,reduceCtorEq,n214]) ?_
 simp only[go_sem,γ,δ,ε,ζ,η,θ,ι,κ,μ,ν,ξ,ο,ρ,σ,τ,υ,reduceIte,reduceCtorEq]
 refine QS (o:=o21) (kv:=.agg [.int .i64 3,.int .i64 4]) (vv:=.int .i64 5) (key:=[.int .i64 3,.int .i64 4]) (g:=eQ.upd (eQ.upd (eQ.upd (fun _=>none) [.int .i64 1,.int .i64 1] (.int .i64 2)) [.int .i64 2,.int .i64 2] (.int .i64 3)) [.int .i64 3,.int .i64 3] (.int .i64 1)) Sq Sq Sq Sq Sq (by rfl) (by simp only[go_sem,γ,δ,ε,ζ,η,θ,ι,κ,μ,ν,ξ,ο,ρ,σ,τ,υ,reduceIte,reduceCtorEq,n214]) ?_
 simp only[go_sem,γ,δ,ε,ζ,η,θ,ι,κ,μ,ν,ξ,ο,ρ,σ,τ,υ,reduceIte,reduceCtorEq]
 have hkey:∀ a b:Int,([KS.int .i64 p,KS.int .i64 e]=[KS.int .i64 a,KS.int .i64 b])=(p=a∧e=b):=fun a b=>by simp
 simp only[go_sem,γ,δ,ε,ζ,η,θ,ι,κ,μ,ν,ξ,ο,ρ,σ,τ,υ,reduceIte,reduceCtorEq,n64,n46,n214,n421,n216,n621,eQ.upd,hkey]
 by_cases q4:p=3∧e=4
 ·obtain⟨rfl,rfl⟩:=q4
  simp only[go_sem,γ,δ,ε,ζ,η,θ,ι,κ,μ,ν,ξ,ο,ρ,σ,τ,υ,reduceIte,reduceCtorEq,pX,pY,pZ,qA,nA,n64,n46,n214,n421,n216,n621]
  refine aM (.inr rfl) Ev ?_
  simp[aW,mL,h1,h2,mM,stV]
 by_cases q3:p=3∧e=3
 ·obtain⟨rfl,rfl⟩:=q3
  simp only[go_sem,γ,δ,ε,ζ,η,θ,ι,κ,μ,ν,ξ,ο,ρ,σ,τ,υ,reduceIte,reduceCtorEq,pX,pY,pZ,qA,nA,n64,n46,n214,n421,n216,n621,aTL]
  by_cases hw:w=IntKind.i64.wrap (n-1)
  ·simp only[go_sem,γ,δ,ε,ζ,η,θ,ι,κ,μ,ν,ξ,ο,ρ,σ,τ,υ,reduceIte,reduceCtorEq,bW hw,aTM,pX,pY,pZ,qA,nA,n64,n46,n214,n421,n216,n621]
   refine aM (.inr rfl) Ev ?_
   simp[aW,mL,h1,h2,← hw,mM,stV]
  ·simp only[go_sem,γ,δ,ε,ζ,η,θ,ι,κ,μ,ν,ξ,ο,ρ,σ,τ,υ,reduceIte,reduceCtorEq,bF hw,aGR,pX,pY,pZ,qA,nA,n64,n46,n214,n421,n216,n621]
   refine aM (.inr rfl) Ev ?_
   simp[aW,mL,h1,h2,hw,mM,stV]
 by_cases q2:p=2∧e=2
 ·obtain⟨rfl,rfl⟩:=q2
  simp only[go_sem,γ,δ,ε,ζ,η,θ,ι,κ,μ,ν,ξ,ο,ρ,σ,τ,υ,reduceIte,reduceCtorEq,pX,pY,pZ,qA,nA,n64,n46,n214,n421,n216,n621]
  refine aM (.inr rfl) Ev ?_
  simp[aW,mL,h1,h2,mM,stV]
 by_cases q1:p=1∧e=1
 ·obtain⟨rfl,rfl⟩:=q1
  simp only[go_sem,γ,δ,ε,ζ,η,θ,ι,κ,μ,ν,ξ,ο,ρ,σ,τ,υ,reduceIte,reduceCtorEq,pX,pY,pZ,qA,nA,n64,n46,n214,n421,n216,n621]
  refine aM (.inr rfl) Ev ?_
  simp[aW,mL,h1,h2,mM,stV]
 simp only[go_sem,γ,δ,ε,ζ,η,θ,ι,κ,μ,ν,ξ,ο,ρ,σ,τ,υ,reduceIte,reduceCtorEq,q1,q2,q3,q4,pX,pY,pZ,qA,nA,n64,n46,n214,n421,n216,n621]
 refine aM (.inr rfl) Ev ?_
 have q3':¬ (p=3∧e=3∧w=IntKind.i64.wrap (n-1)):=fun h=>q3 ⟨h.1,h.2.1⟩
 simp only[aW,mL,h1,h2,q1,q2,q3,q3',q4,mM,stV,or_self,if_false]
def AW (len:Nat) (p w:Int):Nat:=if w<len then (if p=3∨p=4 then w.toNat+1 else w.toNat) else len
def PB (ws:List (List Int)) (p w:Int):List Int:=if p<1∨p>5∨w<0 then [] else RO.sZ [] (ws.take (AW ws.length p w)).flatten
structure rI (C:Ctx):Prop where
 concat:∀ ws:List (List Int),ws.length≤1000000→ws.flatten.length≤1000000→aD C 178 [lists ws] .nil (US ws.flatten)
 sort:∀ (o:Nat) (xs:List Int),xs≠[]→xs.length<4611686018427387904→aD C 180 [.osl o 1 0 xs.length] (PH.nil.set o (.rows 1 (bH xs))) (fun r H'=>r=.tup []∧H'=PH.nil.set o (.rows 1 (bH (sorted xs))))
 sort0:aD C 180 [.aB] .nil (fun r H'=>r=.tup []∧H'=.nil)
 compact:∀ (o:Nat) (xs:List Int),xs≠[]→xs.length<4611686018427387904→aD C 177 [.osl o 1 0 xs.length] (PH.nil.set o (.rows 1 (bH xs))) (fun r H'=>r=.osl o 1 0 (Lib.compact xs).length∧H'=PH.nil.set o (.rows 1 (bH (Lib.compact xs++bJE (xs.length-(Lib.compact xs).length) 0))))
 compact0:aD C 177 [.aB] .nil (fun r H'=>r=.aB∧H'=.nil)
theorem a5T (xs:List Int):(bH xs).length=xs.length:=by simp[bH]
theorem tG {C:Ctx} (L:rI C) (ws:List (List Int)) (h1:ws.length≤1000000) (h2:ws.flatten.length≤1000000) (n:Nat) (hn:n≤ws.length) (F:PF) (f0:F 0=some (lists ws)) (f5:F 5=some (.int .i64 n)) :
  aC.wp C (.seq (.region alB) (.seq (.region RP) (.seq (.region RQ) .ret))) (aT [.tmp 4] (bZ (ints (RO.sZ [] (ws.take n).flatten)))) F .nil:=by
 have hr:(ws.map fun w=>[ints w]).take n=(ws.take n).map fun w=>[ints w]:=by rw[List.map_take]
 have hc1:(n:Int)≤(ws.length:Nat):=by omega
 simp only[go_sem,γ,δ,ε,ζ,η,θ,ι,κ,μ,ν,ξ,ο,ρ,σ,τ,υ,reduceIte,reduceCtorEq,alB,f0,f5,hr,hc1]
 have hfl:=ajC ws n
 refine eO (L.concat (ws.take n) (by rw[bJU]; omega) Om) Ev PH.nil_le ?_
 rw[← RO.aLG]
 generalize (ws.take n).flatten=xs at hfl
 intro r H' hr ha
 rcases hr with ⟨h0,rfl,rfl⟩ | ⟨h0,o,rfl,rfl⟩
 ·subst h0
  rw[PH.kS]
  simp only[go_sem,γ,δ,ε,ζ,η,θ,ι,κ,μ,ν,ξ,ο,ρ,σ,τ,υ,reduceIte,reduceCtorEq,RP]
  refine eO L.sort0 Ev PH.nil_le ?_
  rintro r H' ⟨rfl,rfl⟩ -
  rw[PH.kS]
  simp only[go_sem,γ,δ,ε,ζ,η,θ,ι,κ,μ,ν,ξ,ο,ρ,σ,τ,υ,reduceIte,reduceCtorEq,RQ]
  refine eO L.compact0 Ev PH.nil_le ?_
  rintro r H' ⟨rfl,rfl⟩ -
  rw[PH.kS]
  simp only[go_sem,γ,δ,ε,ζ,η,θ,ι,κ,μ,ν,ξ,ο,ρ,σ,τ,υ,reduceIte,reduceCtorEq]
  have e:Lib.compact (RO.srt [])=[]:=by simp[RO.srt,Lib.compact,Lib.compactUpTo]
  rw[e]
  exact aX (vs:=[.aB]) (.inr rfl) .nil Ev PH.nil_le ⟨.nil 1,rfl⟩
 ·rw[PH.jD]
  simp only[go_sem,γ,δ,ε,ζ,η,θ,ι,κ,μ,ν,ξ,ο,ρ,σ,τ,υ,reduceIte,reduceCtorEq,RP]
  refine eO (L.sort o xs h0 Om) Ev PH.le_refl ?_
  rintro r H' ⟨rfl,rfl⟩ -
  rw[PH.lD,PH.set_set]
  simp only[go_sem,γ,δ,ε,ζ,η,θ,ι,κ,μ,ν,ξ,ο,ρ,σ,τ,υ,reduceIte,reduceCtorEq,RQ]
  have hsl:(sorted xs).length=xs.length:=by simp[sorted]
  have hs0:sorted xs≠[]:=by
   intro e; rw[e] at hsl; exact h0 (bMQ hsl.symm)
  refine eO (L.compact o (sorted xs) hs0 Om) (by rw[hsl]; simp only[go_sem,γ,δ,ε,ζ,η,θ,ι,κ,μ,ν,ξ,ο,ρ,σ,τ,υ,reduceIte,reduceCtorEq]) PH.le_refl ?_
  rintro r H' ⟨rfl,rfl⟩ -
  rw[PH.lD,PH.set_set]
  simp only[go_sem,γ,δ,ε,ζ,η,θ,ι,κ,μ,ν,ξ,ο,ρ,σ,τ,υ,reduceIte,reduceCtorEq]
  refine aFP (o:=o) (s:=1) (k:=(Lib.compact (sorted xs)).length) (rs:=bH (Lib.compact (sorted xs)++bJE ((sorted xs).length-(Lib.compact (sorted xs)).length) 0)) (.inr rfl) Sq Sq (by rw[a5T,bJL]; omega) ⟨?_,rfl⟩
  have e:(bH (Lib.compact (sorted xs)++bJE ((sorted xs).length-(Lib.compact (sorted xs)).length) 0)).take (Lib.compact (sorted xs)).length=bH (Lib.compact (sorted xs)):=by
   unfold bH
   rw[bLS,List.take_append_of_le_length (by rw[bJC]; exact bJF _),bJS (by rw[bJC]; exact bJF _)]
  rw[e]
  exact .refl _
theorem boW {C:Ctx} (L:rI C) (ws:List (List Int)) (h1:ws.length≤1000000) (h2:ws.flatten.length≤1000000) (p w:Int) :
  PA.wp C (aT aIK.res (bZ (ints (PB ws p w)))) (PF.args [lists ws,.agg [.int .i64 p,.int .i64 w]]) .nil:=by
 simp only[go_sem,γ,δ,ε,ζ,η,θ,ι,κ,μ,ν,ξ,ο,ρ,σ,τ,υ,reduceIte,reduceCtorEq,PA,aUZ,aVA,aIK]
 by_cases c1:p<1
 ·simp only[go_sem,γ,δ,ε,ζ,η,θ,ι,κ,μ,ν,ξ,ο,ρ,σ,τ,υ,reduceIte,reduceCtorEq,c1,RL]
  refine aX (.inr rfl) .nil Ev PH.nil_le ⟨?_,rfl⟩
  simp only[PB,c1,true_or,if_true]; exact .nil 1
 simp only[go_sem,γ,δ,ε,ζ,η,θ,ι,κ,μ,ν,ξ,ο,ρ,σ,τ,υ,reduceIte,reduceCtorEq,c1]
 by_cases c2:p>5
 ·simp only[go_sem,γ,δ,ε,ζ,η,θ,ι,κ,μ,ν,ξ,ο,ρ,σ,τ,υ,reduceIte,reduceCtorEq,c2,RL]
  refine aX (.inr rfl) .nil Ev PH.nil_le ⟨?_,rfl⟩
  simp only[PB,c2,true_or,or_true,if_true]; exact .nil 1
 simp only[go_sem,γ,δ,ε,ζ,η,θ,ι,κ,μ,ν,ξ,ο,ρ,σ,τ,υ,reduceIte,reduceCtorEq,c2]
 by_cases c3:w<0
 ·simp only[go_sem,γ,δ,ε,ζ,η,θ,ι,κ,μ,ν,ξ,ο,ρ,σ,τ,υ,reduceIte,reduceCtorEq,c3,RL]
  refine aX (.inr rfl) .nil Ev PH.nil_le ⟨?_,rfl⟩
  simp only[PB,c3,or_true,if_true]; exact .nil 1
 simp only[go_sem,γ,δ,ε,ζ,η,θ,ι,κ,μ,ν,ξ,ο,ρ,σ,τ,υ,reduceIte,reduceCtorEq,c3]
 have hu:PB ws p w=RO.sZ [] (ws.take (AW ws.length p w)).flatten:=by
  simp only[PB,c1,c2,c3,or_self,if_false]
 rw[hu]
 by_cases c4:w<ws.length
 ·have c5:¬ (ws.length:Int)<w:=by omega
  simp only[go_sem,γ,δ,ε,ζ,η,θ,ι,κ,μ,ν,ξ,ο,ρ,σ,τ,υ,reduceIte,reduceCtorEq,RM,c5,RN,c4]
  by_cases c6:p=3
  ·subst c6
   have e:AW ws.length 3 w=w.toNat+1:=by simp[AW,c4]
   rw[e]
   simp only[go_sem,γ,δ,ε,ζ,η,θ,ι,κ,μ,ν,ξ,ο,ρ,σ,τ,υ,reduceIte,reduceCtorEq,alA]
   refine tG L ws h1 h2 _ Om _ Sq (by simp only[go_sem,γ,δ,ε,ζ,η,θ,ι,κ,μ,ν,ξ,ο,ρ,σ,τ,υ,reduceIte,reduceCtorEq]; rw[wrap_i64 Om Om]; omega)
  simp only[go_sem,γ,δ,ε,ζ,η,θ,ι,κ,μ,ν,ξ,ο,ρ,σ,τ,υ,reduceIte,reduceCtorEq,bF c6]
  by_cases c7:p=4
  ·subst c7
   have e:AW ws.length 4 w=w.toNat+1:=by simp[AW,c4]
   rw[e]
   simp only[go_sem,γ,δ,ε,ζ,η,θ,ι,κ,μ,ν,ξ,ο,ρ,σ,τ,υ,reduceIte,reduceCtorEq,alA]
   refine tG L ws h1 h2 _ Om _ Sq (by simp only[go_sem,γ,δ,ε,ζ,η,θ,ι,κ,μ,ν,ξ,ο,ρ,σ,τ,υ,reduceIte,reduceCtorEq]; rw[wrap_i64 Om Om]; omega)
  have e:AW ws.length p w=w.toNat:=by simp[AW,c4,c6,c7]
  rw[e]
  simp only[go_sem,γ,δ,ε,ζ,η,θ,ι,κ,μ,ν,ξ,ο,ρ,σ,τ,υ,reduceIte,reduceCtorEq,bF c7]
  refine tG L ws h1 h2 _ Om _ Sq (by simp only[go_sem,γ,δ,ε,ζ,η,θ,ι,κ,μ,ν,ξ,ο,ρ,σ,τ,υ,reduceIte,reduceCtorEq]; omega)
 ·have e:AW ws.length p w=ws.length:=by simp[AW,c4]
  rw[e]
  by_cases c5:(ws.length:Int)<w
  ·simp only[go_sem,γ,δ,ε,ζ,η,θ,ι,κ,μ,ν,ξ,ο,ρ,σ,τ,υ,reduceIte,reduceCtorEq,RM,c5,RN]
   refine tG L ws h1 h2 _ (bJF _) _ Sq Sq
  ·have c6:w=(ws.length:Nat):=by omega
   subst c6
   simp only[go_sem,γ,δ,ε,ζ,η,θ,ι,κ,μ,ν,ξ,ο,ρ,σ,τ,υ,reduceIte,reduceCtorEq,RM,RN]
   refine tG L ws h1 h2 _ (bJF _) _ Sq Sq
theorem US.heap {H H':PH} {xs:List Int} {r:PV} (h:US xs r H') (hap:kE H .nil H'):aU (H.eU .nil H') [] [(r,1,bH xs)]:=by
 rcases h with ⟨rfl,rfl,rfl⟩ | ⟨hne,o,rfl,rfl⟩
 ·rw[PH.kS]; exact aU.nil.rR 1
 ·rw[PH.jD]
  have:=(aU.nil (H:=H)).aZS (s:=1) (rows:=bH xs) (hap o _ (by rw[fI]) rfl)
  rw[gU] at this
  exact this
def FW (all:List Int) (k:Nat):Bool:=(bJD k).all fun d=>all.contains (d:Int)
theorem aZA (all:List Int) (k:Nat):FW all (k+1)=(FW all k&&all.contains (k:Int)):=by
 unfold FW
 rw[List.range_succ,List.all_append]
 simp
theorem beV {all:List Int} {n k:Nat} (h:k<n) (hs:all.contains (k:Int)=false):FW all n=false:=by
 unfold FW
 rw[Bool.eq_false_iff,ne_eq,bJW]
 intro hk
 rw[hk k (bKE.2 h)] at hs
 cases hs
theorem a4K (f:aJ) (now:List (List Int)) (r:Int) (w:List (List Int)):oK f now r w=(fE f now r&&((decide (w.flatten.length=f.bGY.length)&&FW w.flatten f.bGY.length)&&w.all (kN f now r))):=rfl
theorem a4E {α:Type} {p:α→Bool} {l:List α} {k:Nat} (h:k<l.length):(l.take (k+1)).all p=((l.take k).all p&&p l[k]):=by
 rw[bLC h,List.all_append]
 simp
theorem bkI {α:Type} {p:α→Bool} {l:List α} {k:Nat} (h:k<l.length) (hp:p l[k]=false):l.all p=false:=by
 rw[List.all_eq_false]
 exact⟨l[k],bJG h,by rw[hp]; simp⟩
def aEG (f:aJ) (now:List (List Int)) (r:Int) (ws:List (List Int)) (k:Nat):Bool:=(ws.take k).all (kN f now r)
theorem bfQ (f:aJ) (now:List (List Int)) (r:Int) (ws:List (List Int)):aEG f now r ws ws.length=ws.all (kN f now r):=by unfold aEG; rw[bKB]
theorem a7D {f:aJ} {now:List (List Int)} {r:Int} {ws:List (List Int)} {k:Nat} (h:k<ws.length):aEG f now r ws (k+1)=(aEG f now r ws k&&kN f now r ws[k]):=a4E h
theorem asA (f:aJ) (now:List (List Int)) (r:Int) (l:List Int):kN f now r l=(!l.isEmpty&&lL f now r l):=rfl
structure btL (C:Ctx):Prop extends aXC C 250 251 where
 concat:∀ ws:List (List Int),ws.length≤1000000→ws.flatten.length≤1000000→aD C 178 [lists ws] .nil (US ws.flatten)
 contains:∀ (l:List Int) (x:Int),l.length≤1000000000000000→aD C 260 [ints l,.int .i64 x] .nil (aE (.bool (l.contains x)))
theorem bbR {C:Ctx} (Lb:btL C) (f:aJ) (hf:f.Ok) (now:List (List Int)) (hl:iV now) (r:Int) (ws:List (List Int)) (h1:ws.length≤1000000) (h2:ws.flatten.length≤1000000) :
  BH.wp C (aT QA.res (aE (.bool (oK f now r ws)))) (PF.args [.agg f.cells,lay now,.int .i64 r,lists ws]) .nil:=by
 have hE:=a4K f now r ws
 have no:∀ b:Bool,oK f now r ws=b→∀ F' H',F' 8=some (.bool b)→aT [.tmp 8] (aE (.bool (oK f now r ws))) .ret F' H':=fun b hb F' H' h8=>by
  refine aM (.inr rfl) (vs:=[.bool b]) (by simp only[go_sem,γ,δ,ε,ζ,η,θ,ι,κ,μ,ν,ξ,ο,ρ,σ,τ,υ,reduceIte,reduceCtorEq,h8]) ?_
  rw[aW,hb]
 simp only[go_sem,γ,δ,ε,ζ,η,θ,ι,κ,μ,ν,ξ,ο,ρ,σ,τ,υ,reduceIte,reduceCtorEq,BH,asX,asY,QA]
 refine aA (Lb.usable f now r hf hl) Ev ?_
 cases hu:fE f now r with
 | false =>
  rw[hu,bJI] at hE
  simp only[go_sem,γ,δ,ε,ζ,η,θ,ι,κ,μ,ν,ξ,ο,ρ,σ,τ,υ,reduceIte,reduceCtorEq,asZ]
  exact no _ hE _ _ Ev
 | true =>
  rw[hu,bJM] at hE
  have hV:=VF.of (nC hu).1
  have hd:=hV.small.bGY
  simp only[go_sem,γ,δ,ε,ζ,η,θ,ι,κ,μ,ν,ξ,ο,ρ,σ,τ,υ,reduceIte,reduceCtorEq,atA]
  refine eO (Lb.concat ws h1 h2) Ev PH.nil_le ?_
  intro v H' hr hap
  have hH:=hr.heap hap
  generalize PH.eU PH.nil PH.nil H'=H at hH
  have hO:=hH.own 0 rfl
  have hln:=hO.lenOf
  rw[gU] at hln
  simp only[go_sem,γ,δ,ε,ζ,η,θ,ι,κ,μ,ν,ξ,ο,ρ,σ,τ,υ,reduceIte,reduceCtorEq,atB,hln,bJC]
  by_cases cl:ws.flatten.length=f.bGY.length
  ·rw[decide_eq_true cl,bJM] at hE
   simp only[go_sem,γ,δ,ε,ζ,η,θ,ι,κ,μ,ν,ξ,ο,ρ,σ,τ,υ,reduceIte,reduceCtorEq,cG (Om:((ws.flatten.length:Nat):Int)=(f.bGY.length:Nat)),atD,bJC]
   refine wp_loop (α:=Nat) (fun k=>(((((((PF.nil.set 1 (lay now)).set 2 (.int .i64 r)).set 3 (lists ws)).set 4 (.bG f.cells)).set 9 (v)).set 28 (.int .i64 (f.bGY.length:Nat))).set 29 (.int .i64 k))) (fun _=>H) (fun k=>k≤f.bGY.length∧FW ws.flatten k=true) (fun k=>f.bGY.length-k) 0 ⟨bJO _,rfl⟩ Lq PH.le_refl ?_
   rintro k ⟨hk,hok⟩
   simp only[go_sem,γ,δ,ε,ζ,η,θ,ι,κ,μ,ν,ξ,ο,ρ,σ,τ,υ,reduceIte,reduceCtorEq,agV,atE]
   by_cases hlt:k<f.bGY.length
   ·have bHF:(k:Int)<(f.bGY.length:Nat):=by omega
    have hs:=aZA ws.flatten k
    rw[hok,bJM] at hs
    simp only[go_sem,γ,δ,ε,ζ,η,θ,ι,κ,μ,ν,ξ,ο,ρ,σ,τ,υ,reduceIte,reduceCtorEq,bHF,atF,atG]
    refine aKC (l:=ws.flatten) (.bool _) (Lb.contains _ (k:Int) Om) (.int _ _) hO Sq ?_
    cases hc:ws.flatten.contains (k:Int) with
    | false =>
     simp only[go_sem,γ,δ,ε,ζ,η,θ,ι,κ,μ,ν,ξ,ο,ρ,σ,τ,υ,reduceIte,reduceCtorEq,agX]
     refine no _ ?_ _ _ Ev
     rw[hE,beV hlt hc,bJI]
    | true =>
     rw[hc] at hs
     simp only[go_sem,γ,δ,ε,ζ,η,θ,ι,κ,μ,ν,ξ,ο,ρ,σ,τ,υ,reduceIte,reduceCtorEq,agY,wZz k]
     exact aK (k+1) ⟨hlt,hs⟩ Om Lq PH.le_refl
   ·have bHF:¬ (k:Int)<(f.bGY.length:Nat):=by omega
    have:k=f.bGY.length:=by omega
    subst this
    rw[hok,bJM] at hE
    simp only[go_sem,γ,δ,ε,ζ,η,θ,ι,κ,μ,ν,ξ,ο,ρ,σ,τ,υ,reduceIte,reduceCtorEq,bHF,agZ,bJC]
    refine wp_loop (α:=Nat) (fun k=>((((((PF.nil.set 1 (lay now)).set 2 (.int .i64 r)).set 4 (.bG f.cells)).set 37 (lists ws)).set 38 (.int .i64 (ws.length:Nat))).set 39 (.int .i64 k))) (fun _=>.nil) (fun k=>k≤ws.length∧aEG f now r ws k=true) (fun k=>ws.length-k) 0 ⟨bJO _,rfl⟩ (by (repeat' (first|exact PF.nil_le|refine PF.aI ?_ ?_))<;>first|(simp only[go_sem,γ,δ,ε,ζ,η,θ,ι,κ,μ,ν,ξ,ο,ρ,σ,τ,υ,reduceIte,reduceCtorEq,bJC]<;>rfl)|rfl) PH.nil_le ?_
    rintro k ⟨hk,hok⟩
    simp only[go_sem,γ,δ,ε,ζ,η,θ,ι,κ,μ,ν,ξ,ο,ρ,σ,τ,υ,reduceIte,reduceCtorEq,agW,ahA]
    by_cases hlt:k<ws.length
    ·have bHF:(k:Int)<(ws.length:Nat):=by omega
     have hat:(ws.map fun w=>[ints w])[k]?=some [ints ws[k]]:=by simp[hlt]
     have hs:=a7D (f:=f) (now:=now) (r:=r) hlt
     have hnoB:=bkI (p:=kN f now r) hlt
     have hle:=(List.sublist_flatten_of_mem (bJG hlt)).length_le
     rw[hok,bJM,asA] at hs
     rw[asA] at hnoB
     generalize ws[k]=w at *
     simp only[go_sem,γ,δ,ε,ζ,η,θ,ι,κ,μ,ν,ξ,ο,ρ,σ,τ,υ,reduceIte,reduceCtorEq,bHF,ahB,hat,ahC,bJC]
     by_cases cz:w.length=0
     ·have:w=[]:=List.length_eq_zero_iff.1 cz
      simp only[go_sem,γ,δ,ε,ζ,η,θ,ι,κ,μ,ν,ξ,ο,ρ,σ,τ,υ,reduceIte,reduceCtorEq,bW (Om:((w.length:Nat):Int)=0),IT]
      refine no _ ?_ _ _ Ev
      rw[hE]
      exact hnoB (by rw[this]; rfl)
     ·have hne:w.isEmpty=false:=by cases w with
       | nil=>exact absurd rfl cz
       | cons x xs=>rfl
      rw[hne,bJQ,bJM] at hs hnoB
      simp only[go_sem,γ,δ,ε,ζ,η,θ,ι,κ,μ,ν,ξ,ο,ρ,σ,τ,υ,reduceIte,reduceCtorEq,bF (Om:((w.length:Nat):Int)≠0)]
      refine aA (Lb.fits f now r w hu hl Om) Ev ?_
      cases bIN:lL f now r w with
      | false =>
       simp only[go_sem,γ,δ,ε,ζ,η,θ,ι,κ,μ,ν,ξ,ο,ρ,σ,τ,υ,reduceIte,reduceCtorEq,IT]
       refine no _ ?_ _ _ Ev
       rw[hE]
       exact hnoB bIN
      | true =>
       rw[bIN] at hs
       simp only[go_sem,γ,δ,ε,ζ,η,θ,ι,κ,μ,ν,ξ,ο,ρ,σ,τ,υ,reduceIte,reduceCtorEq,ahD,wZz k]
       exact aK (k+1) ⟨hlt,hs⟩ Om Lq PH.nil_le
    ·have bHF:¬ (k:Int)<(ws.length:Nat):=by omega
     have:k=ws.length:=by omega
     subst this
     rw[bfQ] at hok
     simp only[go_sem,γ,δ,ε,ζ,η,θ,ι,κ,μ,ν,ξ,ο,ρ,σ,τ,υ,reduceIte,reduceCtorEq,bHF,ahE]
     refine no _ ?_ _ _ Ev
     rw[hE]
     exact hok
  ·rw[decide_eq_false cl,bJI,bJI] at hE
   simp only[go_sem,γ,δ,ε,ζ,η,θ,ι,κ,μ,ν,ξ,ο,ρ,σ,τ,υ,reduceIte,reduceCtorEq,cS (Om:((ws.flatten.length:Nat):Int)≠(f.bGY.length:Nat)),atC]
   exact no _ hE _ _ Ev
structure Diff (n:Nat) (l:List Int):Prop where
 nd:l.Nodup
 rng:InR l n
theorem Diff.snoc {n:Nat} {l:List Int} {d:Int} (h:Diff n l) (h0:0≤d) (h1:d<n) (hc:l.contains d=false):Diff n (l++[d]):=by
 refine⟨?_,fun x hx=>?_⟩
 ·have:=aLZ l d
  rw[hc,bJQ,bLE] at this
  have h2:acV l=true:=decide_eq_true h.nd
  rw[h2] at this
  exact of_decide_eq_true this
 ·rcases bKO.1 hx with hx | hx
  ·exact h.rng x hx
  ·rw[bKP] at hx; subst hx; exact⟨h0,h1⟩

abbrev fM (l:List Int):aJ:=(cW l 3 0).1
abbrev aZY (l:List Int):List (List Int):=(cX l (fM l) (cW l 3 0).2 (fM l).bHA.length).1
abbrev pM (l:List Int):Nat:=(cX l (fM l) (cW l 3 0).2 (fM l).bHA.length).2
abbrev aFS (l:List Int):List Int:=(eV l (fA (fM l) []) (pM l)).1
structure a4B (C:Ctx):Prop extends DF C where
 fleet:∀ l:List Int,TpM l→∀ o vols a:Nat,vols≤50→a≤1000→aD C 244 [.ptr o 2 0 0,.int .i64 vols] (PH.nil.set o (bD l a)) (fun r H=>r=.agg (cW l vols a).1.cells∧H=PH.nil.set o (bD l (cW l vols a).2))
 layout:∀ l:List Int,TpM l→∀ (o a:Nat) (f:aJ),a≤10000→FM f→VF f→1≤f.bGY.length→aD C 246 [.ptr o 2 0 0,.agg f.cells] (PH.nil.set o (bD l a)) (fun r H=>r=lay (cX l f a f.bHA.length).1∧H=PH.nil.set o (bD l (cX l f a f.bHA.length).2))
 rooms:∀ l:List Int,TpM l→∀ (o a:Nat) (f:aJ),a≤10000→f.Ok→dS f=true→1≤f.bGY.length→aD C 248 [.ptr o 2 0 0,.agg f.cells] (PH.nil.set o (bD l a)) (fun r H=>r=ints (eV l (fA f []) a).1∧H=PH.nil.set o (bD l (eV l (fA f []) a).2))
def mdC (l R:List Int) (p:Nat):Spec:=fun _ vs=>match vs with
 | .ptr o _ _ _::_=>some ([o],fun _ r H'=>r=ints R∧H'=PH.nil.set o (bD l p))
 | _=>none
def aWZ (l:List Int) (r:PV) (H:PH):Prop:=∃ o,r=.tup [.agg ((fM l).cells++[lay (aZY l),ints (aFS l)]),.ptr o 2 0 0]∧H=PH.nil.set o (bD l (eV l (fA (fM l) []) (pM l)).2)
theorem bdL {C:Ctx} (Lb:a4B C) {l:List Int} (T:TpM l):EN.wp C (aT aaC.res (aWZ l)) (PF.args [ints l]) .nil:=by
 obtain⟨hF,hvl,-,hp1⟩:=sV l (bHA:=3) (by decide) 0
 have hv:=wB l (bHA:=3) (by decide) 0
 have hd0:=aaK l 3 0
 have hV:=VF.of hv
 obtain⟨-,-,-,hp2⟩:=nK l hF (cW l 3 0).2 _ (bJF _)
 have hp2':pM l≤10000:=by
  show (cX l (cW l 3 0).1 (cW l 3 0).2 (cW l 3 0).1.bHA.length).2≤10000
  omega
 obtain⟨f,hfe⟩:∃ f,(cW l 3 0).1=f:=⟨_,rfl⟩
 obtain⟨p1,hp1e⟩:∃ p,(cW l 3 0).2=p:=⟨_,rfl⟩
 obtain⟨L,hLe⟩:∃ L,aZY l=L:=⟨_,rfl⟩
 obtain⟨p2,hp2e⟩:∃ p,pM l=p:=⟨_,rfl⟩
 obtain⟨R,hRe⟩:∃ R,aFS l=R:=⟨_,rfl⟩
 obtain⟨p3,hp3e⟩:∃ p,(eV l (fA (fM l) []) (pM l)).2=p:=⟨_,rfl⟩
 have cF:∀ o,aD C 244 [.ptr o 2 0 0,.int .i64 3] (PH.nil.set o (bD l 0)) (fun r H=>r=.agg f.cells∧H=PH.nil.set o (bD l p1)):=fun o=>by
  have:=Lb.fleet l T o 3 0 (by decide) (by decide)
  rw[hfe,hp1e] at this
  exact this
 have cL:∀ o,aD C 246 [.ptr o 2 0 0,.agg f.cells] (PH.nil.set o (bD l p1)) (fun r H=>r=lay L∧H=PH.nil.set o (bD l p2)):=fun o=>by
  have:=Lb.layout l T o (cW l 3 0).2 (cW l 3 0).1 Om hF hV hd0
  rw[show (cX l (cW l 3 0).1 (cW l 3 0).2 (cW l 3 0).1.bHA.length).1=L from hLe,show (cX l (cW l 3 0).1 (cW l 3 0).2 (cW l 3 0).1.bHA.length).2=p2 from hp2e,hfe,hp1e] at this
  exact this
 have cR:∀ o,aD C 248 [.ptr o 2 0 0,.agg f.cells] (PH.nil.set o (bD l p2)) (fun r H=>r=ints R∧H=PH.nil.set o (bD l p3)):=fun o=>by
  have:=Lb.rooms l T o (pM l) (fM l) hp2' hF.ok hv hd0
  rw[show (eV l (fA (fM l) []) (pM l)).1=R from hRe,hp3e,show fM l=f from hfe,hp2e] at this
  exact this
 have hR:∀ r H,aWZ l r H↔∃ o,r=.tup [.agg (f.cells++[lay L,ints R]),.ptr o 2 0 0]∧H=PH.nil.set o (bD l p3):=fun r H=>by
  rw[← hfe,← hLe,← hRe,← hp3e]
  exact Iff.rfl
 simp only[go_sem,γ,δ,ε,ζ,η,θ,ι,κ,μ,ν,ξ,ο,ρ,σ,τ,υ,reduceIte,reduceCtorEq,EN,awW,aaC]
 refine aQ fun o2 ho2=>?_
 have h1:aU (PH.nil.set o2 (.rows 9 [[.int .i64 0,.aB,.aB,.aB,.aB,.aB,.aB,.aB,.aB]])) [(o2,.rows 9 [[.int .i64 0,.aB,.aB,.aB,.aB,.aB,.aB,.aB,.aB]])] []:=aU.nil.new (H:=PH.nil) ho2 _
 simp only[go_sem,γ,δ,ε,ζ,η,θ,ι,κ,μ,ν,ξ,ο,ρ,σ,τ,υ,reduceIte,reduceCtorEq,awX]
 refine aQ fun o ho=>?_
 have h2:=h1.new ho (bD l 0)
 simp only[go_sem,γ,δ,ε,ζ,η,θ,ι,κ,μ,ν,ξ,ο,ρ,σ,τ,υ,reduceIte,reduceCtorEq,awY]
 refine oS (cF o) (h2.at 1 rfl) rfl ?_
 have h3:=h2.set 1 rfl (bD l p1)
 rw[PH.set_set] at h3
 simp only[go_sem,γ,δ,ε,ζ,η,θ,ι,κ,μ,ν,ξ,ο,ρ,σ,τ,υ,reduceIte,reduceCtorEq]
 refine aQ fun o5 ho5=>?_
 have h4:=h3.new ho5 (.rows 7 [f.cells])
 have n5:¬ o=o5:=h4.ne 1 2 rfl rfl (by decide)
 have n2:¬ o2=o5:=h4.ne 0 2 rfl rfl (by decide)
 have n02:¬ o2=o:=h4.ne 0 1 rfl rfl (by decide)
 have n5':¬ o5=o:=fun h=>n5 h.symm
 have n2':¬ o5=o2:=fun h=>n2 h.symm
 have n02':¬ o=o2:=fun h=>n02 h.symm
 simp only[go_sem,γ,δ,ε,ζ,η,θ,ι,κ,μ,ν,ξ,ο,ρ,σ,τ,υ,reduceIte,reduceCtorEq,awZ,bJR,bKS,or_false,forall_eq,forall_eq_or_imp]
 refine oS (cL o) (h4.at 1 rfl) rfl ?_
 have h5:=h4.set 1 rfl (bD l p2)
 have b5:=h5.at 2 rfl
 simp only[go_sem,γ,δ,ε,ζ,η,θ,ι,κ,μ,ν,ξ,ο,ρ,σ,τ,υ,reduceIte,reduceCtorEq]
 refine bU (PH.nil.set o5 (.rows 7 [f.cells])) (mdC l R p3) (PH.aI PH.nil_le b5) ?_
 simp only[go_sem,γ,δ,ε,ζ,η,θ,ι,κ,μ,ν,ξ,ο,ρ,σ,τ,υ,reduceIte,reduceCtorEq,axA,n5,n2,n02,n5',n2',n02']
 have h6:=h5.set 1 rfl (bD l p3)
 have b6:=h6.at 2 rfl
 rw[PH.set_set] at h6
 refine awN (x:=bD l p2) (y:=bD l p3) (r:=ints R) (R:=fun _ r H'=>r=ints R∧H'=PH.nil.set o (bD l p3)) rfl (h5.at 1 rfl) (cR o) ⟨rfl,rfl⟩ (fun r' H' h=>h) rfl (PH.aI PH.nil_le b6) ?_
 simp only[go_sem,γ,δ,ε,ζ,η,θ,ι,κ,μ,ν,ξ,ο,ρ,σ,τ,υ,reduceIte,reduceCtorEq,n5,n2,n02,n5',n2',n02',bJR,bKS,or_false,forall_eq,forall_eq_or_imp]
 have h7:=h6.set 0 rfl (.rows 9 [f.cells++[lay L,ints R]])
 refine⟨PH.aI PH.nil_le (h7.at 2 rfl),?_⟩
 refine aX (vs:=[.agg (f.cells++[lay L,ints R]),.ptr o 2 0 0]) (.inr rfl) (PH.nil.set o (bD l p3)) ?_ (PH.aI PH.nil_le (h7.at 1 rfl)) ?_
 ·simp only[go_sem,γ,δ,ε,ζ,η,θ,ι,κ,μ,ν,ξ,ο,ρ,σ,τ,υ,reduceIte,reduceCtorEq,n02,n02',n2,n2']
  rfl
 ·rw[hR]
  exact⟨o,rfl,rfl⟩


def auU (xs ys:List Int) (i:Nat):PF:=(((PF.nil.set 0 (ints xs)).set 1 (ints ys)).set 4 (.bool false)).set 5 (.int .i64 i)
theorem bnY {C:Ctx} (xs ys:List Int) (bIT:xs.length≤9223372036854775806):OD.wp C (aT same.res (aE (.bool (xs==ys)))) (PF.args [ints xs,ints ys]) .nil:=by
 simp only[go_sem,γ,δ,ε,ζ,η,θ,ι,κ,μ,ν,ξ,ο,ρ,σ,τ,υ,reduceIte,reduceCtorEq,OD,aST,aSU,ints,same,bJC]
 refine kO (fun h=>?_) (fun h=>?_)
 ·simp only[go_sem,γ,δ,ε,ζ,η,θ,ι,κ,μ,ν,ξ,ο,ρ,σ,τ,υ,reduceIte,reduceCtorEq,aSV]
  refine aM (.inr rfl) Ev ?_
  have:¬ xs=ys:=by rintro rfl; simp at h
  simp[aW,this]
 ·have hl:xs.length=ys.length:=by simp at h; omega
  simp only[go_sem,γ,δ,ε,ζ,η,θ,ι,κ,μ,ν,ξ,ο,ρ,σ,τ,υ,reduceIte,reduceCtorEq,aSW]
  refine wp_loop (α:=Nat) (auU xs ys) (fun _=>.nil) (fun i=>i≤xs.length∧xs.take i=ys.take i) (fun i=>xs.length-i) 0 ⟨by omega,by simp⟩ ?_ PH.nil_le ?_
  ·unfold auU
   refine PF.aI (PF.aI (PF.aI (PF.aI PF.nil_le ?_) ?_) ?_) ?_<;>simp only[go_sem,γ,δ,ε,ζ,η,θ,ι,κ,μ,ν,ξ,ο,ρ,σ,τ,υ,reduceIte,reduceCtorEq,ints]<;>rfl
  ·rintro i ⟨hi,htake⟩
   simp only[go_sem,γ,δ,ε,ζ,η,θ,ι,κ,μ,ν,ξ,ο,ρ,σ,τ,υ,reduceIte,reduceCtorEq,aSS,aSX,auU,ints,bJC]
   refine kO (fun h=>?_) (fun h=>?_)
   ·have hlt:i<xs.length:=by simpa using h
    simp only[go_sem,γ,δ,ε,ζ,η,θ,ι,κ,μ,ν,ξ,ο,ρ,σ,τ,υ,reduceIte,reduceCtorEq]
    refine bU .nil eD PH.nil_le ?_
    have hx:(xs.map fun n=>[PV.int .i64 n])[i]?=some [.int .i64 xs[i]]:=by simp[hlt]
    have hy:(ys.map fun n=>[PV.int .i64 n])[i]?=some [.int .i64 ys[i]]:=by simp[show i<ys.length by omega]
    simp only[go_sem,γ,δ,ε,ζ,η,θ,ι,κ,μ,ν,ξ,ο,ρ,σ,τ,υ,reduceIte,reduceCtorEq,aSY,bMF,Int.natCast_nonneg,hx,hy,loadCells,bJT,bJF]
    refine kO (fun h2=>?_) (fun h2=>?_)
    ·simp only[go_sem,γ,δ,ε,ζ,η,θ,ι,κ,μ,ν,ξ,ο,ρ,σ,τ,υ,reduceIte,reduceCtorEq,aSZ]
     refine aM (.inr rfl) Ev ?_
     have hne:xs[i]≠ys[i]:=by simpa using h2
     have:¬ xs=ys:=by rintro rfl; simp at hne
     simp[aW,this]
    ·have he:xs[i]=ys[i]:=by simpa using h2
     simp only[go_sem,γ,δ,ε,ζ,η,θ,ι,κ,μ,ν,ξ,ο,ρ,σ,τ,υ,reduceIte,reduceCtorEq,aTA]
     refine aK (i+1) ⟨by omega,?_⟩ Om ?_ PH.nil_le
     ·rw[bLC hlt,bLC (by omega:i<ys.length),htake,he]
     ·unfold auU
      have hw:IntKind.i64.wrap ((i:Int)+1)=((i+1:Nat):Int):=by
       exact dE Om
      refine PF.aI (PF.aI (PF.aI (PF.aI PF.nil_le ?_) ?_) ?_) ?_<;>simp only[go_sem,γ,δ,ε,ζ,η,θ,ι,κ,μ,ν,ξ,ο,ρ,σ,τ,υ,reduceIte,reduceCtorEq,ints,hw]
   ·have hge:i=xs.length:=by simp at h; omega
    simp only[go_sem,γ,δ,ε,ζ,η,θ,ι,κ,μ,ν,ξ,ο,ρ,σ,τ,υ,reduceIte,reduceCtorEq,aTB]
    refine aM (.inr rfl) Ev ?_
    subst hge
    have:xs=ys:=by
     rw[bKB] at htake
     rw[htake,hl,bKB]
    simp[aW,this]


structure a4D (C:Ctx):Prop where
 within:∀ x n:Int,InK .i64 n→aD C 24 [.int .i64 x,.int .i64 n] .nil (aE (.int .i64 (wi x n)))
 awak:aD C 26 [] .nil (aE (.bool true))
 made:∀ l:List Int,TpM l→aD C 249 [ints l] .nil (aWZ l)
theorem bBG:InK .i64 2:=⟨by decide,by decide⟩
structure aWY (f:aJ) (L:List (List Int)):Prop where
 ok:f.Ok
 val:dS f=true
 lay:iV L
 shp:tK f L
theorem bjN (l:List Int):aWY (fM l) (aZY l) :=
 {val:=wB l (bHA:=3) (by decide) 0
  ok:=(sV l (bHA:=3) (by decide) 0).1.ok
  shp:=a5W l 3 0 (cW l 3 0).2 (by decide)
  lay:=(a5W l 3 0 (cW l 3 0).2 (by decide)).ok (VF.of (wB l (bHA:=3) (by decide) 0)) }

theorem tK.move {f:aJ} {L:List (List Int)} (h:tK f L) {x k d:Nat} (hx:x<L.length) (hd:d<f.bGY.length):tK f (L.set x (L[x].set k d)):=by
 refine⟨by rw[bLA]; exact h.len,fun v hv=>?_,fun r hr=>?_⟩
 ·rw[bLA] at hv
  have:=h.row v hv
  rw[List.getElem_set]
  split
  ·rename_i e
   subst e
   rw[bLA]; exact this
  ·exact this
 ·rcases List.mem_or_eq_of_mem_set hr with hr | rfl
  ·exact h.home r hr
  ·intro y hy
   rcases List.mem_or_eq_of_mem_set hy with hy | rfl
   ·exact h.home _ (bJG hx) y hy
   ·omega

theorem a8T (f:aJ) (l:List (List Int)) (v:Nat):(lE f l v).isNone=(decide (((l.getD v []).length:Int)=eY f v)&&!decide (DI f (l.getD v [])≥0)):=by
 unfold lE DI
 split
 ·rename_i c
  rw[decide_eq_true c]
  cases eS (jA f) (l.getD v []) 0 with
  | none=>rfl
  | some i=>simp
 ·rename_i c
  rw[decide_eq_false c]; rfl
def ssS (f:aJ) (row:List Int):Spec:=fun name vs=>match name,vs with
 | 89,_=>some ([],fun _=>aE (.int .i64 (DI f row)))
 | 82,[_,.int _ v]=>some ([],fun _=>aE (.int .i64 (eY f v.toNat)))
 | _,_=>none
theorem bhJ (f:aJ) (row:List Int) (v:Nat):ssS f row 82 [.agg f.cells,.int .i64 v]=some ([],fun _=>aE (.int .i64 (eY f v))):=rfl




theorem aZE {f:aJ} (hv:dS f=true) {l:List (List Int)} (hS:tK f l):iU f l=true:=by
 unfold iU
 rw[hv,decide_eq_true hS.len,bJM,bJM,bJW]
 intro v hm
 rw[hS.shape (bKE.1 hm)]
 rfl
theorem bkB (x:Int) {n:Int} (hn:1≤n):0≤wi x n∧wi x n<n:=by
 have h1:=Int.tmod_lt_of_pos x (Om:0<n)
 have h2:=Int.lt_tmod_of_pos x (Om:0<n)
 unfold wi
 rw[if_neg Om]
 split<;>omega
theorem aWY.usable {f:aJ} {L:List (List Int)} (h:aWY f L) {r:Int} (h0:0≤r) (h4:r≤4):fE f L r=true:=by
 unfold fE
 rw[h.val,aZE h.val h.shp,decide_eq_true h0,decide_eq_true h4]
 rfl
theorem bgR {f:aJ} {now:List (List Int)} {r:Int} (hu:fE f now r=true):∀ v,v<now.length→(∀ d∈now.getD v [],d<(f.bGY.length:Int))∧0≤(dM f v).k+r:=fun v hv=>by
 have:=uO hu hv
 exact⟨this.2.1,by omega⟩
theorem bvB (l:List Int):(eV l (fA (fM l) []) (pM l)).2≤20000:=by
 obtain⟨hF,hvl,-,hp1⟩:=sV l (bHA:=3) (by decide) 0
 obtain⟨-,-,-,hp2⟩:=nK l hF (cW l 3 0).2 _ (bJF _)
 have hp2':pM l≤10000:=by
  show (cX l (cW l 3 0).1 (cW l 3 0).2 (cW l 3 0).1.bHA.length).2≤10000
  omega
 have h1:=(UT l (fA (fM l) []) (pM l)).2.2
 have h2:=yD (fM l) []
 have h3:=(VF.of (bjN l).val).small.bGY
 omega
theorem aU.aB {H:PH} {B:List BX} {L:List LI} (h:aU H B L):∀ m,aU H B (L++mD (bJE m (.aB,[])))
 | 0=>by
  show aU H B (L++[])
  rw[bLD]; exact h
 | m+1=>by
  have:=(aU.aB h m).rR 1
  rw[bKD] at this
  have e:mD (bJE (m+1) (PV.aB,([]:List Int)))=mD (bJE m (.aB,[]))++[(.aB,1,[])]:=by
   unfold mD
   rw[List.replicate_succ',bLS]
   rfl
  rw[e]
  exact this
structure bcS (C:Ctx):Prop extends a4D C where
 next:∀ l:List Int,TpM l→∀ o n a:Nat,n≤1000000→a≤1000000→aD C 240 [.ptr o 2 0 0,.int .i64 n] (PH.nil.set o (bD l a)) (QO l o n a)
 bound:∀ (f:aJ) (now:List (List Int)) (r:Int),f.Ok→iV now→aD C 264 [.agg f.cells,lay now,.int .i64 r] .nil (aE (aHD (sS f now r) (pB f now r)))
 check:∀ (f:aJ) (now:List (List Int)) (r:Int) (ws:List (List Int)),f.Ok→iV now→ws.length≤1000000→ws.flatten.length≤1000000→aD C 265 [.agg f.cells,lay now,.int .i64 r,lists ws] .nil (aE (.bool (oK f now r ws)))
theorem a5X {C:Ctx} (Lb:bcS C) (l:List Int) (T:TpM l) (rv:Int) (ord:List Int) :
  zK.wp C (aT MG.res (aE (.bool true))) (PF.args [ints l,.int .i64 rv,ints ord]) .nil:=by
 have hC:=bjN l
 have hp3:=bvB l
 simp only[go_sem,γ,δ,ε,ζ,η,θ,ι,κ,μ,ν,ξ,ο,ρ,σ,τ,υ,reduceIte,reduceCtorEq,zK,anV,anW,MG,bJC]
 by_cases c:((ord.length:Nat):Int)>40
 ·simp only[go_sem,γ,δ,ε,ζ,η,θ,ι,κ,μ,ν,ξ,ο,ρ,σ,τ,υ,reduceIte,reduceCtorEq,c,anX]
  refine aA Lb.awak Ev ?_
  simp only[go_sem,γ,δ,ε,ζ,η,θ,ι,κ,μ,ν,ξ,ο,ρ,σ,τ,υ,reduceIte,reduceCtorEq]
  refine aM (.inr rfl) Ev ?_
  rfl
 simp only[go_sem,γ,δ,ε,ζ,η,θ,ι,κ,μ,ν,ξ,ο,ρ,σ,τ,υ,reduceIte,reduceCtorEq,c,anY]
 refine eO (Lb.made l T) Sq PH.nil_le ?_
 rintro _ _ ⟨o,rfl,rfl⟩ hap
 obtain⟨R,hR⟩:∃ R,aFS l=R:=⟨_,rfl⟩
 rw[hR]
 generalize (eV l (fA (fM l) []) (pM l)).2=p3 at *
 generalize aZY l=L at *
 generalize fM l=f at *
 rw[PH.jD]
 have h1:aU (PH.nil.set o (bD l p3)) [(o,bD l p3)] []:=aU.nil.new (H:=PH.nil) rfl (bD l p3)
 have hd:=(VF.of hC.val).small.bGY
 simp only[go_sem,γ,δ,ε,ζ,η,θ,ι,κ,μ,ν,ξ,ο,ρ,σ,τ,υ,reduceIte,reduceCtorEq]
 refine aQ fun o7 ho7=>?_
 have h2:=h1.new ho7 (.rows 9 [f.cells++[lay L,ints R]])
 have b7:=h2.at 1 rfl
 have bo:=h2.at 0 rfl
 generalize hHe:(PH.nil.set o (bD l p3)).set o7 (.rows 9 [f.cells++[lay L,ints R]])=H at *
 simp only[go_sem,γ,δ,ε,ζ,η,θ,ι,κ,μ,ν,ξ,ο,ρ,σ,τ,υ,reduceIte,reduceCtorEq,anZ,List.cons_append,bMC,bJR,bKS,or_false,forall_eq,forall_eq_or_imp]
 rw[show ((PH.nil.set o (bD l p3)).set o7 (.rows 9 [[PV.int IntKind.i64 f.bIM,PV.sl 4 (List.map cM.cells f.bHH),PV.sl 4 (List.map cU.cells f.bGZ),PV.sl 7 (List.map bN.cells f.bHB),PV.sl 3 (List.map cC.cells f.bGY),PV.sl 17 (List.map dA.cells f.bHC),PV.sl 2 (List.map dY.cells f.bHA),lay L,ints R]]))=H from hHe]
 refine aA (Lb.within rv 2 bBG) Ev ?_
 have hr:=bkB rv (show (1:Int)≤2 by decide)
 have hu:=hC.usable hr.1 (Om:wi rv 2≤4)
 generalize wi rv 2=r at *
 simp only[go_sem,γ,δ,ε,ζ,η,θ,ι,κ,μ,ν,ξ,ο,ρ,σ,τ,υ,reduceIte,reduceCtorEq,aoA,b7,List.cons_append,bMC]
 refine aA (Lb.bound f L r hC.ok hC.lay) Ev ?_
 by_cases c:pB f L r≠0
 ·simp only[go_sem,γ,δ,ε,ζ,η,θ,ι,κ,μ,ν,ξ,ο,ρ,σ,τ,υ,reduceIte,reduceCtorEq,aHD,MH,cS c,aoB]
  refine aA Lb.awak Ev ?_
  simp only[go_sem,γ,δ,ε,ζ,η,θ,ι,κ,μ,ν,ξ,ο,ρ,σ,τ,υ,reduceIte,reduceCtorEq]
  refine aM (.inr rfl) Ev ?_
  rfl
 have c:pB f L r=0:=Decidable.not_not.1 c
 have eb:sS f L r=fO f L r L.length:=by unfold sS; rw[if_pos c]
 obtain⟨-,ha⟩:=amV c
 have hfin:∀ ws:List (List Int),oK f L r ws=true→sS f L r≤ws.length:=fun ws h=>by
  unfold oK at h
  rw[hu,bJM,bJZ] at h
  rw[eb]
  exact awJ h.1 h.2 ha (bgR hu) _ (bJF _)
 generalize sS f L r=n at *
 simp only[go_sem,γ,δ,ε,ζ,η,θ,ι,κ,μ,ν,ξ,ο,ρ,σ,τ,υ,reduceIte,reduceCtorEq,aHD,MH,c,cG (show (0:Int)=0 from rfl),aoC]
 refine oS (Lb.next l T o 4 p3 (by decide) Om) bo (by simp only[go_sem,γ,δ,ε,ζ,η,θ,ι,κ,μ,ν,ξ,ο,ρ,σ,τ,υ,reduceIte,reduceCtorEq]; rfl) ?_
 have hm4:=cK l (show 0<4 by decide) p3
 have h3:=h2.set 0 rfl (bD l (p3+1))
 obtain⟨m,hm⟩:∃ m,nxM l 4 p3+1=m:=⟨_,rfl⟩
 have hw:IntKind.i64.wrap (1+((nxM l 4 p3:Nat):Int))=(m:Int):=by
  rw[wrap_i64 Om Om]; omega
 simp only[go_sem,γ,δ,ε,ζ,η,θ,ι,κ,μ,ν,ξ,ο,ρ,σ,τ,υ,reduceIte,reduceCtorEq,hw,show (0:Int)≤m by omega,show (m:Int)*((24:Nat):Int)≤140737488355328 by omega,show (m:Int)≤9223372036854775807 by omega,Int.le_refl,bMF]
 refine aQ fun q hq=>?_
 have h4:=(h3.aZS (s:=1) (rows:=bJE m [.aB]) hq).aB m
 have e4:[]++[(PV.osl q 1 0 (bJE m [PV.aB]).length,1,bJE m [PV.aB])]++mD (bJE m (PV.aB,([]:List Int)))=kK (.osl q 1 0 m) (bJE m (.aB,[])):=by
  unfold kK gD
  rw[List.map_replicate,bMG]
  rfl
 rw[e4] at h4
 have hB:(([(o,bD l p3)]++[(o7,cQ.rows 9 [f.cells++[lay L,ints R]])]).set 0 (o,bD l (p3+1)))=[(o,bD l (p3+1)),(o7,.rows 9 [f.cells++[lay L,ints R]])]:=rfl
 rw[hB] at h4
 simp only[go_sem,γ,δ,ε,ζ,η,θ,ι,κ,μ,ν,ξ,ο,ρ,σ,τ,υ,reduceIte,reduceCtorEq,aoD]
 refine wp_loop (α:=Nat × Nat × WPs × PH) (fun s=>(((((((PF.nil.set 2 (ints ord)).set 7 (.ptr o7 9 0 0)).set 8 (.ptr o 2 0 0)).set 9 (.int .i64 r)).set 10 (.int .i64 n)).set 12 (.osl q 1 0 m)).set 13 (.int .i64 s.1))) (fun s=>s.2.2.2)
  (fun s=>s.1≤f.bGY.length∧s.2.1≤p3+1+s.1∧s.2.2.1.length=m∧(wls s.2.2.1).flatten.length≤s.1∧aU s.2.2.2 [(o,bD l s.2.1),(o7,.rows 9 [f.cells++[lay L,ints R]])] (kK (.osl q 1 0 m) s.2.2.1)) (fun s=>f.bGY.length-s.1) (0,p3+1,bJE m (.aB,[]),_)
  ⟨bJO _,bJF _,bMG,?_,h4⟩ Lq PH.le_refl ?_
 ·simp only
  unfold wls
  rw[List.map_replicate]
  have:(bJE m ([]:List Int)).flatten=[]:=by simp
  rw[this]; exact bJF _
 clear h4 h3 h2 h1 hHe b7 bo
 rintro⟨d,a,ps,H⟩ ⟨hdn,hpa,hpl,hfl,hH⟩
 simp only at hdn hpa hpl hfl hH ⊢
 have b7:=hH.at 1 rfl
 have bo:=hH.at 0 rfl
 simp only[go_sem,γ,δ,ε,ζ,η,θ,ι,κ,μ,ν,ξ,ο,ρ,σ,τ,υ,reduceIte,reduceCtorEq,abR,abS,b7,List.cons_append,bMC,bJC]
 by_cases hlt:d<f.bGY.length
 ·have bHF:(d:Int)<(f.bGY.length:Nat):=by omega
  have hml:=cK l (Om:0<m) a
  simp only[go_sem,γ,δ,ε,ζ,η,θ,ι,κ,μ,ν,ξ,ο,ρ,σ,τ,υ,reduceIte,reduceCtorEq,bHF,abT]
  refine oS (Lb.next l T o m a Om Om) bo Sq ?_
  have h5:=hH.set 0 rfl (bD l (a+1))
  rw[show [(o,bD l a),(o7,cQ.rows 9 [f.cells++[lay L,ints R]])].set 0 (o,bD l (a+1))=[(o,bD l (a+1)),(o7,.rows 9 [f.cells++[lay L,ints R]])] from rfl] at h5
  generalize H.set o (bD l (a+1))=H2 at h5
  clear hH b7 bo
  have put:∀ (k:Nat) (F':PF),k<m→(((((((((PF.nil.set 2 (ints ord)).set 7 (.ptr o7 9 0 0)).set 8 (.ptr o 2 0 0)).set 9 (.int .i64 r)).set 10 (.int .i64 n)).set 12 (.osl q 1 0 m)).set 13 (.int .i64 d)).set 14 (.int .i64 k))).le F'→wpOps C GA
    (dU 1 (gY C (aC.wp C (aC.region GB)) (eA (fun s:Nat × Nat × WPs × PH=>(((((((PF.nil.set 2 (ints ord)).set 7 (.ptr o7 9 0 0)).set 8 (.ptr o 2 0 0)).set 9 (.int .i64 r)).set 10 (.int .i64 n)).set 12 (.osl q 1 0 m)).set 13 (.int .i64 s.1))) (fun s=>s.2.2.2)
     (fun s=>s.1≤f.bGY.length∧s.2.1≤p3+1+s.1∧s.2.2.1.length=m∧(wls s.2.2.1).flatten.length≤s.1∧aU s.2.2.2 [(o,bD l s.2.1),(o7,.rows 9 [f.cells++[lay L,ints R]])] (kK (.osl q 1 0 m) s.2.2.1)) (fun s=>f.bGY.length-s.1) (f.bGY.length-d)
     (dU 0 (gY C (aC.wp C ((aC.region GC).seq aC.ret)) (aT [dV.tmp 6] (aE (PV.bool true))))))) .normal) F' H2:=by
   intro k F' hk hF'
   have g2:=hF' 2 _ (by simp only[go_sem,γ,δ,ε,ζ,η,θ,ι,κ,μ,ν,ξ,ο,ρ,σ,τ,υ,reduceIte,reduceCtorEq]; rfl)
   have g7:=hF' 7 _ (by simp only[go_sem,γ,δ,ε,ζ,η,θ,ι,κ,μ,ν,ξ,ο,ρ,σ,τ,υ,reduceIte,reduceCtorEq]; rfl)
   have g8:=hF' 8 _ (by simp only[go_sem,γ,δ,ε,ζ,η,θ,ι,κ,μ,ν,ξ,ο,ρ,σ,τ,υ,reduceIte,reduceCtorEq]; rfl)
   have g9:=hF' 9 _ (by simp only[go_sem,γ,δ,ε,ζ,η,θ,ι,κ,μ,ν,ξ,ο,ρ,σ,τ,υ,reduceIte,reduceCtorEq]; rfl)
   have g10:=hF' 10 _ (by simp only[go_sem,γ,δ,ε,ζ,η,θ,ι,κ,μ,ν,ξ,ο,ρ,σ,τ,υ,reduceIte,reduceCtorEq]; rfl)
   have g12:=hF' 12 _ (by simp only[go_sem,γ,δ,ε,ζ,η,θ,ι,κ,μ,ν,ξ,ο,ρ,σ,τ,υ,reduceIte,reduceCtorEq]; rfl)
   have g13:=hF' 13 _ (by simp only[go_sem,γ,δ,ε,ζ,η,θ,ι,κ,μ,ν,ξ,ο,ρ,σ,τ,υ,reduceIte,reduceCtorEq]; rfl)
   have g14:=hF' 14 _ (by simp only[go_sem,γ,δ,ε,ζ,η,θ,ι,κ,μ,ν,ξ,ο,ρ,σ,τ,υ,reduceIte,reduceCtorEq]; rfl)
   have klt:k<ps.length:=by omega
   have klt':(k:Int)<(m:Nat):=by omega
   obtain⟨qo,rs,e,b1,b2,b3⟩:=h5.brH klt
   cases e
   have hpi:ps[k]?=some (ps[k].1,ps[k].2):=by rw[bJN klt]
   have hwl:(ps[k].2).length≤(wls ps).flatten.length:=(List.sublist_flatten_of_mem (bKI.2 ⟨ps[k],bJG klt,rfl⟩)).length_le
   have bIV:(wls (ps.set k (PV.aB,ps[k].2++[(d:Int)]))).flatten.length=(wls ps).flatten.length+1:=by
    have e1:wls (ps.set k (PV.aB,ps[k].2++[(d:Int)]))=(wls ps).set k ((wls ps).getD k []++[(d:Int)]):=by
     unfold wls
     rw[List.map_set,bJX,bKH,hpi]
     rfl
    rw[e1,(set_perm (wls ps) k d (by rw[alI]; exact klt)).length_eq,bJL]
    rfl
   simp only[go_sem,γ,δ,ε,ζ,η,θ,ι,κ,μ,ν,ξ,ο,ρ,σ,τ,υ,reduceIte,reduceCtorEq,GA,g12,g13,g14,klt',b1,b2,b3,bKC]
   refine h5.bvC (src:=[(d:Int)]) hpi (by simp only[go_sem,γ,δ,ε,ζ,η,θ,ι,κ,μ,ν,ξ,ο,ρ,σ,τ,υ,reduceIte,reduceCtorEq]; rfl) (by unfold roomFor; simp only[bJT,maxLen]; omega) (by simp) fun q2 H3 h6=>?_
   obtain⟨rs2,e1,e2,e3,h7⟩:=h6.bsC
   have il2:k<rs2.length:=by omega
   have hat2:rs2[k]?=some [ps[k].1]:=by
    have:=aEL hpi
    rw[← e3,bMS Om] at this
    exact this
   simp only[go_sem,γ,δ,ε,ζ,η,θ,ι,κ,μ,ν,ξ,ο,ρ,σ,τ,υ,reduceIte,reduceCtorEq,e1,il2,hat2,klt',g12,g13,g14,bKC,bJR,bKS,or_false,forall_eq,GB,wZz d]
   refine aK (d+1,a+1,ps.set k (PV.osl q2 1 0 (ps[k].2++[(d:Int)]).length,ps[k].2++[(d:Int)]),H3.set q (.rows 1 (rs2.set k [.osl q2 1 0 (ps[k].2++[(d:Int)]).length]))) ⟨hlt,by simp only; omega,by simp only; rw[bLA],?_,h7⟩ (by simp only; omega) (by (repeat' (first|exact PF.nil_le|refine PF.aI ?_ ?_))<;>first|(simp only[go_sem,γ,δ,ε,ζ,η,θ,ι,κ,μ,ν,ξ,ο,ρ,σ,τ,υ,reduceIte,reduceCtorEq,g2,g7,g8,g9,g10,g12]<;>rfl)|rfl) (by simp only; exact PH.le_refl)
   have e5:wls (ps.set k (PV.osl q2 1 0 (ps[k].2++[(d:Int)]).length,ps[k].2++[(d:Int)]))=wls (ps.set k (PV.aB,ps[k].2++[(d:Int)])):=by
    unfold wls
    rw[List.map_set,List.map_set]
   simp only
   rw[e5,bIV]
   omega
  simp only[aC.wp,go_sem] at put
  by_cases c2:(d:Int)<(ord.length:Nat)
  ·have c2n:d<ord.length:=by omega
   have hat:(ord.map fun n=>[PV.int .i64 n])[d]?=some [.int .i64 ord[d]]:=by simp[c2n]
   have hki:=bkB ord[d] (Om:(1:Int)≤m)
   obtain⟨k,hk⟩:=Int.eq_ofNat_of_zero_le hki.1
   have cw:=Lb.within ord[d] m (by unfold InK; rw[show IntKind.i64.min=-9223372036854775808 by decide,show IntKind.i64.max=9223372036854775807 by decide]; omega)
   rw[hk] at cw
   simp only[go_sem,γ,δ,ε,ζ,η,θ,ι,κ,μ,ν,ξ,ο,ρ,σ,τ,υ,reduceIte,reduceCtorEq,FZ,c2,bJC,abU,hat]
   refine aA cw Ev ?_
   simp only[go_sem,γ,δ,ε,ζ,η,θ,ι,κ,μ,ν,ξ,ο,ρ,σ,τ,υ,reduceIte,reduceCtorEq]
   refine put k _ Om Lq
  ·simp only[go_sem,γ,δ,ε,ζ,η,θ,ι,κ,μ,ν,ξ,ο,ρ,σ,τ,υ,reduceIte,reduceCtorEq,FZ,c2,bJC]
   refine put (nxM l m a) _ hml Lq
 ·have bHF:¬ (d:Int)<(f.bGY.length:Nat):=by omega
  have:d=f.bGY.length:=by omega
  subst this
  simp only[go_sem,γ,δ,ε,ζ,η,θ,ι,κ,μ,ν,ξ,ο,ρ,σ,τ,υ,reduceIte,reduceCtorEq,bHF,GC]
  refine aA Lb.awak Ev ?_
  have hwl:=alI ps
  have hf2:=hfin (wls ps)
  simp only[go_sem,γ,δ,ε,ζ,η,θ,ι,κ,μ,ν,ξ,ο,ρ,σ,τ,υ,reduceIte,reduceCtorEq,b7,List.cons_append,bMC]
  have cc:=aD.beZ (C:=C) (name:=265) (pre:=[.agg f.cells,lay L,.int .i64 r]) (v:=.bool (oK f L r (wls ps))) (.bool _) (fun x hx=>by
    simp only[bJR,bKS,or_false] at hx
    rcases hx with rfl | rfl | rfl
    ·exact fun _ _ _=>rfl
    ·exact .sl _ _
    ·exact .int _ _) hH (Lb.check f L r (wls ps) hC.ok hC.lay Om Om)
  refine eO cc (by simp only[go_sem,γ,δ,ε,ζ,η,θ,ι,κ,μ,ν,ξ,ο,ρ,σ,τ,υ,reduceIte,reduceCtorEq]; rfl) (CK H _) ?_
  rintro r' H' ⟨rfl,rfl⟩ -
  rw[PH.NO _ (CK H _)]
  cases hcp:oK f L r (wls ps) with
  | false =>
   simp only[go_sem,γ,δ,ε,ζ,η,θ,ι,κ,μ,ν,ξ,ο,ρ,σ,τ,υ,reduceIte,reduceCtorEq]
   refine aM (.inr rfl) Ev ?_
   rfl
  | true =>
   have:=hf2 hcp
   simp only[go_sem,γ,δ,ε,ζ,η,θ,ι,κ,μ,ν,ξ,ο,ρ,σ,τ,υ,reduceIte,reduceCtorEq,show (m:Int)≥n by omega]
   refine aM (.inr rfl) Ev ?_
   rfl
end Go.PM
