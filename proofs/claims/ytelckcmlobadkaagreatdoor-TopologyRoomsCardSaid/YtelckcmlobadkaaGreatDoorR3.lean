/-
  Texts of ours, joined: FrW2 FrW3 FrW4 FlCode Pm33 FlW1 FlPlain FlW2 Pm34 R1W1 R1W2 R1W3 R1W4 FlW3 FlW4 FlW5 FlW6 FlW7 FlW8 FlW9 ToPlain MkPlain Mv1 Mv2 Mv3 Mv4 ToCode ToW1. No condition.
-/
import Derived.Test.YtelckcmlobadkaaGreatDoorR1
import Derived.Test.YtelckcmlobadkaaGreatDoorR2
import Derived.Lib.ItoaNum
set_option linter.unusedSimpArgs false
set_option linter.unusedVariables false
open Nat renaming reduceEqDiff → γ, reduceAdd → δ, reduceSub → ε, reduceMul → ζ, reduceLT → η, reduceLeDiff → θ, reduceBEq → τ
open Int renaming reduceLT → ι, reduceLE → κ, reduceEq → μ, reduceToNat → ν, reduceAdd → ξ, reduceNeg → ο, reduceBEq → ρ, reduceBNe → σ
open List renaming reduceReplicate → υ
open List renaming length_map → bgR, replicate → bgT, length_append → bgU, length_singleton → bgX, getElem_mem → bgY, mem_cons → bhB, getElem?_eq_getElem → bhD, take_of_length_le → bhF, length_take → bhH, not_mem_nil → bhJ, range → bhL, getD_eq_getElem?_getD → bhN, drop_zero → bhT, append_assoc → bhV, mem_map → bhW, map_cons → bhY, getElem?_eq_none → biA, take_length → biB, all_eq_true → biC, getElem?_eq_some_iff → biD, getElem?_map → biG, getElem_of_mem → biH, getElem_map → biJ, mem_append → biK, append_nil → biL, length_drop → biM, map_append → biN, drop_eq_getElem_cons → biP, map_nil → biQ, Sublist → biV, length_nil → biX, mem_range → biY, length_set → bjB, mem_of_getElem? → bjC, take_append_drop → bjD, length_cons → bjE, nodup_append → bjF, take_succ_eq_append_getElem → bjG, ext_getElem → bjM, getElem?_append_left → bjN, getElem?_append_right → bjP, getElem?_take → bjQ, set_append_right → bjR, drop_of_length_le → bjX
open Nat renaming gcd → bgS, le_refl → bgV, mul_add → bhA, zero_le → bhC, lt_or_ge → bhG, mul_assoc → bhI, mul_comm → bhM, add_mul → bhQ, mul_le_mul_right → bhR, zero_add → bhS, mod_eq_of_lt → bhU, mod_lt → bhX, pow_succ → biE, min_eq_left → biO, add_assoc → biR, add_zero → biS, mul_le_mul_left → biT, eq_zero_or_pos → biW, pos_of_ne_zero → biZ, pow_pos → bjA, div_lt_iff_lt_mul → bjH, le_trans → bjI, div_le_self → bjO, div_add_mod → bjS, div_eq_of_lt → bjT
open Option renaming map_eq_some_iff → bgW, map_some → bhZ, some → biU, getD_some → bjK, bind_eq_some_iff → bjU, bind_some → bjY
open Bool renaming not_true → bgZ, false_and → bhE, not_false → bhK, and_eq_true → bhO, true_and → bhP, and_false → biI, and_true → bjL, false_eq_true → bjW
open Array renaming replicate → biF, length_toList → bjJ, getElem?_eq_getElem → bjV, getElem?_eq_some_iff → bjZ
namespace Go.PM
open Go Go.Na
abbrev vX (e:Int):PV:=.tup [.agg (eX false [] []),.int .i64 e]
abbrev aJM (neg:Bool) (a b:Nat):PV:=.tup [.agg (eX neg (aG a) (aG b)),.int .i64 0]
def CI (neg:Bool) (a b:Nat):PV :=
 if cA (a/bgS a b)>4096∨cA (b/bgS a b)>4096 then vX 2 else aJM (neg&&decide (a/bgS a b≠0)) (a/bgS a b) (b/bgS a b)
theorem lD {res:List dE} {F:PF} {H:PH} {e:Int} (h:dE.evs F H res=some [.agg [.bool false,.nils,.nils],.int .i64 e]):aX res (bY (vX e)) .ret F H :=
 aW (.inr rfl) .nil h PH.nil_le ⟨CoL.tup (.cons (CoL.agg (.cons (.refl _) (.cons (.nil 1) (.cons (.nil 1) .nil)))) (.cons (.refl _) .nil)),rfl⟩
theorem alB {n:Nat}:cA n>1↔n>1:=by
 have:=jV n 1
 omega
theorem aQG {a n:Nat} (g:Nat) (h:nl a≤n):nl (a/g)≤n:=bjI (gM (bjO _ _)) h
theorem GT {C:Ctx} (L:pI C) (neg:Bool) (a b:List Nat) (ha:Lim a) (hb:Lim b) (la:a.length≤16777216) (lb:b.length≤16777216) (o:Nat) (F:PF) (H:PH)
  (f0:F 0=some (.bool neg)) (f1:F 1=some (aF a)) (f2:F 2=some (aF b)) (f6:F 6=some (.ptr o 3 0 0)) (f7:F 7=some (.int .i64 0)) (hH:H o=some (.rows 3 [[.bool false,.nils,.nils]])) :
  aD.wp C (.seq (.seq (.region BC) (.cond (.tmp 40) (.seq (.region sX) .ret) .skip)) (.seq (.region BD) .ret)) (aX mU.res (bY (if cA (val a)>4096∨cA (val b)>4096 then vX 2 else aJM (neg&&decide (val a≠0)) (val a) (val b)))) F H:=by
 have fin:∀ (r:List (List PV)) F H,F 6=some (.ptr o 3 0 0)→F 7=some (.int .i64 2)→H o=some (.rows 3 [[.bool false,.nils,.nils]])→aX mU.res (bY (vX 2)) .ret F H:=by
  intro r F H h6 h7 h
  refine lD ?_
  simp -implicitDefEqProofs only[go_sem,δ,mU,h6,h7,h]
 simp -implicitDefEqProofs only[go_sem,BC,f1]
 refine aB (L.bits a ha la) rfl ?_
 by_cases c1:cA (val a)>4096
 ·have c1':((cA (val a):Nat):Int)>4096:=by omega
  rw[if_pos (.inl c1)]
  simp -implicitDefEqProofs only[go_sem,δ,γ,c1',sX,f6,hH]
  exact fin [] _ _ (by simp -implicitDefEqProofs only[go_sem,γ,f6]) rfl (by simp -implicitDefEqProofs only[go_sem])
 ·have c1':¬ ((cA (val a):Nat):Int)>4096:=by omega
  simp -implicitDefEqProofs only[go_sem,γ,c1',f2]
  refine aB (L.bits b hb lb) rfl ?_
  by_cases c2:cA (val b)>4096
  ·have c2':((cA (val b):Nat):Int)>4096:=by omega
   rw[if_pos (.inr c2)]
   simp -implicitDefEqProofs only[go_sem,δ,γ,reduceCtorEq,c2',sX,f6,hH]
   exact fin [] _ _ (by simp -implicitDefEqProofs only[go_sem,γ,f6]) rfl (by simp -implicitDefEqProofs only[go_sem])
  ·have c2':¬ ((cA (val b):Nat):Int)>4096:=by omega
   rw[if_neg (by omega)]
   have last:∀ F:PF,F 1=some (aF a)→F 2=some (aF b)→F 6=some (.ptr o 3 0 0)→∀ (q:Bool),q=(neg&&decide (val a≠0))→F 47=some (.bool q) →
     True:=fun _ _ _ _ _ _ _=>trivial
   simp -implicitDefEqProofs only[go_sem,γ,reduceCtorEq,c2',BD,f0,f1,f2,f6,hH]
   cases neg with
   | false =>
    simp -implicitDefEqProofs only[go_sem,γ,reduceCtorEq,f0,f1,f2,f6,hH]
    refine aB (L.trim a ha la) rfl ?_
    simp -implicitDefEqProofs only[go_sem,γ,f0,f1,f2,f6,hH]
    refine aB (L.trim b hb lb) rfl ?_
    simp -implicitDefEqProofs only[go_sem,δ,γ,θ,f0,f1,f2,f6,hH,bhE]
    refine aW (.inr rfl) .nil (vs:=[.agg (eX false (aG (val a)) (aG (val b))),.int .i64 0]) ?_ PH.nil_le ⟨.refl _,rfl⟩
    simp -implicitDefEqProofs only[go_sem,δ,γ,mU,f6,hH]
   | true =>
    simp -implicitDefEqProofs only[go_sem,γ,f0,f1,f2,f6,hH]
    refine aB (L.bits a ha la) rfl ?_
    have e:decide (((cA (val a):Nat):Int)>0)=decide (val a≠0):=by
     have:=@gT (val a)
     rw[decide_eq_decide]; omega
    simp -implicitDefEqProofs only[go_sem,γ,f0,f1,f2,f6,hH,e]
    refine aB (L.trim a ha la) rfl ?_
    simp -implicitDefEqProofs only[go_sem,γ,f0,f1,f2,f6,hH]
    refine aB (L.trim b hb lb) rfl ?_
    simp -implicitDefEqProofs only[go_sem,δ,γ,θ,f0,f1,f2,f6,hH,bhP]
    refine aW (.inr rfl) .nil (vs:=[.agg (eX (decide (val a≠0)) (aG (val a)) (aG (val b))),.int .i64 0]) ?_ PH.nil_le ⟨.refl _,rfl⟩
    simp -implicitDefEqProofs only[go_sem,δ,γ,mU,f6,hH]
theorem aJG {C:Ctx} (L:pI C) (neg:Bool) (a b:List Nat) (ha:Lim a) (hb:Lim b) (la:a.length≤16777216) (lb:b.length≤16777216) (na:nl (val a)≤512) (nb:nl (val b)≤512) (h0:val b≠0) :
  uO.wp C (aX mU.res (bY (CI neg (val a) (val b)))) (PF.args [.bool neg,aF a,aF b]) .nil:=by
 simp -implicitDefEqProofs only[go_sem,δ,uO,TN,TO]
 refine aQ fun o ho=>?_
 simp -implicitDefEqProofs only[go_sem,γ]
 refine aB (L.gcd a b ha hb la lb) rfl ?_
 rw[iU na nb]
 simp -implicitDefEqProofs only[go_sem,γ,reduceCtorEq,TP]
 have hg0:bgS (val a) (val b)≠0:=by
  intro h; exact h0 (Nat.gcd_eq_zero_iff.1 h).2
 have hgl:nl (bgS (val a) (val b))≤512:=bjI (gM (Nat.gcd_le_right _ (biZ h0))) nb
 have hll:(aG (bgS (val a) (val b))).length≤16777216:=by rw[bH]; omega
 refine aB (L.bits _ (bD _) hll) rfl ?_
 rw[aY]
 by_cases c:bgS (val a) (val b)>1
 ·have c':((cA (bgS (val a) (val b)):Nat):Int)>1:=by have:=alB.2 c; omega
  simp -implicitDefEqProofs only[go_sem,γ,c',TQ]
  refine aB (L.div a _ ha (bD _) la hll) rfl ?_
  rw[aY,kL,iU na hgl,if_neg (by decide),if_neg hg0]
  simp -implicitDefEqProofs only[go_sem,γ,TR]
  refine aB (L.div b _ hb (bD _) lb hll) rfl ?_
  rw[aY,kL,iU nb hgl,if_neg (by decide),if_neg hg0]
  simp -implicitDefEqProofs only[go_sem,γ]
  have:=GT L neg (aG (val a/bgS (val a) (val b))) (aG (val b/bgS (val a) (val b))) (bD _) (bD _) (by rw[bH]; have:=aQG (bgS (val a) (val b)) na; omega) (by rw[bH]; have:=aQG (bgS (val a) (val b)) nb; omega) o
  rw[aY,aY] at this
  have:=fun F H=>this F H
  simp only[aD.wp,go_sem] at this
  exact this _ _ rfl rfl rfl rfl rfl (by simp -implicitDefEqProofs only[go_sem])
 ·have c':¬ ((cA (bgS (val a) (val b)):Nat):Int)>1:=by have:=(@alB (bgS (val a) (val b))); omega
  have e1:bgS (val a) (val b)=1:=by omega
  simp -implicitDefEqProofs only[go_sem,γ,c']
  rw[CI,e1,Nat.div_one,Nat.div_one]
  have:=GT L neg a b ha hb la lb o
  simp only[aD.wp,go_sem] at this
  exact this _ _ rfl rfl rfl rfl rfl (by simp -implicitDefEqProofs only[go_sem])
end Go.PM
namespace Go.PM
open Go Go.Na
structure AS (C:Ctx):Prop extends pI C where
 times:∀ a b,Lim a→Lim b→a.length≤16777216→b.length≤16777216→nl (val a)≤256→nl (val b)≤256→aI C 121 [aF a,aF b] .nil (aK (aF (aG (val a*val b))))
 zero:∀ neg a b,Lim a→a.length≤16777216→aI C 122 [.agg (eX neg a b)] .nil (aK (.bool (decide (val a=0))))
 valid:∀ neg a b,Lim a→Lim b→a.length≤16777216→b.length≤16777216→aI C 118 [.agg (eX neg a b)] .nil (aK (.bool (dJ (val a) (val b))))
 abs:∀ v:Int,-9223372036854775808≤v→v≤9223372036854775807→aI C 119 [.int .i64 v] .nil (aK (aF (aG v.natAbs)))
 lowest:∀ neg a b,Lim a→Lim b→a.length≤16777216→b.length≤16777216→nl (val a)≤512→nl (val b)≤512→val b≠0→aI C 120 [.bool neg,aF a,aF b] .nil (aK (CI neg (val a) (val b)))
def UU (n d:Int):PV:=if d=0 then vX 3 else CI (decide (n<0) != decide (d<0)) n.natAbs d.natAbs
theorem mJ {n k:Nat} (h:n<4294967296 ^ k):nl n≤k:=(gP _ _).2 h
theorem apZ (neg:Bool) (a b:Nat):∃ neg' x y e,CI neg a b=.tup [.agg (eX neg' x y),.int .i64 e]:=by
 unfold CI
 split
 ·exact⟨_,_,_,_,rfl⟩
 ·exact⟨_,_,_,_,rfl⟩
theorem aUM {C:Ctx} (L:AS C) (n d:Int) (h1:-9223372036854775808≤n) (h2:n≤9223372036854775807) (h3:-9223372036854775808≤d) (h4:d≤9223372036854775807) :
  BE.wp C (aX LS.res (bY (UU n d))) (PF.args [.int .i64 n,.int .i64 d]) .nil:=by
 simp -implicitDefEqProofs only[go_sem,δ,BE,alX,alY]
 refine aQ fun o ho=>?_
 unfold UU
 by_cases c:d=0
 ·subst c
  simp -implicitDefEqProofs only[go_sem,ρ,δ,γ,alZ]
  refine lD ?_
  simp -implicitDefEqProofs only[go_sem,δ,γ,LS]
 ·rw[if_neg c]
  simp -implicitDefEqProofs only[go_sem,γ,reduceCtorEq,bG c,amA]
  refine aB (L.abs n h1 h2) rfl ?_
  simp -implicitDefEqProofs only[go_sem,γ]
  refine aB (L.abs d h3 h4) rfl ?_
  simp -implicitDefEqProofs only[go_sem]
  have n1:nl n.natAbs≤2:=mJ (by omega)
  have n2:nl d.natAbs≤2:=mJ (by omega)
  have low:=L.lowest (decide (n<0) != decide (d<0)) (aG n.natAbs) (aG d.natAbs) (bD _) (bD _) (by rw[bH]; omega) (by rw[bH]; omega)
  rw[aY,aY] at low
  have low:=low (by omega) (by omega) (by omega)
  refine aB low rfl ?_
  obtain⟨neg',x,y,e,hl⟩:=apZ (decide (n<0) != decide (d<0)) n.natAbs d.natAbs
  rw[hl]
  simp -implicitDefEqProofs only[go_sem,δ,γ]
  exact aW (.inr rfl) .nil (vs:=[.agg (eX neg' x y),.int .i64 e]) (by simp -implicitDefEqProofs only[go_sem,δ,γ,LS]) PH.nil_le ⟨.refl _,rfl⟩
theorem lG {a b:Nat}:dJ a b=true↔b≠0∧nl b≤128∧nl a≤128:=by
 have h1:=tZ b 128
 have h2:=tZ a 128
 have h3:=@gT b
 simp only[dJ,bhO,decide_eq_true_eq]
 omega
def MO (neg:Bool) (a b:Nat):PV:=if dJ a b then CI neg a b else vX 1
theorem aJK {C:Ctx} (L:AS C) (neg:Bool) (a b:List Nat) (ha:Lim a) (hb:Lim b) (la:a.length≤16777216) (lb:b.length≤16777216) :
  uP.wp C (aX uB.res (bY (MO neg (val a) (val b)))) (PF.args [.agg (eX neg a b)]) .nil:=by
 simp -implicitDefEqProofs only[go_sem,δ,uP,TS,TT]
 refine aQ fun o ho=>?_
 simp -implicitDefEqProofs only[go_sem,δ,γ]
 refine aB (L.valid neg a b ha hb la lb) rfl ?_
 unfold MO
 cases hv:dJ (val a) (val b) with
 | false =>
  simp -implicitDefEqProofs only[go_sem,δ,γ,reduceCtorEq,TU,bhK]
  refine lD ?_
  simp -implicitDefEqProofs only[go_sem,δ,γ,uB]
 | true =>
  obtain⟨v1,v2,v3⟩:=lG.1 hv
  simp -implicitDefEqProofs only[go_sem,δ,γ,θ,TV,bgZ]
  refine aB (L.lowest neg a b ha hb la lb (by omega) (by omega) v1) rfl ?_
  obtain⟨neg',x,y,e,hl⟩:=apZ neg (val a) (val b)
  rw[hl]
  simp -implicitDefEqProofs only[go_sem,δ,γ]
  exact aW (.inr rfl) .nil (vs:=[.agg (eX neg' x y),.int .i64 e]) (by simp -implicitDefEqProofs only[go_sem,δ,γ,uB]) PH.nil_le ⟨.refl _,rfl⟩
def vD (n1:Bool) (a1 b1:Nat) (n2:Bool) (a2 b2:Nat):Int :=
 match n1&&decide (a1≠0),n2&&decide (a2≠0) with
 | true,true=>- dH (a1*b2) (a2*b1)
 | true,false=>-1
 | false,true=>1
 | false,false=>dH (a1*b2) (a2*b1)
def vT (n1:Bool) (a1 b1:Nat) (n2:Bool) (a2 b2:Nat):PV :=
 if dJ a1 b1&&dJ a2 b2 then .tup [.int .i64 (vD n1 a1 b1 n2 a2 b2),.int .i64 0] else .tup [.int .i64 0,.int .i64 1]
def fr1:PV→List Nat
 | .agg [_,a,_]=>jF a
 | _=>[]
def frS:Spec:=fun name vs=>match name,vs with
 | 121,[x,y]=>some ([],fun _=>aK (aF (aG (val (jF x)*val (jF y)))))
 | 129,[x,y]=>some ([],fun _=>aK (.int .i64 (dH (val (jF x)) (val (jF y)))))
 | 122,[x]=>some ([],fun _=>aK (.bool (decide (val (fr1 x)=0))))
 | _,_=>none
theorem sA (a b:List Nat):frS 121 [aF a,aF b]=some ([],fun _=>aK (aF (aG (val a*val b)))):=by
 show some _=_; rw[eI,eI]
theorem aZZ (a b:List Nat):frS 129 [aF a,aF b]=some ([],fun _=>aK (.int .i64 (dH (val a) (val b)))):=by
 show some _=_; rw[eI,eI]
theorem PQ (neg:Bool) (a b:List Nat):frS 122 [.agg (eX neg a b)]=some ([],fun _=>aK (.bool (decide (val a=0)))):=by
 show some _=_; rw[fr1,eI]
theorem aTZ (a b:Nat):IntKind.i64.wrap (0-dH a b)=- dH a b:=by
 unfold dH; split
 ·rfl
 ·split<;>rfl
theorem aZV {C:Ctx} (L:AS C) (n1 n2:Bool) (a1 b1 a2 b2:List Nat) (ha1:Lim a1) (hb1:Lim b1) (ha2:Lim a2) (hb2:Lim b2)
  (la1:a1.length≤16777216) (lb1:b1.length≤16777216) (la2:a2.length≤16777216) (lb2:b2.length≤16777216) :
  GN.wp C (aX alT.res (bY (vT n1 (val a1) (val b1) n2 (val a2) (val b2)))) (PF.args [.agg (eX n1 a1 b1),.agg (eX n2 a2 b2)]) .nil:=by
 simp -implicitDefEqProofs only[go_sem,δ,γ,GN,aCJ,aCK]
 refine aB (L.valid n1 a1 b1 ha1 hb1 la1 lb1) rfl ?_
 unfold vT
 cases hv:dJ (val a1) (val b1) with
 | false =>
  simp -implicitDefEqProofs only[go_sem,γ,reduceCtorEq,bhK,ZM,bhE]
  exact aW (.inr rfl) .nil (vs:=[.int .i64 0,.int .i64 1]) rfl PH.nil_le ⟨.refl _,rfl⟩
 | true =>
  obtain⟨v1,v2,v3⟩:=lG.1 hv
  simp -implicitDefEqProofs only[go_sem,δ,γ,bgZ]
  refine aB (L.valid n2 a2 b2 ha2 hb2 la2 lb2) rfl ?_
  cases hw:dJ (val a2) (val b2) with
  | false =>
   simp -implicitDefEqProofs only[go_sem,γ,reduceCtorEq,bhK,ZM,biI]
   exact aW (.inr rfl) .nil (vs:=[.int .i64 0,.int .i64 1]) rfl PH.nil_le ⟨.refl _,rfl⟩
  | true =>
   obtain⟨w1,w2,w3⟩:=lG.1 hw
   simp -implicitDefEqProofs only[go_sem,γ,reduceCtorEq,bgZ,bjL]
   refine cD .nil frS PH.nil_le ?_
   simp -implicitDefEqProofs only[go_sem,δ,γ,θ,aCL]
   refine cQ (sA a1 b2) (L.times a1 b2 ha1 hb2 la1 lb2 (by omega) (by omega)) rfl PH.nil_le ?_
   simp -implicitDefEqProofs only[go_sem,δ,γ,θ]
   refine cQ (sA a2 b1) (L.times a2 b1 ha2 hb1 la2 lb1 (by omega) (by omega)) rfl PH.nil_le ?_
   simp -implicitDefEqProofs only[go_sem]
   have m1:=sF v3 w2
   have m2:=sF w3 v2
   have hc:=L.cmp (aG (val a1*val b2)) (aG (val a2*val b1)) (bD _) (bD _) (by rw[bH]; omega) (by rw[bH]; omega)
   have hs:=aZZ (aG (val a1*val b2)) (aG (val a2*val b1))
   rw[aY,aY] at hc hs
   refine cQ hs hc rfl PH.nil_le ?_
   simp -implicitDefEqProofs only[go_sem,γ]
   refine cD .nil frS PH.nil_le ?_
   have z1:(!decide (val a1=0))=decide (val a1≠0):=by by_cases h:val a1=0<;>simp[h]
   have z2:(!decide (val a2=0))=decide (val a2≠0):=by by_cases h:val a2=0<;>simp[h]
   have fin:∀ (F:PF) (A B:Bool),F 6=some (.int .i64 (dH (val a1*val b2) (val a2*val b1)))→F 7=some (.bool A)→F 8=some (.bool B)→A=(n1&&decide (val a1≠0))→B=(n2&&decide (val a2≠0)) →
     aD.wp C (.seq (.block 0 (.seq (.region uA) (.cond (.tmp 42) (.seq (.region ZN) .ret) (.seq (.region zV) (.cond (.tmp 49) (.seq (.region ZO) .ret) (.seq (.region LP) (.cond (.tmp 51) (.seq (.region PN) .ret) .skip))))))) (.seq (.region PO) .ret)) (aX alT.res (bY (.tup [.int .i64 (vD n1 (val a1) (val b1) n2 (val a2) (val b2)),.int .i64 0]))) F .nil:=by
    intro F A B f6 f7 f8 hA hB
    rw[vD,← hA,← hB]
    cases A<;>cases B
    ·simp -implicitDefEqProofs only[go_sem,γ,reduceCtorEq,uA,zV,LP,PO,f6,f7,f8]
     exact aW (.inr rfl) .nil rfl PH.nil_le ⟨.refl _,rfl⟩
    ·simp -implicitDefEqProofs only[go_sem,γ,reduceCtorEq,uA,zV,LP,PN,f6,f7,f8]
     exact aW (.inr rfl) .nil rfl PH.nil_le ⟨.refl _,rfl⟩
    ·simp -implicitDefEqProofs only[go_sem,ο,γ,uA,zV,ZO,f6,f7,f8]
     exact aW (.inr rfl) .nil rfl PH.nil_le ⟨.refl _,rfl⟩
    ·simp -implicitDefEqProofs only[go_sem,γ,uA,ZN,f6,f7,f8,aTZ]
     exact aW (.inr rfl) .nil rfl PH.nil_le ⟨.refl _,rfl⟩
   simp only[aD.wp,go_sem] at fin
   simp -implicitDefEqProofs only[go_sem,δ,γ,θ,aCM]
   cases n1 with
   | false =>
    simp -implicitDefEqProofs only[go_sem,δ,γ,θ,reduceCtorEq]
    cases n2 with
    | false =>
     simp -implicitDefEqProofs only[go_sem,γ,reduceCtorEq]
     exact fin _ false false rfl rfl rfl rfl rfl
    | true =>
     simp -implicitDefEqProofs only[go_sem,δ,γ]
     refine cQ (PQ true a2 b2) (L.zero true a2 b2 ha2 la2) rfl PH.nil_le ?_
     simp -implicitDefEqProofs only[go_sem,γ,z2]
     exact fin _ false (decide (val a2≠0)) rfl rfl rfl rfl (by rw[bhP])
   | true =>
    simp -implicitDefEqProofs only[go_sem,δ,γ]
    refine cQ (PQ true a1 b1) (L.zero true a1 b1 ha1 la1) rfl PH.nil_le ?_
    simp -implicitDefEqProofs only[go_sem,δ,γ,θ,z1]
    cases n2 with
    | false =>
     simp -implicitDefEqProofs only[go_sem,γ,reduceCtorEq]
     exact fin _ (decide (val a1≠0)) false rfl rfl rfl (by rw[bhP]) rfl
    | true =>
     simp -implicitDefEqProofs only[go_sem,δ,γ]
     refine cQ (PQ true a2 b2) (L.zero true a2 b2 ha2 la2) rfl PH.nil_le ?_
     simp -implicitDefEqProofs only[go_sem,γ,z2]
     exact fin _ (decide (val a1≠0)) (decide (val a2≠0)) rfl rfl rfl (by rw[bhP]) (by rw[bhP])
end Go.PM
namespace Go.PM
open Go Go.Na
abbrev FV:=Bool × Nat × Nat
abbrev FR:=Except Int FV
def jU (neg:Bool) (a b:Nat):FR :=
 if cA (a/bgS a b)>4096∨cA (b/bgS a b)>4096 then .error 2 else .ok (neg&&decide (a/bgS a b≠0),a/bgS a b,b/bgS a b)
def frV:FR→PV
 | .ok (n,a,b)=>aJM n a b
 | .error e=>vX e
theorem aaC (neg:Bool) (a b:Nat):CI neg a b=frV (jU neg a b):=by
 unfold CI jU
 split<;>rfl
def iT:FV→FV→FR
 | (n1,a1,b1),(n2,a2,b2)=>if dJ a1 b1&&dJ a2 b2 then
   (if n1=n2 then jU n1 (a1*b2+a2*b1) (b1*b2) else if a2*b1≤a1*b2 then jU n1 (a1*b2-a2*b1) (b1*b2) else jU n2 (a2*b1-a1*b2) (b1*b2))
  else .error 1
theorem a4X {a b m:Nat} (ha:nl a≤m) (hb:nl b≤m):nl (a+b)≤m+1:=by
 rw[gP] at ha hb ⊢
 rw[biE]; omega
theorem aBO (a b:Nat):(dH a b≥0)↔b≤a:=by
 unfold dH
 split
 ·constructor
  ·intro h; exact absurd h (by decide)
  ·intro h; omega
 ·split
  ·constructor
   ·intro h; omega
   ·intro h; decide
  ·constructor
   ·intro h; omega
   ·intro h; decide
theorem LW (r:FR):∃ neg' x y e,frV r=.tup [.agg (eX neg' x y),.int .i64 e]:=by
 rcases r with e | ⟨n,a,b⟩
 ·exact⟨_,_,_,_,rfl⟩
 ·exact⟨_,_,_,_,rfl⟩
theorem aZT {C:Ctx} (L:AS C) (n1 n2:Bool) (a1 b1 a2 b2:List Nat) (ha1:Lim a1) (hb1:Lim b1) (ha2:Lim a2) (hb2:Lim b2)
  (la1:a1.length≤16777216) (lb1:b1.length≤16777216) (la2:a2.length≤16777216) (lb2:b2.length≤16777216) :
  GM.wp C (aX GL.res (bY (frV (iT (n1,val a1,val b1) (n2,val a2,val b2))))) (PF.args [.agg (eX n1 a1 b1),.agg (eX n2 a2 b2)]) .nil:=by
 simp -implicitDefEqProofs only[go_sem,δ,γ,GM,aCA]
 refine aQ fun o ho=>?_
 simp -implicitDefEqProofs only[go_sem,δ,γ,aCB]
 refine aB (L.valid n1 a1 b1 ha1 hb1 la1 lb1) rfl ?_
 simp only[iT]
 cases hv:dJ (val a1) (val b1) with
 | false =>
  simp -implicitDefEqProofs only[go_sem,δ,γ,reduceCtorEq,bhK,ZL,bhE]
  refine lD ?_
  simp -implicitDefEqProofs only[go_sem,δ,γ,GL]
 | true =>
  obtain⟨v1,v2,v3⟩:=lG.1 hv
  simp -implicitDefEqProofs only[go_sem,δ,γ,bgZ]
  refine aB (L.valid n2 a2 b2 ha2 hb2 la2 lb2) rfl ?_
  cases hw:dJ (val a2) (val b2) with
  | false =>
   simp -implicitDefEqProofs only[go_sem,δ,γ,reduceCtorEq,bhK,ZL,biI]
   refine lD ?_
   simp -implicitDefEqProofs only[go_sem,δ,γ,GL]
  | true =>
   obtain⟨w1,w2,w3⟩:=lG.1 hw
   simp -implicitDefEqProofs only[go_sem,γ,reduceCtorEq,bgZ,bjL]
   refine cD .nil frS PH.nil_le ?_
   simp -implicitDefEqProofs only[go_sem,δ,γ,θ,aCC]
   refine cQ (sA a1 b2) (L.times a1 b2 ha1 hb2 la1 lb2 (by omega) (by omega)) rfl PH.nil_le ?_
   simp -implicitDefEqProofs only[go_sem,δ,γ,θ]
   refine cQ (sA a2 b1) (L.times a2 b1 ha2 hb1 la2 lb1 (by omega) (by omega)) rfl PH.nil_le ?_
   simp -implicitDefEqProofs only[go_sem,γ]
   refine cQ (sA b1 b2) (L.times b1 b2 hb1 hb2 lb1 lb2 (by omega) (by omega)) rfl PH.nil_le ?_
   simp -implicitDefEqProofs only[go_sem,γ]
   have m1:=sF v3 w2
   have m2:=sF w3 v2
   have m3:=sF v2 w2
   have d0:val b1*val b2≠0:=Nat.mul_ne_zero v1 w1
   generalize hA:val a1*val b2=A at *
   generalize hB:val a2*val b1=B at *
   generalize hD:val b1*val b2=D at *
   have fin:∀ (F:PF) (H:PH) (r:FR),(∃ neg' x y e,frV r=.tup [.agg (eX neg' x y),.int .i64 e]∧F 4=some (.ptr o 3 0 0)∧F 5=some (.int .i64 e)∧H o=some (.rows 3 [eX neg' x y]))→aX GL.res (bY (frV r)) .ret F H:=by
    rintro F H r ⟨neg',x,y,e,he,f4,f5,hH⟩
    rw[he]
    exact aW (.inr rfl) .nil (vs:=[.agg (eX neg' x y),.int .i64 e]) (by simp -implicitDefEqProofs only[go_sem,δ,GL,f4,f5,hH]) PH.nil_le ⟨.refl _,rfl⟩
   have eb:(n1==n2)=decide (n1=n2):=by cases n1<;>cases n2<;>rfl
   have low:∀ neg x,nl x≤257→aI C 120 [.bool neg,aF (aG x),aF (aG D)] .nil (aK (frV (jU neg x D))):=by
    intro neg x hx
    have h1:(aG x).length≤16777216:=by rw[bH]; omega
    have h2:(aG D).length≤16777216:=by rw[bH]; omega
    have:=L.lowest neg (aG x) (aG D) (bD _) (bD _) h1 h2
    rw[aY,aY,aaC] at this
    exact this (by omega) (by omega) d0
   have lA:(aG A).length≤16777216:=by rw[bH]; omega
   have lB:(aG B).length≤16777216:=by rw[bH]; omega
   simp -implicitDefEqProofs only[go_sem,δ,γ,θ,aCD]
   by_cases c:n1=n2
   ·rw[if_pos c]
    have c':(n1==n2)=true:=by rw[eb,decide_eq_true c]
    simp -implicitDefEqProofs only[go_sem,γ,c',aCE]
    have hadd:=L.add (aG A) (aG B) (bD _) (bD _) lA lB
    have nab:=a4X m1 m2
    rw[aY,aY,iU (by omega) (by omega),opV,avD (by omega)] at hadd
    refine aB hadd rfl ?_
    simp -implicitDefEqProofs only[go_sem,δ,γ,θ,reduceCtorEq,aCF]
    refine aB (low n1 _ (by omega)) rfl ?_
    obtain⟨neg',x,y,e,hl⟩:=LW (jU n1 (A+B) D)
    rw[hl]
    simp -implicitDefEqProofs only[go_sem,δ,γ]
    rw[← hl]
    exact fin _ _ _ ⟨neg',x,y,e,hl,by simp -implicitDefEqProofs only[go_sem,γ],by simp -implicitDefEqProofs only[go_sem,γ],by simp -implicitDefEqProofs only[go_sem]⟩
   ·rw[if_neg c]
    have c':(n1==n2)=false:=by rw[eb,decide_eq_false c]
    simp -implicitDefEqProofs only[go_sem,γ,c',aCG]
    have hc:=L.cmp (aG A) (aG B) (bD _) (bD _) lA lB
    rw[aY,aY] at hc
    refine aB hc rfl ?_
    have hsub:∀ X Y:Nat,nl X≤256→nl Y≤256→Y≤X→aI C 134 [aF (aG X),aF (aG Y)] .nil (aK (.tup [aF (aG (X-Y)),.int .i64 0])):=by
     intro X Y h1 h2 h
     have:=L.sub (aG X) (aG Y) (bD _) (bD _) (by rw[bH]; omega) (by rw[bH]; omega)
     have h3:=gM (show X-Y≤X by omega)
     rw[aY,aY,vI,iU (by omega) (by omega),if_neg (by decide),if_neg (by omega),avD (by omega)] at this
     exact this
    by_cases g:B≤A
    ·have g':dH A B≥0:=(aBO A B).2 g
     rw[if_pos g]
     simp -implicitDefEqProofs only[go_sem,γ,g',aCH]
     refine aB (hsub A B (by omega) (by omega) g) rfl ?_
     simp -implicitDefEqProofs only[go_sem,δ,γ,θ,aCI]
     have h3:=gM (show A-B≤A by omega)
     refine aB (low n1 (A-B) (by omega)) rfl ?_
     obtain⟨neg',x,y,e,hl⟩:=LW (jU n1 (A-B) D)
     rw[hl]
     simp -implicitDefEqProofs only[go_sem,δ,γ]
     rw[← hl]
     exact fin _ _ _ ⟨neg',x,y,e,hl,by simp -implicitDefEqProofs only[go_sem,γ],by simp -implicitDefEqProofs only[go_sem,γ],by simp -implicitDefEqProofs only[go_sem]⟩
    ·have g':¬ dH A B≥0:=fun h=>g ((aBO A B).1 h)
     rw[if_neg g]
     simp -implicitDefEqProofs only[go_sem,γ,g',alR]
     refine aB (hsub B A (by omega) (by omega) (by omega)) rfl ?_
     simp -implicitDefEqProofs only[go_sem,δ,γ,θ,alS]
     have h3:=gM (show B-A≤B by omega)
     refine aB (low n2 (B-A) (by omega)) rfl ?_
     obtain⟨neg',x,y,e,hl⟩:=LW (jU n2 (B-A) D)
     rw[hl]
     simp -implicitDefEqProofs only[go_sem,δ,γ]
     rw[← hl]
     exact fin _ _ _ ⟨neg',x,y,e,hl,by simp -implicitDefEqProofs only[go_sem,γ],by simp -implicitDefEqProofs only[go_sem,γ],by simp -implicitDefEqProofs only[go_sem]⟩
structure RF where
 neg:Bool
 num:List Nat
 den:List Nat
abbrev RF.cells (x:RF):List PV:=eX x.neg x.num x.den
def RF.Ok (x:RF):Prop:=Lim x.num∧Lim x.den∧x.num.length≤16777216∧x.den.length≤16777216
def RF.v (x:RF):FV:=(x.neg,val x.num,val x.den)
abbrev frs (l:List RF):PV:=.sl 3 (l.map RF.cells)
def FV.rf:FV→RF
 | (n,a,b)=>⟨n,aG a,aG b⟩
def FV.Small:FV→Prop
 | (_,a,b)=>nl a≤900000∧nl b≤900000
theorem FV.bfC (x:FV):x.rf.v=x:=by
 obtain⟨n,a,b⟩:=x
 show (n,val (aG a),val (aG b))=_
 rw[aY,aY]
def oK (l:List FV):FR:=l.foldlM iT (false,0,1)
theorem pY {neg:Bool} {a b:Nat} {r:FV} (h:jU neg a b=.ok r):r.Small∧r.rf.Ok:=by
 unfold jU at h
 split at h
 ·cases h
 ·rename_i hc
  have h1:=(tZ (a/bgS a b) 128).1 (by omega)
  have h2:=(tZ (b/bgS a b) 128).1 (by omega)
  injection h with h
  subst h
  refine⟨⟨by omega,by omega⟩,bD _,bD _,?_,?_⟩
  ·show (aG _).length≤_
   rw[bH]; omega
  ·show (aG _).length≤_
   rw[bH]; omega
theorem aBJ {x y r:FV} (h:iT x y=.ok r):r.rf.Ok:=by
 obtain⟨n1,a1,b1⟩:=x
 obtain⟨n2,a2,b2⟩:=y
 simp only[iT] at h
 split at h
 ·split at h
  ·exact (pY h).2
  ·split at h
   ·exact (pY h).2
   ·exact (pY h).2
 ·cases h
theorem ayU {α β:Type} {f:β→α→Except Int β} (l:List α) (b:β) {k:Nat} (h:k<l.length):(l.take (k+1)).foldlM f b=((l.take k).foldlM f b).bind fun x=>f x l[k]:=by
 rw[bjG h,List.foldlM_append]
 cases (l.take k).foldlM f b with
 | error e=>rfl
 | ok x =>
  show ([l[k]]:List α).foldlM f x=f x l[k]
  rw[List.foldlM_cons]
  cases f x l[k]<;>rfl
theorem aJI {α β:Type} {f:β→α→Except Int β} (l:List α) (b:β) {k:Nat} {e:Int} (h:(l.take k).foldlM f b=.error e):l.foldlM f b=.error e:=by
 conv=>lhs; rw[← bjD k l,List.foldlM_append,h]
 rfl
def aXJ (l:List RF) (o2 o4:Nat) (k:Nat):PF:=((((((PF.nil.set 2 (.ptr o2 3 0 0)).set 3 (.int .i64 0)).set 4 (.ptr o4 3 0 0)).set 11 (frs l)).set 12 (.int .i64 (l.length:Nat))).set 13 (.int .i64 k))
def SG (o2 o4:Nat) (c:List PV):PH:=(PH.nil.set o2 (.rows 3 [[.bool false,.nils,.nils]])).set o4 (.rows 3 [c])
theorem a0B {C:Ctx} (L:AS C) (hadd:∀ x y:RF,x.Ok→y.Ok→aI C 113 [.agg x.cells,.agg y.cells] .nil (aK (frV (iT x.v y.v)))) (l:List RF) (hl:∀ x∈l,x.Ok) (hlen:l.length≤9223372036854775807) :
  GU.wp C (aX PS.res (bY (frV (oK (l.map RF.v))))) (PF.args [frs l]) .nil:=by
 simp -implicitDefEqProofs only[go_sem,δ,GU,aCO]
 refine aQ fun o2 ho2=>?_
 simp -implicitDefEqProofs only[go_sem,aCP]
 refine aB (L.make 1 (by decide)) rfl ?_
 simp -implicitDefEqProofs only[go_sem,δ,γ]
 refine aQ fun o4 ho4=>?_
 have hne:o4≠o2:=by rintro rfl; simp only[aV,if_true] at ho4; cases ho4
 have hne':o2≠o4:=Ne.symm hne
 simp -implicitDefEqProofs only[go_sem,δ,γ,reduceCtorEq,aCQ]
 refine wp_loop (α:=Nat × FV × PV) (fun t=>aXJ l o2 o4 t.1) (fun t=>SG o2 o4 [.bool t.2.1.1,t.2.2,aF (aG t.2.1.2.2)]) (fun t=>t.1≤l.length∧((l.map RF.v).take t.1).foldlM iT (false,0,1)=.ok t.2.1∧(t.2.2=.nils∧t.2.1.2.1=0∨t.2.2=aF (aG t.2.1.2.1))∧(FV.rf t.2.1).Ok) (fun t=>l.length-t.1)
  (0,(false,0,1),.nils) ⟨bhC _,rfl,.inl ⟨rfl,rfl⟩,⟨bD _,bD _,?_,?_⟩⟩ ?_ ?_ ?_
 ·show (aG 0).length≤_
  rw[eZ]; simp
 ·show (aG 1).length≤_
  rw[lL (by decide) (by decide)]; simp
 ·unfold aXJ
  (repeat' (first|exact PF.nil_le|refine PF.aA ?_ ?_))<;>first|(simp -implicitDefEqProofs only[go_sem,γ,bgR]<;>rfl)|rfl
 ·unfold SG
  exact PH.aA (PH.aA PH.nil_le (by simp -implicitDefEqProofs only[go_sem,hne',hne])) (by simp -implicitDefEqProofs only[go_sem,hne',hne])
 rintro⟨k,⟨an,aa,ab⟩,cy⟩ ⟨hk,hf,hco,hacc⟩
 simp only at hk hf hco hacc ⊢
 have hco':CoL [.bool an,cy,aF (aG ab)] (FV.rf (an,aa,ab)).cells:=by
  refine .cons (.refl _) (.cons ?_ (.cons (.refl _) .nil))
  rcases hco with ⟨rfl,rfl⟩ | rfl
  ·show Co .nils (aF (aG 0))
   rw[eZ]; exact .nil 1
  ·exact .refl _
 simp -implicitDefEqProofs only[go_sem,γ,amC,aCR,aXJ]
 by_cases hlt:k<l.length
 ·have hlt':(k:Int)<(l.length:Nat):=by omega
  have hr:(l.map RF.cells)[k]?=some (l[k]).cells:=by simp[hlt]
  simp -implicitDefEqProofs only[go_sem,δ,γ,hlt',aCS,hr]
  refine aQ fun o6 ho6=>?_
  have n64:o4≠o6:=by rintro rfl; simp only[SG,aV,if_true] at ho6; cases ho6
  have n62:o2≠o6:=by rintro rfl; simp only[SG,aV,if_true,if_neg hne'] at ho6; cases ho6
  simp -implicitDefEqProofs only[go_sem,δ,γ,aCT,SG,n64,n62,hne,hne']
  refine aB ((hadd (FV.rf (an,aa,ab)) l[k] hacc (hl _ (bgY hlt))).args (.cons (CoL.agg hco') (.cons (.refl _) .nil))) rfl ?_
  rw[FV.bfC]
  have hstep:=ayU (f:=iT) (l.map RF.v) (false,0,1) (k:=k) (by simpa using hlt)
  rw[hf] at hstep
  simp only[Except.bind,biJ] at hstep
  cases he:iT (an,aa,ab) (l[k]).v with
  | error e =>
   simp -implicitDefEqProofs only[go_sem,δ,γ,frV]
   refine aQ fun o7 ho7=>?_
   have he0:e≠0:=by
    revert he
    obtain⟨n2,a2,b2⟩:=(l[k]).v
    simp only[iT,jU]
    repeat' split
    all_goals (intro h; first | (injection h with h; subst h; decide) | cases h)
   have n72:o2≠o7:=by rintro rfl; simp only[aV,n62,hne',if_true,if_false] at ho7; cases ho7
   simp -implicitDefEqProofs only[go_sem,δ,γ,ZQ,dZ he0,aCU,n72,n62,hne']
   rw[he] at hstep
   rw[oK,aJI _ _ hstep]
   refine lD ?_
   simp -implicitDefEqProofs only[go_sem,δ,γ,PS]
  | ok r =>
   obtain⟨rn,ra,rb⟩:=r
   simp -implicitDefEqProofs only[go_sem,δ,γ,frV]
   refine aQ fun o7 ho7=>?_
   have n74:o4≠o7:=by rintro rfl; simp only[aV,n64,if_true,if_false] at ho7; cases ho7
   have n72:o2≠o7:=by rintro rfl; simp only[aV,n62,hne',if_true,if_false] at ho7; cases ho7
   simp -implicitDefEqProofs only[go_sem,σ,δ,γ,ZQ,aCV,n74,n72,n64,n62,hne,hne',Ne.symm n74,aCW,aO (show k<9223372036854775807 by omega)]
   rw[he] at hstep
   refine aJ (k+1,(rn,ra,rb),aF (aG ra)) ⟨hlt,hstep,.inr rfl,aBJ he⟩ (by simp only; omega) ?_ ?_
   ·(repeat' (first|exact PF.nil_le|refine PF.aA ?_ ?_))<;>first|(simp -implicitDefEqProofs only[go_sem,γ]<;>rfl)|rfl
   ·refine PH.aA (PH.aA PH.nil_le ?_) ?_
    ·simp -implicitDefEqProofs only[go_sem,hne',hne,n74,n72,n64,n62]
    ·simp -implicitDefEqProofs only[go_sem,hne',hne,n74,n72,n64,n62]
 ·have hlt':¬ (k:Int)<(l.length:Nat):=by omega
  have:k=l.length:=by omega
  subst this
  rw[bhF (by simp)] at hf
  rw[oK,hf]
  have hfin:bY (frV (.ok (an,aa,ab))) (cN [.agg [.bool an,cy,aF (aG ab)],.int .i64 0]) .nil:=⟨CoL.tup (.cons (CoL.agg hco') (.cons (.refl _) .nil)),rfl⟩
  rcases hco with ⟨rfl,rfl⟩ | rfl
  ·simp -implicitDefEqProofs only[go_sem,δ,γ,hlt',PT,SG,hne,hne']
   refine aW (.inr rfl) .nil ?_ PH.nil_le hfin
   simp -implicitDefEqProofs only[go_sem,δ,γ,PS,hne,hne']
  ·simp -implicitDefEqProofs only[go_sem,δ,γ,hlt',PT,SG,hne,hne']
   refine aW (.inr rfl) .nil ?_ PH.nil_le hfin
   simp -implicitDefEqProofs only[go_sem,δ,γ,PS,hne,hne']
end Go.PM
namespace Go.PM
open Go
def mX:Rg:=[iA 2 (.mv (.const (.bool false)))]
def mY:Rg:=[iM 3 0,iA 4 (.bin .geq (Tm 3) (.const (.int .u8 97))),iM 5 4,iG 6 (.mv (Tm 0)) 5 true,iG 7 (.bin .leq (Tm 6) (.const (.int .u8 122))) 5 true,iA 8 (.pick (Tm 5) (Tm 7) (.const (.bool false))),iM 9 8,iG 10 (.mv (Tm 0)) 9 false,iG 11 (.bin .geq (Tm 10) (.const (.int .u8 65))) 9 false,iG 12 (.mv (Tm 11)) 9 false,iG 13 (.mv (Tm 0)) 12 true,iG 14 (.bin .leq (Tm 13) (.const (.int .u8 90))) 12 true,iG 15 (.pick (Tm 12) (Tm 14) (.const (.bool false))) 9 false,iA 16 (.pick (Tm 9) (.const (.bool true)) (Tm 15)),iM 2 16]
def jJ:aD:=(.seq (.region mX) (.seq (.region mY) .ret))
def aKR:List Nat:=[]
def uG:bE:=⟨1,17,jJ,[.tmp 2]⟩
def wD:Rg:=[iA 2 (.mv (.const (.bool false)))]
def wE:Rg:=[iM 3 0,iA 4 (.bin .geq (Tm 3) (.const (.int .u8 48))),iM 5 4,iG 6 (.mv (Tm 0)) 5 true,iG 7 (.bin .leq (Tm 6) (.const (.int .u8 57))) 5 true,iA 8 (.pick (Tm 5) (Tm 7) (.const (.bool false))),iM 2 8]
def nO:aD:=(.seq (.region wD) (.seq (.region wE) .ret))
def aOZ:List Nat:=[]
def AA:bE:=⟨1,9,nO,[.tmp 2]⟩
def adC:Rg:=[iA 2 (.mv (.const (.bool false)))]
def adD:Rg:=[iM 3 0,iA 4 (.call 126 [(Tm 3)]),iM 5 4,iG 6 (.mv (Tm 0)) 5 false,iG 7 (.call 124 [(Tm 6)]) 5 false,iA 8 (.pick (Tm 5) (.const (.bool true)) (Tm 7)),iM 9 8,iG 10 (.mv (Tm 0)) 9 false,iG 11 (.bin .eql (Tm 10) (.const (.int .u8 45))) 9 false,iA 12 (.pick (Tm 9) (.const (.bool true)) (Tm 11)),iM 13 12,iG 14 (.mv (Tm 0)) 13 false,iG 15 (.bin .eql (Tm 14) (.const (.int .u8 46))) 13 false,iA 16 (.pick (Tm 13) (.const (.bool true)) (Tm 15)),iM 2 16]
def xM:aD:=(.seq (.region adC) (.seq (.region adD) .ret))
def aPD:List Nat:=[]
def AB:bE:=⟨1,17,xM,[.tmp 2]⟩
def CD:Rg:=[iA 2 (.mv (.const (.bool false)))]
def CE:Rg:=[iM 4 0,iA 5 (.bin .eql (Tm 4) (.const (.str []))),iM 6 5,iG 7 (.mv (Tm 0)) 6 false,iG 8 (.lenStr (Tm 7)) 6 false,iG 9 (.bin .gtr (Tm 8) (Ci 16)) 6 false,iA 10 (.pick (Tm 6) (.const (.bool true)) (Tm 9)),iM 11 10,iG 12 (.mv (Tm 0)) 11 false,iG 13 (.idxStr (Tm 12) (Ci 0)) 11 false,iG 14 (.call 126 [(Tm 13)]) 11 false,iG 15 (.un .not (Tm 14)) 11 false,iA 16 (.pick (Tm 11) (.const (.bool true)) (Tm 15))]
def CF:Rg:=[iA 2 (.mv (.const (.bool false)))]
def apP:Rg:=[iI 3 0]
def apQ:Rg:=[iM 17 3,iM 18 0,iA 19 (.lenStr (Tm 18)),iB 20 .lss 17 19]
def apR:Rg:=[iM 23 0,iM 24 3,iA 25 (.idxStr (Tm 23) (Tm 24)),iA 26 (.call 125 [(Tm 25)]),iA 27 (.un .not (Tm 26))]
def apS:Rg:=[iA 2 (.mv (.const (.bool false)))]
def apT:Rg:=[iM 21 3,iC 22 .add 21 1,iM 3 22]
def apO:aD:=(.seq (.seq (.region apQ) (.cond (Tm 20) .skip (.exit 0))) (.seq (.block 1 (.seq (.region apR) (.cond (Tm 27) (.seq (.region apS) .ret) .skip))) (.region apT)))
def apU:Rg:=[iA 2 (.mv (.const (.bool true)))]
def pX:aD:=(.seq (.region CD) (.seq (.seq (.region CE) (.cond (Tm 16) (.seq (.region CF) .ret) .skip)) (.seq (.seq (.region apP) (.block 0 (.loop apO))) (.seq (.region apU) .ret))))
def aVT:List Nat:=[]
def MG:bE:=⟨1,28,pX,[.tmp 2]⟩
def UD:Rg:=[iA 6 (.mv (.const (.bool false)))]
def UE:Rg:=[iM 7 0,iM 8 1,iB 9 .geq 7 8,iM 10 9,iG 11 (.mv (Tm 0)) 10 true,iG 12 (.mv (Tm 2)) 10 true,iG 13 (.bin .leq (Tm 11) (Tm 12)) 10 true,iA 14 (.pick (Tm 10) (Tm 13) (.const (.bool false))),iM 6 14]
def uQ:aD:=(.seq (.region UD) (.seq (.region UE) .ret))
def a4Q:List Nat:=[]
def gin:bE:=⟨3,15,uQ,[.tmp 6]⟩
def acB:Rg:=[iA 1 (.box true (Tm 0)),iA 2 (.mv (.const (.bool false)))]
def acC:Rg:=[iF 3 1 1,iL 4 3,iA 5 (.call 128 [(Tm 4)]),iC 6 .gtr 5 0,iM 2 6]
def xG:aD:=(.seq (.region acB) (.seq (.region acC) .ret))
def aON:List Nat:=[1]
def GY:bE:=⟨1,7,xG,[.tmp 2]⟩
def aDL:Rg:=[iA 1 (.box true (Tm 0)),iA 2 (.mv (.const (.bool false)))]
def aDM:Rg:=[iA 6 (.load (some 3) (Tm 1)),iA 7 (.call 116 [(Tm 6)]),iM 5 7,iA 8 (.extract (Tm 5) 0),iA 9 (.extract (Tm 5) 1),iA 3 (.alloc [(.bool false),.nils,.nils]),iS 3 3 8,iM 4 9]
def MA:Rg:=[iM 10 4,iC 11 .eql 10 0,iM 12 11,iG 13 (.fieldA 0 (Tm 3)) 12 true,iG 14 (.load none (Tm 13)) 12 true,iG 15 (.un .not (Tm 14)) 12 true,iA 16 (.pick (Tm 12) (Tm 15) (.const (.bool false))),iM 17 16,iG 18 (.fieldA 1 (Tm 3)) 17 true,iG 19 (.load none (Tm 18)) 17 true,iG 20 (.call 128 [(Tm 19)]) 17 true,iG 21 (.bin .leq (Tm 20) (Ci 32)) 17 true,iA 22 (.pick (Tm 17) (Tm 21) (.const (.bool false))),iM 23 22,iG 24 (.fieldA 2 (Tm 3)) 23 true,iG 25 (.load none (Tm 24)) 23 true,iG 26 (.call 128 [(Tm 25)]) 23 true,iG 27 (.bin .leq (Tm 26) (Ci 32)) 23 true,iA 28 (.pick (Tm 23) (Tm 27) (.const (.bool false))),iM 2 28]
def HD:aD:=(.seq (.region aDL) (.seq (.region aDM) (.seq (.region MA) .ret)))
def a0J:List Nat:=[1]
def anS:bE:=⟨1,29,HD,[.tmp 2]⟩
def aDQ:Rg:=[iA 1 (.box true (Tm 0)),iA 2 (.mv (.const (.bool false)))]
def aDR:Rg:=[iA 8 (.call 115 [(Ci 1),(Ci 1)]),iM 7 8,iA 9 (.extract (Tm 7) 0),iA 10 (.extract (Tm 7) 1),iA 3 (.alloc [(.bool false),.nils,.nils]),iS 3 3 9,iM 4 10]
def aDS:Rg:=[iA 12 (.load (some 3) (Tm 1)),iA 13 (.load (some 3) (Tm 3)),iA 14 (.call 114 [(Tm 12),(Tm 13)]),iM 11 14,iA 15 (.extract (Tm 11) 0),iA 16 (.extract (Tm 11) 1),iM 5 15,iM 6 16]
def ZU:Rg:=[iM 17 6,iC 18 .eql 17 0,iM 19 18,iG 20 (.mv (Tm 5)) 19 true,iG 21 (.bin .leq (Tm 20) (Ci 0)) 19 true,iA 22 (.pick (Tm 19) (Tm 21) (.const (.bool false))),iM 2 22]
def HF:aD:=(.seq (.region aDQ) (.seq (.region aDR) (.seq (.region aDS) (.seq (.region ZU) .ret))))
def a0N:List Nat:=[1]
def gone:bE:=⟨1,23,HF,[.tmp 2]⟩
def amP:Rg:=[iA 4 (.mv (.const (.bool false)))]
def amQ:Rg:=[iM 7 0,iN 8 7,iI 9 0]
def amR:Rg:=[iB 10 .lss 9 8]
def amS:Rg:=[iX 11 3 7 9,iA 12 (.load (some 3) (Tm 11)),iA 6 (.alloc [(.bool false),.nils,.nils]),iS 3 6 12]
def amT:Rg:=[iM 13 1,iA 14 (.load (some 3) (Tm 6)),iA 15 (.callv (Tm 13) [(Tm 14)]),iA 16 (.un .not (Tm 15))]
def amU:Rg:=[iA 4 (.mv (.const (.bool false)))]
def amV:Rg:=[iC 17 .add 9 1,iM 9 17]
def amO:aD:=(.seq (.region amR) (.seq (.cond (Tm 10) .skip (.exit 0)) (.seq (.block 1 (.seq (.region amS) (.seq (.region amT) (.cond (Tm 16) (.seq (.region amU) .ret) .skip)))) (.region amV))))
def amW:Rg:=[iA 4 (.mv (.const (.bool true)))]
def BI:aD:=(.seq (.region amP) (.seq (.seq (.region amQ) (.block 0 (.loop amO))) (.seq (.region amW) .ret)))
def aUT:List Nat:=[]
def UA:bE:=⟨2,18,BI,[.tmp 4]⟩
def amY:Rg:=[iA 4 (.mv (.const (.bool false)))]
def amZ:Rg:=[iM 7 0,iN 8 7,iI 9 0]
def anA:Rg:=[iB 10 .lss 9 8]
def anB:Rg:=[iX 11 1 7 9,iL 12 11,iM 6 12]
def anC:Rg:=[iM 13 1,iM 14 6,iA 15 (.callv (Tm 13) [(Tm 14)]),iA 16 (.un .not (Tm 15))]
def anD:Rg:=[iA 4 (.mv (.const (.bool false)))]
def anE:Rg:=[iC 17 .add 9 1,iM 9 17]
def amX:aD:=(.seq (.region anA) (.seq (.cond (Tm 10) .skip (.exit 0)) (.seq (.block 1 (.seq (.region anB) (.seq (.region anC) (.cond (Tm 16) (.seq (.region anD) .ret) .skip)))) (.region anE))))
def anF:Rg:=[iA 4 (.mv (.const (.bool true)))]
def BJ:aD:=(.seq (.region amY) (.seq (.seq (.region amZ) (.block 0 (.loop amX))) (.seq (.region anF) .ret)))
def aUV:List Nat:=[]
def UB:bE:=⟨2,18,BJ,[.tmp 4]⟩
def amG:Rg:=[iA 4 (.mv (.const (.bool false)))]
def amH:Rg:=[iM 7 0,iN 8 7,iI 9 0]
def amI:Rg:=[iB 10 .lss 9 8]
def amJ:Rg:=[iX 11 1 7 9,iL 12 11,iM 6 12]
def amK:Rg:=[iM 13 1,iM 14 6,iA 15 (.callv (Tm 13) [(Tm 14)]),iA 16 (.un .not (Tm 15))]
def amL:Rg:=[iA 4 (.mv (.const (.bool false)))]
def amM:Rg:=[iC 17 .add 9 1,iM 9 17]
def amF:aD:=(.seq (.region amI) (.seq (.cond (Tm 10) .skip (.exit 0)) (.seq (.block 1 (.seq (.region amJ) (.seq (.region amK) (.cond (Tm 16) (.seq (.region amL) .ret) .skip)))) (.region amM))))
def amN:Rg:=[iA 4 (.mv (.const (.bool true)))]
def BH:aD:=(.seq (.region amG) (.seq (.seq (.region amH) (.block 0 (.loop amF))) (.seq (.region amN) .ret)))
def aUR:List Nat:=[]
def TZ:bE:=⟨2,18,BH,[.tmp 4]⟩
def acD:Rg:=[iA 2 (.mv (.const (.bool false)))]
def acE:Rg:=[iM 3 0,iM 2 3]
def xH:aD:=(.seq (.region acD) (.seq (.region acE) .ret))
def aOP:List Nat:=[]
def GZ:bE:=⟨1,4,xH,[.tmp 2]⟩
def anJ:Rg:=[iA 1 (.box true (Tm 0)),iA 2 (.mv (.const (.bool false)))]
def anK:Rg:=[iF 8 3 1,iL 9 8,iN 10 9,iA 11 (.mkslice 1 1 [(.bool false)] (Tm 10) (Tm 10)),iM 3 11]
def anL:Rg:=[iI 4 0]
def anM:Rg:=[iM 12 4,iM 13 3,iN 14 13,iB 15 .leq 12 14]
def anN:Rg:=[iM 18 3,iN 19 18,iI 20 0]
def PU:Rg:=[iB 21 .lss 20 19]
def anO:Rg:=[iM 22 20,iM 5 22]
def PW:Rg:=[iM 23 3,iM 24 5,iM 25 3,iM 26 5,iX 27 1 25 26,iL 28 27,iM 29 28,iG 30 (.fieldA 3 (Tm 1)) 29 false,iG 31 (.load none (Tm 30)) 29 false,iG 32 (.mv (Tm 5)) 29 false,iG 33 (.idxS 3 (Tm 31) (Tm 32)) 29 false,iG 34 (.load (some 3) (Tm 33)) 29 false,iG 35 (.call 97 [(Tm 34)]) 29 false,iA 36 (.pick (Tm 29) (.const (.bool true)) (Tm 35)),iX 37 1 23 24,iS 1 37 36]
def PX:Rg:=[iF 38 2 1,iL 39 38,iM 40 5,iX 41 1 39 40,iL 42 41,iN 43 42,iI 44 0]
def anP:Rg:=[iB 45 .lss 44 43]
def acG:Rg:=[iM 46 44,iX 47 3 42 44,iA 48 (.load (some 3) (Tm 47)),iA 7 (.alloc [(.bool false),.nils,.nils]),iM 6 46,iS 3 7 48]
def HA:Rg:=[iM 49 3,iM 50 5,iM 51 3,iM 52 5,iX 53 1 51 52,iL 54 53,iM 55 54,iG 56 (.load (some 3) (Tm 7)) 55 false,iG 57 (.call 97 [(Tm 56)]) 55 false,iG 58 (.mv (Tm 57)) 55 false,iG 59 (.mv (Tm 3)) 58 true,iG 60 (.mv (Tm 6)) 58 true,iG 61 (.idxS 1 (Tm 59) (Tm 60)) 58 true,iG 62 (.load none (Tm 61)) 58 true,iG 63 (.pick (Tm 58) (Tm 62) (.const (.bool false))) 55 false,iA 64 (.pick (Tm 55) (.const (.bool true)) (Tm 63)),iX 65 1 49 50,iS 1 65 64]
def wC:Rg:=[iC 66 .add 44 1,iM 44 66]
def wA:aD:=(.seq (.region anP) (.seq (.cond (Tm 45) .skip (.exit 4)) (.seq (.block 5 (.seq (.region acG) (.region HA))) (.region wC))))
def HB:Rg:=[iC 67 .add 20 1,iM 20 67]
def wB:aD:=(.seq (.region PU) (.seq (.cond (Tm 21) .skip (.exit 2)) (.seq (.block 3 (.seq (.region anO) (.seq (.region PW) (.seq (.region PX) (.block 4 (.loop wA)))))) (.region HB))))
def acH:Rg:=[iM 16 4,iC 17 .add 16 1,iM 4 17]
def acF:aD:=(.seq (.seq (.region anM) (.cond (Tm 15) .skip (.exit 0))) (.seq (.block 1 (.seq (.region anN) (.block 2 (.loop wB)))) (.region acH)))
def acI:Rg:=[iM 68 3,iA 69 (.call 98 [(Tm 68),(.const (.fn 103 []))]),iM 2 69]
def BK:aD:=(.seq (.region anJ) (.seq (.region anK) (.seq (.seq (.region anL) (.block 0 (.loop acF))) (.seq (.region acI) .ret))))
def aUY:List Nat:=[1]
def UC:bE:=⟨1,70,BK,[.tmp 2]⟩
def aDD:Rg:=[iA 1 (.box true (Tm 0)),iA 2 (.mv (.const (.bool false)))]
def aDE:Rg:=[iF 12 1 1,iL 13 12,iN 14 13,iM 3 14]
def aDF:Rg:=[iM 15 3,iA 16 (.call 104 [(Tm 15),(Ci 1),(Ci 4)]),iA 17 (.un .not (Tm 16)),iM 18 17,iG 19 (.fieldA 3 (Tm 1)) 18 false,iG 20 (.load none (Tm 19)) 18 false,iG 21 (.len (Tm 20)) 18 false,iG 22 (.mv (Tm 3)) 18 false,iG 23 (.bin .neq (Tm 21) (Tm 22)) 18 false,iA 24 (.pick (Tm 18) (.const (.bool true)) (Tm 23)),iM 25 24,iG 26 (.fieldA 2 (Tm 1)) 25 false,iG 27 (.load none (Tm 26)) 25 false,iG 28 (.len (Tm 27)) 25 false,iG 29 (.mv (Tm 3)) 25 false,iG 30 (.bin .neq (Tm 28) (Tm 29)) 25 false,iA 31 (.pick (Tm 25) (.const (.bool true)) (Tm 30)),iM 32 31,iG 33 (.fieldA 1 (Tm 1)) 32 false,iG 34 (.load none (Tm 33)) 32 false,iG 35 (.call 99 [(Tm 34),(.const (.fn 105 []))]) 32 false,iG 36 (.un .not (Tm 35)) 32 false,iA 37 (.pick (Tm 32) (.const (.bool true)) (Tm 36)),iM 38 37,iG 39 (.fieldA 3 (Tm 1)) 38 false,iG 40 (.load none (Tm 39)) 38 false,iG 41 (.call 99 [(Tm 40),(.const (.fn 105 []))]) 38 false,iG 42 (.un .not (Tm 41)) 38 false,iA 43 (.pick (Tm 38) (.const (.bool true)) (Tm 42))]
def uD:Rg:=[iA 2 (.mv (.const (.bool false)))]
def aDG:Rg:=[iF 44 2 1,iL 45 44,iN 46 45,iI 47 0]
def aDH:Rg:=[iB 48 .lss 47 46]
def aDI:Rg:=[iM 49 47,iX 50 1 45 47,iL 51 50,iM 4 49,iM 5 51]
def aDJ:Rg:=[iM 52 5,iN 53 52,iM 54 3,iB 55 .neq 53 54,iM 56 55,iG 57 (.mv (Tm 5)) 56 false,iG 58 (.call 99 [(Tm 57),(.const (.fn 105 []))]) 56 false,iG 59 (.un .not (Tm 58)) 56 false,iA 60 (.pick (Tm 56) (.const (.bool true)) (Tm 59)),iM 61 60,iG 62 (.mv (Tm 5)) 61 false,iG 63 (.mv (Tm 4)) 61 false,iG 64 (.idxS 3 (Tm 62) (Tm 63)) 61 false,iG 65 (.load (some 3) (Tm 64)) 61 false,iG 66 (.call 97 [(Tm 65)]) 61 false,iA 67 (.pick (Tm 61) (.const (.bool true)) (Tm 66))]
def LZ:Rg:=[iA 2 (.mv (.const (.bool false)))]
def aDK:Rg:=[iC 68 .add 47 1,iM 47 68]
def anR:aD:=(.seq (.region aDH) (.seq (.cond (Tm 48) .skip (.exit 0)) (.seq (.block 1 (.seq (.region aDI) (.seq (.region aDJ) (.cond (Tm 67) (.seq (.region LZ) .ret) .skip)))) (.region aDK))))
def PY:Rg:=[iF 70 1 1,iL 71 70,iA 72 (.call 117 [(Tm 71)]),iM 69 72,iA 73 (.extract (Tm 69) 0),iA 74 (.extract (Tm 69) 1),iA 6 (.alloc [(.bool false),.nils,.nils]),iS 3 6 73,iM 7 74]
def BL:Rg:=[iA 76 (.call 115 [(Ci 1),(Ci 1)]),iM 75 76,iA 77 (.extract (Tm 75) 0),iA 78 (.extract (Tm 75) 1),iA 8 (.alloc [(.bool false),.nils,.nils]),iS 3 8 77,iM 9 78]
def BM:Rg:=[iA 80 (.load (some 3) (Tm 6)),iA 81 (.load (some 3) (Tm 8)),iA 82 (.call 114 [(Tm 80),(Tm 81)]),iM 79 82,iA 83 (.extract (Tm 79) 0),iA 84 (.extract (Tm 79) 1),iM 10 83,iM 11 84]
def qT:Rg:=[iM 85 7,iC 86 .eql 85 0,iM 87 86,iG 88 (.mv (Tm 10)) 87 true,iG 89 (.bin .eql (Tm 88) (Ci 0)) 87 true,iA 90 (.pick (Tm 87) (Tm 89) (.const (.bool false))),iM 91 90,iG 92 (.load (some 4) (Tm 1)) 91 true,iG 93 (.call 102 [(Tm 92)]) 91 true,iA 94 (.pick (Tm 91) (Tm 93) (.const (.bool false))),iM 2 94]
def HC:aD:=(.seq (.region aDD) (.seq (.region aDE) (.seq (.seq (.region aDF) (.cond (Tm 43) (.seq (.region uD) .ret) .skip)) (.seq (.seq (.region aDG) (.block 0 (.loop anR))) (.seq (.region PY) (.seq (.region BL) (.seq (.region BM) (.seq (.region qT) .ret))))))))
def a0H:List Nat:=[1]
def anQ:bE:=⟨1,95,HC,[.tmp 2]⟩
def aoH:Rg:=[iA 2 (.mv (.const (.bool false)))]
def aoI:Rg:=[iA 6 (.mkmap (false,[.str])),iM 3 6]
def aoJ:Rg:=[iM 7 0,iN 8 7,iI 9 0]
def aoK:Rg:=[iB 10 .lss 9 8]
def aoL:Rg:=[iX 11 1 7 9,iL 12 11,iM 5 12]
def aoM:Rg:=[iM 13 5,iA 14 (.call 123 [(Tm 13)]),iA 15 (.un .not (Tm 14)),iM 16 15,iG 17 (.mv (Tm 3)) 16 false,iG 18 (.mv (Tm 5)) 16 false,iG 19 (.lookup (false,[.str]) (.bool false) (Tm 17) (Tm 18) false) 16 false,iA 20 (.pick (Tm 16) (.const (.bool true)) (Tm 19))]
def QB:Rg:=[iA 2 (.mv (.const (.bool false)))]
def aoN:Rg:=[iM 21 3,iM 22 5,⟨none,.mapset (false,[.str]) (Tm 21) (Tm 22) (.const (.bool true)),none⟩]
def aoO:Rg:=[iC 23 .add 9 1,iM 9 23]
def aoG:aD:=(.seq (.region aoK) (.seq (.cond (Tm 10) .skip (.exit 0)) (.seq (.block 1 (.seq (.region aoL) (.seq (.seq (.region aoM) (.cond (Tm 20) (.seq (.region QB) .ret) .skip)) (.region aoN)))) (.region aoO))))
def acL:Rg:=[iA 2 (.mv (.const (.bool true)))]
def BQ:aD:=(.seq (.region aoH) (.seq (.region aoI) (.seq (.seq (.region aoJ) (.block 0 (.loop aoG))) (.seq (.region acL) .ret))))
def aVF:List Nat:=[]
def UH:bE:=⟨1,24,BQ,[.tmp 2]⟩
def ZS:Rg:=[iA 1 (.box true (Tm 0)),iA 2 (.mv (.const (.bool false)))]
def ZT:Rg:=[iF 6 3 1,iL 7 6,iN 8 7,iC 9 .eql 8 0]
def aCX:Rg:=[iA 2 (.mv (.const (.bool false)))]
def aCY:Rg:=[iF 10 3 1,iL 11 10,iA 12 (.idxS 7 (Tm 11) (Ci 0)),iA 13 (.load (some 7) (Tm 12)),iA 3 (.alloc [(.str []),(.int .i64 0),(.int .i64 0),(.int .i64 0),(.bool false),.nils,.nils]),iS 7 3 13]
def uC:Rg:=[iF 14 0 3,iL 15 14,iA 16 (.bin .neq (Tm 15) (.const (.str []))),iM 17 16,iG 18 (.fieldA 1 (Tm 3)) 17 false,iG 19 (.load none (Tm 18)) 17 false,iG 20 (.bin .neq (Tm 19) (Ci 0)) 17 false,iA 21 (.pick (Tm 17) (.const (.bool true)) (Tm 20)),iM 22 21,iG 23 (.fieldA 2 (Tm 3)) 22 false,iG 24 (.load none (Tm 23)) 22 false,iG 25 (.bin .neq (Tm 24) (Ci (-1))) 22 false,iA 26 (.pick (Tm 22) (.const (.bool true)) (Tm 25)),iM 27 26,iG 28 (.fieldA 3 (Tm 3)) 27 false,iG 29 (.load none (Tm 28)) 27 false,iG 30 (.bin .neq (Tm 29) (Ci 0)) 27 false,iA 31 (.pick (Tm 27) (.const (.bool true)) (Tm 30)),iM 32 31,iG 33 (.fieldA 4 (Tm 3)) 32 false,iG 34 (.load (some 3) (Tm 33)) 32 false,iG 35 (.call 105 [(Tm 34)]) 32 false,iG 36 (.un .not (Tm 35)) 32 false,iA 37 (.pick (Tm 32) (.const (.bool true)) (Tm 36)),iM 38 37,iG 39 (.fieldA 4 (Tm 3)) 38 false,iG 40 (.load (some 3) (Tm 39)) 38 false,iG 41 (.call 97 [(Tm 40)]) 38 false,iA 42 (.pick (Tm 38) (.const (.bool true)) (Tm 41))]
def qS:Rg:=[iA 2 (.mv (.const (.bool false)))]
def aCZ:Rg:=[iF 43 3 1,iL 44 43,iA 45 (.slice 7 (Tm 44) (some (Ci 1)) none none),iN 46 45,iI 47 0]
def aDA:Rg:=[iB 48 .lss 47 46]
def aDB:Rg:=[iM 49 47,iX 50 7 45 47,iA 51 (.load (some 7) (Tm 50)),iA 5 (.alloc [(.str []),(.int .i64 0),(.int .i64 0),(.int .i64 0),(.bool false),.nils,.nils]),iM 4 49,iS 7 5 51]
def aDC:Rd:=[(iF 52 2 5,false),(iL 53 52,false),(iM 54 4,false),(iA 55 (.call 104 [(Tm 53),(Ci 0),(Tm 54)]),true),(iA 56 (.un .not (Tm 55)),false),(iM 57 56,false),(iG 58 (.fieldA 3 (Tm 1)) 57 false,false),(iG 59 (.load none (Tm 58)) 57 false,false),(iG 60 (.fieldA 2 (Tm 5)) 57 false,false),(iG 61 (.load none (Tm 60)) 57 false,false),(iG 62 (.idxS 7 (Tm 59) (Tm 61)) 57 false,false),(iG 63 (.fieldA 1 (Tm 62)) 57 false,false),(iG 64 (.load none (Tm 63)) 57 false,false),(iG 65 (.fieldA 1 (Tm 5)) 57 false,false),(iG 66 (.load none (Tm 65)) 57 false,false),(iG 67 (.bin .sub (Tm 66) (Ci 1)) 57 false,false),(iG 68 (.bin .neq (Tm 64) (Tm 67)) 57 false,false),(iA 69 (.pick (Tm 57) (.const (.bool true)) (Tm 68)),false),(iM 70 69,false),(iG 71 (.fieldA 1 (Tm 5)) 70 false,false),(iG 72 (.load none (Tm 71)) 70 false,false),(iG 73 (.call 104 [(Tm 72),(Ci 1),(Ci 4)]) 70 false,true),(iG 74 (.un .not (Tm 73)) 70 false,false),(iA 75 (.pick (Tm 70) (.const (.bool true)) (Tm 74)),false),(iM 76 75,false),(iG 77 (.fieldA 3 (Tm 5)) 76 false,false),(iG 78 (.load none (Tm 77)) 76 false,false),(iG 79 (.call 104 [(Tm 78),(Ci 1),(Ci 64)]) 76 false,true),(iG 80 (.un .not (Tm 79)) 76 false,false),(iA 81 (.pick (Tm 76) (.const (.bool true)) (Tm 80)),false),(iM 82 81,false),(iG 83 (.fieldA 4 (Tm 5)) 82 false,false),(iG 84 (.load (some 3) (Tm 83)) 82 false,false),(iG 85 (.call 105 [(Tm 84)]) 82 false,true),(iG 86 (.un .not (Tm 85)) 82 false,false),(iA 87 (.pick (Tm 82) (.const (.bool true)) (Tm 86)),false)]
def qR:Rg:=[iA 2 (.mv (.const (.bool false)))]
def anH:Rg:=[iC 88 .add 47 1,iM 47 88]
def anG:aD:=(.seq (.region aDA) (.seq (.cond (Tm 48) .skip (.exit 0)) (.seq (.block 1 (.seq (.region aDB) (.seq (.draw aDC) (.cond (Tm 87) (.seq (.region qR) .ret) .skip)))) (.region anH))))
def anI:Rg:=[iA 2 (.mv (.const (.bool true)))]
def vZ:aD:=(.seq (.region ZS) (.seq (.seq (.region ZT) (.cond (Tm 9) (.seq (.region aCX) .ret) .skip)) (.seq (.region aCY) (.seq (.seq (.region uC) (.cond (Tm 42) (.seq (.region qS) .ret) .skip)) (.seq (.seq (.region aCZ) (.block 0 (.loop anG))) (.seq (.region anI) .ret))))))
def a0F:List Nat:=[1]
def ZR:bE:=⟨1,89,vZ,[.tmp 2]⟩
def anU:Rg:=[iA 2 (.mv (.const (.bool false)))]
def anV:Rg:=[iM 3 0,iA 4 (.call 104 [(Tm 3),(Ci 0),(Ci 8)]),iM 2 4]
def BN:aD:=(.seq (.region anU) (.seq (.region anV) .ret))
def aVA:List Nat:=[]
def UF:bE:=⟨1,5,BN,[.tmp 2]⟩
def aDN:Rg:=[iA 7 (.box true (Tm 3)),iA 8 (.mv (.const (.bool false)))]
def aDO:Rg:=[iM 9 0,iA 10 (.call 104 [(Tm 9),(Ci 1),(Ci 6)]),iA 11 (.un .not (Tm 10)),iM 12 11,iG 13 (.mv (Tm 1)) 12 false,iG 14 (.call 104 [(Tm 13),(Ci 0),(Ci 4)]) 12 false,iG 15 (.un .not (Tm 14)) 12 false,iA 16 (.pick (Tm 12) (.const (.bool true)) (Tm 15)),iM 17 16,iG 18 (.mv (Tm 0)) 17 false,iG 19 (.mv (Tm 1)) 17 false,iG 20 (.bin .add (Tm 18) (Tm 19)) 17 false,iG 21 (.bin .gtr (Tm 20) (Ci 8)) 17 false,iA 22 (.pick (Tm 17) (.const (.bool true)) (Tm 21)),iM 23 22,iG 24 (.mv (Tm 2)) 23 false,iG 25 (.mv (Tm 0)) 23 false,iG 26 (.mv (Tm 0)) 23 false,iG 27 (.mv (Tm 1)) 23 false,iG 28 (.bin .add (Tm 26) (Tm 27)) 23 false,iG 29 (.call 104 [(Tm 24),(Tm 25),(Tm 28)]) 23 false,iG 30 (.un .not (Tm 29)) 23 false,iA 31 (.pick (Tm 23) (.const (.bool true)) (Tm 30)),iM 32 31,iG 33 (.idxA 5 1 (Tm 7) (Ci 0)) 32 false,iG 34 (.load none (Tm 33)) 32 false,iG 35 (.bin .neq (Tm 34) (Ci 0)) 32 false,iA 36 (.pick (Tm 32) (.const (.bool true)) (Tm 35))]
def uE:Rg:=[iA 8 (.mv (.const (.bool false)))]
def aDP:Rg:=[iA 37 (.sliceA 5 1 (Tm 7) none none none),iA 38 (.call 100 [(Tm 37),(.const (.fn 107 []))]),iM 8 38]
def HE:aD:=(.seq (.region aDN) (.seq (.seq (.region aDO) (.cond (Tm 36) (.seq (.region uE) .ret) .skip)) (.seq (.region aDP) .ret)))
def a0L:List Nat:=[7]
def anT:bE:=⟨4,39,HE,[.tmp 8]⟩
def acJ:Rg:=[iA 1 (.box true (Tm 0)),iA 2 (.mv (.const (.bool false)))]
def acK:Rg:=[iA 3 (.load (some 3) (Tm 1)),iA 4 (.call 105 [(Tm 3)]),iM 5 4,iG 6 (.load (some 3) (Tm 1)) 5 true,iG 7 (.call 97 [(Tm 6)]) 5 true,iA 8 (.pick (Tm 5) (Tm 7) (.const (.bool false))),iM 2 8]
def xI:aD:=(.seq (.region acJ) (.seq (.region acK) .ret))
def aOS:List Nat:=[1]
def HH:bE:=⟨1,9,xI,[.tmp 2]⟩
def aoA:Rg:=[iA 6 (.box true (Tm 2)),iA 7 (.box true (Tm 3)),iA 8 (.mv (.const (.bool false)))]
def aoB:Rg:=[iM 9 1,iN 10 9,iM 11 0,iA 12 (.minmax true (Tm 11) (Ci 1)),iB 13 .eql 10 12,iM 14 13,iG 15 (.mv (Tm 1)) 14 true,iG 16 (.call 99 [(Tm 15),(.const (.fn 109 []))]) 14 true,iA 17 (.pick (Tm 14) (Tm 16) (.const (.bool false))),iM 18 17,iG 19 (.load (some 3) (Tm 6)) 18 true,iG 20 (.call 105 [(Tm 19)]) 18 true,iA 21 (.pick (Tm 18) (Tm 20) (.const (.bool false))),iM 22 21,iG 23 (.load (some 3) (Tm 6)) 22 true,iG 24 (.call 101 [(Tm 23)]) 22 true,iA 25 (.pick (Tm 22) (Tm 24) (.const (.bool false))),iM 26 25,iG 27 (.load (some 3) (Tm 7)) 26 true,iG 28 (.call 105 [(Tm 27)]) 26 true,iA 29 (.pick (Tm 26) (Tm 28) (.const (.bool false))),iM 8 29]
def BO:aD:=(.seq (.region aoA) (.seq (.region aoB) .ret))
def aVC:List Nat:=[6,7]
def UG:bE:=⟨4,30,BO,[.tmp 8]⟩
def aDT:Rg:=[iA 2 (.box true (Tm 0)),iA 4 (.mv (.const (.bool false)))]
def aDU:Rg:=[iF 8 1 2,iL 9 8,iF 10 2 2,iL 11 10,iF 12 3 2,iL 13 12,iF 14 4 2,iA 15 (.load (some 5) (Tm 14)),iA 16 (.call 106 [(Tm 9),(Tm 11),(Tm 13),(Tm 15)]),iA 17 (.un .not (Tm 16)),iM 18 17,iG 19 (.fieldA 9 (Tm 2)) 18 false,iG 20 (.load none (Tm 19)) 18 false,iG 21 (.len (Tm 20)) 18 false,iG 22 (.bin .eql (Tm 21) (Ci 0)) 18 false,iA 23 (.pick (Tm 18) (.const (.bool true)) (Tm 22)),iM 24 23,iG 25 (.fieldA 2 (Tm 2)) 24 false,iG 26 (.load none (Tm 25)) 24 false,iG 27 (.fieldA 10 (Tm 2)) 24 false,iG 28 (.load none (Tm 27)) 24 false,iG 29 (.fieldA 11 (Tm 2)) 24 false,iG 30 (.load (some 3) (Tm 29)) 24 false,iG 31 (.fieldA 14 (Tm 2)) 24 false,iG 32 (.load (some 3) (Tm 31)) 24 false,iG 33 (.call 108 [(Tm 26),(Tm 28),(Tm 30),(Tm 32)]) 24 false,iG 34 (.un .not (Tm 33)) 24 false,iA 35 (.pick (Tm 24) (.const (.bool true)) (Tm 34))]
def MB:Rg:=[iA 4 (.mv (.const (.bool false)))]
def aDV:Rg:=[iM 36 1,iA 37 (.mkslice 1 1 [(.bool false)] (Tm 36) (Tm 36)),iM 5 37]
def aDW:Rg:=[iF 38 9 2,iL 39 38,iN 40 39,iI 41 0]
def aDX:Rg:=[iB 42 .lss 41 40]
def aDY:Rg:=[iX 43 1 39 41,iL 44 43,iM 7 44]
def aDZ:Rg:=[iM 45 7,iM 46 1,iC 47 .sub 46 1,iA 48 (.call 104 [(Tm 45),(Ci 0),(Tm 47)]),iA 49 (.un .not (Tm 48)),iM 50 49,iG 51 (.mv (Tm 5)) 50 false,iG 52 (.mv (Tm 7)) 50 false,iG 53 (.idxS 1 (Tm 51) (Tm 52)) 50 false,iG 54 (.load none (Tm 53)) 50 false,iA 55 (.pick (Tm 50) (.const (.bool true)) (Tm 54))]
def ZV:Rg:=[iA 4 (.mv (.const (.bool false)))]
def aEA:Rg:=[iM 56 5,iM 57 7,iX 58 1 56 57,⟨none,.store 1 (Tm 58) (.const (.bool true)),none⟩]
def anY:Rg:=[iC 59 .add 41 1,iM 41 59]
def anX:aD:=(.seq (.region aDX) (.seq (.cond (Tm 42) .skip (.exit 0)) (.seq (.block 1 (.seq (.region aDY) (.seq (.seq (.region aDZ) (.cond (Tm 55) (.seq (.region ZV) .ret) .skip)) (.region aEA)))) (.region anY))))
def anZ:Rg:=[iA 4 (.mv (.const (.bool true)))]
def HG:aD:=(.seq (.region aDT) (.seq (.seq (.region aDU) (.cond (Tm 35) (.seq (.region MB) .ret) .skip)) (.seq (.region aDV) (.seq (.seq (.region aDW) (.block 0 (.loop anX))) (.seq (.region anZ) .ret)))))
def a0P:List Nat:=[2]
def anW:bE:=⟨2,60,HG,[.tmp 4]⟩
def aEB:Rg:=[iA 1 (.box true (Tm 0)),iI 2 0]
def aEC:Rg:=[iF 21 0 1,iL 22 21,iA 23 (.call 104 [(Tm 22),(Ci 1),(Ci 4)]),iA 24 (.un .not (Tm 23)),iM 25 24,iG 26 (.fieldA 1 (Tm 1)) 25 false,iG 27 (.load none (Tm 26)) 25 false,iG 28 (.len (Tm 27)) 25 false,iG 29 (.bin .gtr (Tm 28) (Ci 4)) 25 false,iA 30 (.pick (Tm 25) (.const (.bool true)) (Tm 29)),iM 31 30,iG 32 (.fieldA 2 (Tm 1)) 31 false,iG 33 (.load none (Tm 32)) 31 false,iG 34 (.len (Tm 33)) 31 false,iG 35 (.bin .gtr (Tm 34) (Ci 4)) 31 false,iA 36 (.pick (Tm 31) (.const (.bool true)) (Tm 35)),iM 37 36,iG 38 (.fieldA 3 (Tm 1)) 37 false,iG 39 (.load none (Tm 38)) 37 false,iG 40 (.len (Tm 39)) 37 false,iG 41 (.bin .gtr (Tm 40) (Ci 40)) 37 false,iA 42 (.pick (Tm 37) (.const (.bool true)) (Tm 41)),iM 43 42,iG 44 (.fieldA 4 (Tm 1)) 43 false,iG 45 (.load none (Tm 44)) 43 false,iG 46 (.len (Tm 45)) 43 false,iG 47 (.bin .gtr (Tm 46) (Ci 24)) 43 false,iA 48 (.pick (Tm 43) (.const (.bool true)) (Tm 47)),iM 49 48,iG 50 (.fieldA 5 (Tm 1)) 49 false,iG 51 (.load none (Tm 50)) 49 false,iG 52 (.len (Tm 51)) 49 false,iG 53 (.bin .gtr (Tm 52) (Ci 4)) 49 false,iA 54 (.pick (Tm 49) (.const (.bool true)) (Tm 53)),iM 55 54,iG 56 (.fieldA 6 (Tm 1)) 55 false,iG 57 (.load none (Tm 56)) 55 false,iG 58 (.len (Tm 57)) 55 false,iG 59 (.bin .gtr (Tm 58) (Ci 12)) 55 false,iA 60 (.pick (Tm 55) (.const (.bool true)) (Tm 59)),iM 61 60,iG 62 (.load (some 7) (Tm 1)) 61 false,iG 63 (.call 111 [(Tm 62)]) 61 false,iG 64 (.un .not (Tm 63)) 61 false,iA 65 (.pick (Tm 61) (.const (.bool true)) (Tm 64))]
def mW:Rg:=[iI 2 1]
def aED:Rg:=[iA 3 (.mv (.const .nils)),iA 4 (.mv (.const .nils)),iA 5 (.mv (.const .nils)),iA 6 (.mv (.const .nils)),iA 7 (.mv (.const .nils))]
def aEE:Rg:=[iA 8 (.mv (.const (.bool true)))]
def ZW:Rg:=[iF 66 1 1,iL 67 66,iN 68 67,iI 69 0]
def aEF:Rg:=[iB 70 .lss 69 68]
def aEG:Rg:=[iX 71 4 67 69,iA 72 (.load (some 4) (Tm 71)),iA 10 (.alloc [(.str []),.nils,.nils,.nils]),iS 4 10 72]
def aEH:Rg:=[iM 73 3,iF 74 0 10,iL 75 74,iA 76 (.bslice true 1 1 [(.str [])] [(0,(Tm 75))]),iA 77 (.append 1 16 (Tm 73) (Tm 76)),iM 3 77]
def ZX:Rg:=[iM 78 8,iM 79 78,iG 80 (.load (some 4) (Tm 10)) 79 true,iG 81 (.call 95 [(Tm 80)]) 79 true,iA 82 (.pick (Tm 79) (Tm 81) (.const (.bool false))),iM 8 82]
def QC:Rg:=[iC 83 .add 69 1,iM 69 83]
def BR:aD:=(.seq (.region aEF) (.seq (.cond (Tm 70) .skip (.exit 0)) (.seq (.block 1 (.seq (.region aEG) (.seq (.region aEH) (.region ZX)))) (.region QC))))
def QD:Rg:=[iF 84 2 1,iL 85 84,iN 86 85,iI 87 0]
def aoQ:Rg:=[iB 88 .lss 87 86]
def aoR:Rg:=[iX 89 4 85 87,iA 90 (.load (some 4) (Tm 89)),iA 12 (.alloc [(.str []),(.int .i64 0),(.int .i64 0),(.int .i64 0)]),iS 4 12 90]
def aoS:Rg:=[iM 91 4,iF 92 0 12,iL 93 92,iA 94 (.bslice true 1 1 [(.str [])] [(0,(Tm 93))]),iA 95 (.append 1 16 (Tm 91) (Tm 94)),iM 4 95]
def QE:Rg:=[iM 96 8,iM 97 96,iG 98 (.fieldA 1 (Tm 12)) 97 true,iG 99 (.load none (Tm 98)) 97 true,iG 100 (.call 104 [(Tm 99),(Ci 1),(Ci 16)]) 97 true,iA 101 (.pick (Tm 97) (Tm 100) (.const (.bool false))),iM 102 101,iG 103 (.fieldA 2 (Tm 12)) 102 true,iG 104 (.load none (Tm 103)) 102 true,iG 105 (.call 104 [(Tm 104),(Ci 1),(Ci 64)]) 102 true,iA 106 (.pick (Tm 102) (Tm 105) (.const (.bool false))),iM 107 106,iG 108 (.fieldA 3 (Tm 12)) 107 true,iG 109 (.load none (Tm 108)) 107 true,iG 110 (.fieldA 1 (Tm 1)) 107 true,iG 111 (.load none (Tm 110)) 107 true,iG 112 (.len (Tm 111)) 107 true,iG 113 (.bin .sub (Tm 112) (Ci 1)) 107 true,iG 114 (.call 104 [(Tm 109),(Ci 0),(Tm 113)]) 107 true,iA 115 (.pick (Tm 107) (Tm 114) (.const (.bool false))),iM 8 115]
def uT:Rg:=[iC 116 .add 87 1,iM 87 116]
def BS:aD:=(.seq (.region aoQ) (.seq (.cond (Tm 88) .skip (.exit 2)) (.seq (.block 3 (.seq (.region aoR) (.seq (.region aoS) (.region QE)))) (.region uT))))
def QF:Rg:=[iF 117 3 1,iL 118 117,iA 119 (.slice 7 (Tm 118) (some (Ci 1)) none none),iN 120 119,iI 121 0]
def aoT:Rg:=[iB 122 .lss 121 120]
def aoU:Rg:=[iX 123 7 119 121,iA 124 (.load (some 7) (Tm 123)),iA 14 (.alloc [(.str []),(.int .i64 0),(.int .i64 0),(.int .i64 0),(.bool false),.nils,.nils]),iS 7 14 124]
def aoV:Rg:=[iM 125 5,iF 126 0 14,iL 127 126,iA 128 (.bslice true 1 1 [(.str [])] [(0,(Tm 127))]),iA 129 (.append 1 16 (Tm 125) (Tm 128)),iM 5 129]
def aoW:Rg:=[iC 130 .add 121 1,iM 121 130]
def BT:aD:=(.seq (.region aoT) (.seq (.cond (Tm 122) .skip (.exit 4)) (.seq (.block 5 (.seq (.region aoU) (.region aoV))) (.region aoW))))
def QG:Rg:=[iF 131 4 1,iL 132 131,iN 133 132,iI 134 0]
def aoX:Rg:=[iB 135 .lss 134 133]
def aoY:Rg:=[iX 136 3 132 134,iA 137 (.load (some 3) (Tm 136)),iA 16 (.alloc [(.str []),(.int .i64 0),(.int .i64 0)]),iS 3 16 137]
def aoZ:Rg:=[iM 138 5,iF 139 0 16,iL 140 139,iA 141 (.bslice true 1 1 [(.str [])] [(0,(Tm 140))]),iA 142 (.append 1 16 (Tm 138) (Tm 141)),iM 5 142]
def QH:Rg:=[iM 143 8,iM 144 143,iG 145 (.fieldA 1 (Tm 16)) 144 true,iG 146 (.load none (Tm 145)) 144 true,iG 147 (.fieldA 2 (Tm 1)) 144 true,iG 148 (.load none (Tm 147)) 144 true,iG 149 (.len (Tm 148)) 144 true,iG 150 (.bin .sub (Tm 149) (Ci 1)) 144 true,iG 151 (.call 104 [(Tm 146),(Ci 0),(Tm 150)]) 144 true,iA 152 (.pick (Tm 144) (Tm 151) (.const (.bool false))),iM 153 152,iG 154 (.fieldA 2 (Tm 16)) 153 true,iG 155 (.load none (Tm 154)) 153 true,iG 156 (.fieldA 3 (Tm 1)) 153 true,iG 157 (.load none (Tm 156)) 153 true,iG 158 (.len (Tm 157)) 153 true,iG 159 (.bin .sub (Tm 158) (Ci 1)) 153 true,iG 160 (.call 104 [(Tm 155),(Ci 0),(Tm 159)]) 153 true,iA 161 (.pick (Tm 153) (Tm 160) (.const (.bool false))),iM 162 161,iG 163 (.fieldA 3 (Tm 1)) 162 true,iG 164 (.load none (Tm 163)) 162 true,iG 165 (.fieldA 2 (Tm 16)) 162 true,iG 166 (.load none (Tm 165)) 162 true,iG 167 (.idxS 7 (Tm 164) (Tm 166)) 162 true,iG 168 (.fieldA 1 (Tm 167)) 162 true,iG 169 (.load none (Tm 168)) 162 true,iG 170 (.bin .eql (Tm 169) (Ci 4)) 162 true,iA 171 (.pick (Tm 162) (Tm 170) (.const (.bool false))),iM 8 171]
def qU:Rg:=[iC 172 .add 134 1,iM 134 172]
def BU:aD:=(.seq (.region aoX) (.seq (.cond (Tm 135) .skip (.exit 6)) (.seq (.block 7 (.seq (.region aoY) (.seq (.region aoZ) (.region QH)))) (.region qU))))
def QI:Rg:=[iF 173 5 1,iL 174 173,iN 175 174,iI 176 0]
def apA:Rg:=[iB 177 .lss 176 175]
def apB:Rg:=[iX 178 17 174 176,iA 179 (.load (some 17) (Tm 178)),iA 18 (.alloc [(.str []),(.int .i64 0),(.int .i64 0),(.int .i64 0),(.int .i64 0),(.int .i64 0),(.int .i64 0),(.int .i64 0),(.int .i64 0),.nils,.nils,(.bool false),.nils,.nils,(.bool false),.nils,.nils]),iS 17 18 179]
def apC:Rg:=[iM 180 6,iF 181 0 18,iL 182 181,iA 183 (.bslice true 1 1 [(.str [])] [(0,(Tm 182))]),iA 184 (.append 1 16 (Tm 180) (Tm 183)),iM 6 184]
def QJ:Rg:=[iM 185 8,iM 186 185,iG 187 (.load (some 17) (Tm 18)) 186 true,iG 188 (.fieldA 2 (Tm 1)) 186 true,iG 189 (.load none (Tm 188)) 186 true,iG 190 (.len (Tm 189)) 186 true,iG 191 (.call 112 [(Tm 187),(Tm 190)]) 186 true,iA 192 (.pick (Tm 186) (Tm 191) (.const (.bool false))),iM 8 192]
def QK:Rg:=[iC 193 .add 176 1,iM 176 193]
def BV:aD:=(.seq (.region apA) (.seq (.cond (Tm 177) .skip (.exit 8)) (.seq (.block 9 (.seq (.region apB) (.seq (.region apC) (.region QJ)))) (.region QK))))
def QL:Rg:=[iF 194 6 1,iL 195 194,iN 196 195,iI 197 0]
def apD:Rg:=[iB 198 .lss 197 196]
def apE:Rg:=[iX 199 2 195 197,iA 200 (.load (some 2) (Tm 199)),iA 20 (.alloc [(.str []),(.int .i64 0)]),iS 2 20 200]
def apF:Rg:=[iM 201 7,iF 202 0 20,iL 203 202,iA 204 (.bslice true 1 1 [(.str [])] [(0,(Tm 203))]),iA 205 (.append 1 16 (Tm 201) (Tm 204)),iM 7 205]
def QM:Rg:=[iM 206 8,iM 207 206,iG 208 (.fieldA 1 (Tm 20)) 207 true,iG 209 (.load none (Tm 208)) 207 true,iG 210 (.fieldA 5 (Tm 1)) 207 true,iG 211 (.load none (Tm 210)) 207 true,iG 212 (.len (Tm 211)) 207 true,iG 213 (.bin .sub (Tm 212) (Ci 1)) 207 true,iG 214 (.call 104 [(Tm 209),(Ci 0),(Tm 213)]) 207 true,iA 215 (.pick (Tm 207) (Tm 214) (.const (.bool false))),iM 8 215]
def QN:Rg:=[iC 216 .add 197 1,iM 197 216]
def BW:aD:=(.seq (.region apD) (.seq (.cond (Tm 198) .skip (.exit 10)) (.seq (.block 11 (.seq (.region apE) (.seq (.region apF) (.region QM)))) (.region QN))))
def uU:Rg:=[iM 217 8,iA 218 (.un .not (Tm 217)),iM 219 218,iG 220 (.mv (Tm 3)) 219 false,iG 221 (.call 110 [(Tm 220)]) 219 false,iG 222 (.un .not (Tm 221)) 219 false,iA 223 (.pick (Tm 219) (.const (.bool true)) (Tm 222)),iM 224 223,iG 225 (.mv (Tm 4)) 224 false,iG 226 (.call 110 [(Tm 225)]) 224 false,iG 227 (.un .not (Tm 226)) 224 false,iA 228 (.pick (Tm 224) (.const (.bool true)) (Tm 227)),iM 229 228,iG 230 (.mv (Tm 5)) 229 false,iG 231 (.call 110 [(Tm 230)]) 229 false,iG 232 (.un .not (Tm 231)) 229 false,iA 233 (.pick (Tm 229) (.const (.bool true)) (Tm 232)),iM 234 233,iG 235 (.mv (Tm 6)) 234 false,iG 236 (.call 110 [(Tm 235)]) 234 false,iG 237 (.un .not (Tm 236)) 234 false,iA 238 (.pick (Tm 234) (.const (.bool true)) (Tm 237)),iM 239 238,iG 240 (.mv (Tm 7)) 239 false,iG 241 (.call 110 [(Tm 240)]) 239 false,iG 242 (.un .not (Tm 241)) 239 false,iA 243 (.pick (Tm 239) (.const (.bool true)) (Tm 242))]
def lE:Rg:=[iI 2 1]
def BY:Rg:=[iI 2 0]
def HI:aD:=(.seq (.region aEB) (.seq (.seq (.region aEC) (.cond (Tm 65) (.seq (.region mW) .ret) .skip)) (.seq (.region aED) (.seq (.region aEE) (.seq (.seq (.region ZW) (.block 0 (.loop BR))) (.seq (.seq (.region QD) (.block 2 (.loop BS))) (.seq (.seq (.region QF) (.block 4 (.loop BT))) (.seq (.seq (.region QG) (.block 6 (.loop BU))) (.seq (.seq (.region QI) (.block 8 (.loop BV))) (.seq (.seq (.region QL) (.block 10 (.loop BW))) (.seq (.seq (.region uU) (.cond (Tm 243) (.seq (.region lE) .ret) .skip)) (.seq (.region BY) .ret))))))))))))
def a0S:List Nat:=[1,76,94,128,141,183,204]
def aoP:bE:=⟨1,244,HI,[.tmp 2]⟩
end Go.PM
namespace Go.PM
open Go
@[go_sem] theorem a7D (a b:List UInt8):GA .eql a b=some (.bool (a==b)):=rfl
@[go_sem] theorem a7E (a b:List UInt8):GA .neq a b=some (.bool !(a==b)):=rfl
@[go_sem] theorem aIS (a b:List UInt8):GA .add a b=if ((a.length+b.length:Nat):Int)>9223372036854775807 then none else some (.str (a++b)):=rfl
@[go_sem] theorem a4A:(([]:List UInt8)==[])=true:=rfl
@[go_sem] theorem aZJ (c:UInt8) (t:List UInt8):((c::t)==[])=false:=rfl
theorem mR {a b:List UInt8} (h:a=b):(a==b)=true:=by simp[h]
theorem TC {a b:List UInt8} (h:a≠b):(a==b)=false:=by simp[h]
section
variable {C:Ctx} {F:PF} {H:PH}
theorem nP {name o s:Nat} {rs:List (List PV)} {vs:List PV} {v:PV} {args:List aM} {d:Option Nat} {K:PF→PH→Prop} (h:aI C name vs .nil (aK v)) (ho:H o=some (.rows s rs))
  (ha:aM.evs (F.frz o s rs) args=some vs) (hK:K ((F.frz o s rs).put d v) (H.frz o s rs)):fZ C name args [] d K F H:=by
 refine .inr ⟨_,_,.step o ho (.refl _ _),vs,.nil,aK v,?_,PH.nil_le,h,?_⟩
 ·rw[ha]; simp
 ·rintro r H' ⟨rfl,rfl⟩ -
  rw[PH.vE]
  exact hK
theorem gF.trans {F1 F2 F3:PF} {H1 H2 H3:PH} (h:gF F1 H1 F2 H2) (k:gF F2 H2 F3 H3):gF F1 H1 F3 H3:=by
 induction h with
 | refl=>exact k
 | step o ho h ih=>exact .step o ho (ih k)
theorem nH {c:aD} {K:cC} {s:Nat} {v:PV} {rows:List (List PV)} (ho:bB H s v rows)
  (h:∀ v1,Seen s v1 rows→∀ F1 H1,(∀ t,F t=some v→F1 t=some v1)→(∀ i u,F i=some u→Pure u→F1 i=some u)→aD.wp C (.loop c) K F1 H1):aD.wp C (.loop c) K F H:=by
 obtain⟨v1,hs,hf⟩:=ho.frz
 obtain⟨F1,H1,hz,h1,h2⟩:=hf F
 obtain⟨α,Fs,Hs,Pr,m,a0,F2,H2,hz2,rest⟩:=h v1 hs F1 H1 h1 h2
 exact⟨α,Fs,Hs,Pr,m,a0,F2,H2,hz.trans hz2,rest⟩
theorem aI.aMR {name s:Nat} {v:PV} {rows:List (List PV)} {H0:PH} {R:PV→PH→Prop} (h:aI C name [.sl s rows] H0 R) (hs:Seen s v rows):aI C name [v] H0 R:=by
 rcases hs with ⟨rfl,rfl⟩ | rfl
 ·refine h.args ⟨rfl,fun j p q hp hq=>?_⟩
  cases j with
  | zero=>simp at hp hq; subst hp; subst hq; exact .nil s
  | succ j=>simp at hp
 ·exact h
theorem bB.fresh {s:Nat} {v:PV} {rows:List (List PV)} {o:Nat} (h:bB H s v rows) (ho:H o=none) (x:bV):bB (H.set o x) s v rows∧∀ l,v≠.osl o s 0 l:=by
 refine⟨h.ext fun q y hq=>?_,fun l e=>?_⟩
 ·have:q≠o:=by rintro rfl; rw[ho] at hq; cases hq
  simp only[aV,if_neg this,hq]
 ·rcases h with ⟨_,h2⟩ | ⟨q,rs,h1,h2,_⟩
  ·rw[h2] at e; cases e
  ·rw[h1] at e
   injection e with e1
   subst e1
   rw[ho] at h2; cases h2
theorem kO {s b:Nat} {v:PV} {rows:List (List PV)} {r:List PV} {o:Nat} {x:bV} {K:PV→PH→Prop} (h:bB H s v rows) (ho:H o=none) (hr:roomFor rows.length 1 b)
  (hk:∀ v' H',bB H' s v' (rows++[r])→H' o=some x→K v' H'):mN (H.set o x) s b v (.sl s [r]) K:=by
 obtain⟨h1,h2⟩:=h.fresh ho x
 refine fC (src:=[r]) h1 (by simp[dL]) hr fun v' H' hO hp=>hk v' H' hO (hp o x (by simp only[aV,if_true]) h2)
theorem zY {o s k:Nat} {rs:List (List PV)} (hk:k≤rs.length):PV.frz o s rs (.osl o s 0 k)=.sl s (rs.take k):=by
 have:0+k≤rs.length:=by omega
 simp only[PV.frz,PV.pT,PV.cX,if_true,true_and,if_pos this,bhT]
end
end Go.PM
namespace Go.PM
open Go Go.Na
def fY (n:Nat):Bool:=decide (97≤n)&&decide (n≤122)||decide (65≤n)&&decide (n≤90)
def pN (n:Nat):Bool:=decide (48≤n)&&decide (n≤57)
def fX (n:Nat):Bool:=fY n||pN n||decide (n=45)||decide (n=46)
theorem aKQ {C:Ctx} (n:Nat):jJ.wp C (aX uG.res (aK (.bool (fY n)))) (PF.args [.int .u8 n]) .nil:=by
 have fin:∀ (F:PF) (b:Bool),F 2=some (.bool b)→b=fY n→aX uG.res (aK (.bool (fY n))) .ret F .nil:=by
  intro F b h e
  subst e
  refine bZ (.inr rfl) (vs:=[.bool (fY n)]) (by simp -implicitDefEqProofs only[go_sem,uG,h]) rfl
 unfold fY at *
 by_cases a:97≤n
 ·have a':(n:Int)≥97:=by omega
  by_cases b:n≤122
  ·have b':(n:Int)≤122:=by omega
   simp -implicitDefEqProofs only[go_sem,γ,reduceCtorEq,jJ,mX,mY,a',b']
   exact fin _ _ rfl (by simp[a,b])
  ·have b':¬ (n:Int)≤122:=by omega
   by_cases c:65≤n
   ·have c':(n:Int)≥65:=by omega
    have d:¬ (n:Int)≤90:=by omega
    simp -implicitDefEqProofs only[go_sem,γ,reduceCtorEq,jJ,mX,mY,a',b',c',d]
    exact fin _ _ rfl (by simp[a,b,c]; omega)
   ·omega
 ·have a':¬ (n:Int)≥97:=by omega
  by_cases c:65≤n
  ·have c':(n:Int)≥65:=by omega
   by_cases d:n≤90
   ·have d':(n:Int)≤90:=by omega
    simp -implicitDefEqProofs only[go_sem,γ,reduceCtorEq,jJ,mX,mY,a',c',d']
    exact fin _ _ rfl (by simp[a,c,d])
   ·have d':¬ (n:Int)≤90:=by omega
    simp -implicitDefEqProofs only[go_sem,γ,reduceCtorEq,jJ,mX,mY,a',c',d']
    exact fin _ _ rfl (by simp[a,c,d])
  ·have c':¬ (n:Int)≥65:=by omega
   simp -implicitDefEqProofs only[go_sem,γ,reduceCtorEq,jJ,mX,mY,a',c']
   exact fin _ _ rfl (by simp[a,c])
theorem aOY {C:Ctx} (n:Nat):nO.wp C (aX AA.res (aK (.bool (pN n)))) (PF.args [.int .u8 n]) .nil:=by
 have fin:∀ (F:PF) (b:Bool),F 2=some (.bool b)→b=pN n→aX AA.res (aK (.bool (pN n))) .ret F .nil:=by
  intro F b h e
  subst e
  refine bZ (.inr rfl) (vs:=[.bool (pN n)]) (by simp -implicitDefEqProofs only[go_sem,AA,h]) rfl
 unfold pN at *
 by_cases a:48≤n
 ·have a':(n:Int)≥48:=by omega
  by_cases b:n≤57
  ·have b':(n:Int)≤57:=by omega
   simp -implicitDefEqProofs only[go_sem,γ,reduceCtorEq,nO,wD,wE,a',b']
   exact fin _ _ rfl (by simp[a,b])
  ·have b':¬ (n:Int)≤57:=by omega
   simp -implicitDefEqProofs only[go_sem,γ,reduceCtorEq,nO,wD,wE,a',b']
   exact fin _ _ rfl (by simp[a,b])
 ·have a':¬ (n:Int)≥48:=by omega
  simp -implicitDefEqProofs only[go_sem,γ,reduceCtorEq,nO,wD,wE,a']
  exact fin _ _ rfl (by simp[a])
theorem aPC {C:Ctx} (h1:∀ n:Nat,aI C 126 [.int .u8 n] .nil (aK (.bool (fY n)))) (h2:∀ n:Nat,aI C 124 [.int .u8 n] .nil (aK (.bool (pN n)))) (n:Nat) :
  xM.wp C (aX AB.res (aK (.bool (fX n)))) (PF.args [.int .u8 n]) .nil:=by
 have fin:∀ (F:PF) (b:Bool),F 2=some (.bool b)→b=fX n→aX AB.res (aK (.bool (fX n))) .ret F .nil:=by
  intro F b h e
  subst e
  refine bZ (.inr rfl) (vs:=[.bool (fX n)]) (by simp -implicitDefEqProofs only[go_sem,AB,h]) rfl
 simp -implicitDefEqProofs only[go_sem,reduceCtorEq,xM,adC,adD]
 refine aB (h1 n) rfl ?_
 cases hl:fY n with
 | true =>
  simp -implicitDefEqProofs only[go_sem,γ]
  exact fin _ _ rfl (by simp[fX,hl])
 | false =>
  simp -implicitDefEqProofs only[go_sem,γ,reduceCtorEq]
  refine aB (h2 n) rfl ?_
  cases hd:pN n with
  | true =>
   simp -implicitDefEqProofs only[go_sem,γ,reduceCtorEq]
   exact fin _ _ rfl (by simp[fX,hd])
  | false =>
   by_cases c:n=45
   ·simp -implicitDefEqProofs only[go_sem,γ,reduceCtorEq,bT (show (n:Int)=45 by omega)]
    exact fin _ _ rfl (by simp[fX,c])
   ·by_cases d:n=46
    ·simp -implicitDefEqProofs only[go_sem,γ,reduceCtorEq,bG (show (n:Int)≠45 by omega),bT (show (n:Int)=46 by omega)]
     exact fin _ _ rfl (by simp[fX,d])
    ·simp -implicitDefEqProofs only[go_sem,γ,reduceCtorEq,bG (show (n:Int)≠45 by omega),bG (show (n:Int)≠46 by omega)]
     exact fin _ _ rfl (by simp[fX,c,d,hl,hd])
def isName (s:List UInt8):Bool:=match s with
 | []=>false
 | c::_=>decide (s.length≤16)&&fY c.toNat&&s.all fun c=>fX c.toNat
theorem AU {α:Type} {p:α→Bool} {l:List α} {k:Nat} (hk:k<l.length) (h:(l.take k).all p=true) (hp:p l[k]=true):(l.take (k+1)).all p=true:=by
 rw[bjG hk,List.all_append,h]; simp[hp]
theorem AV {α:Type} {p:α→Bool} {l:List α} {k:Nat} (hk:k<l.length) (hp:p l[k]=false):l.all p=false:=by
 rw[List.all_eq_false]
 exact⟨l[k],bgY hk,by simp[hp]⟩
def apN (s:List UInt8) (k:Nat):PF:=((PF.nil.set 0 (.str s)).set 3 (.int .i64 k))
theorem aVS {C:Ctx} (h1:∀ n:Nat,aI C 126 [.int .u8 n] .nil (aK (.bool (fY n)))) (h2:∀ n:Nat,aI C 125 [.int .u8 n] .nil (aK (.bool (fX n)))) (s:List UInt8) :
  pX.wp C (aX MG.res (aK (.bool (isName s)))) (PF.args [.str s]) .nil:=by
 have fin:∀ (F:PF) (b:Bool),F 2=some (.bool b)→b=isName s→aX MG.res (aK (.bool (isName s))) .ret F .nil:=by
  intro F b h e
  subst e
  refine bZ (.inr rfl) (vs:=[.bool (isName s)]) (by simp -implicitDefEqProofs only[go_sem,MG,h]) rfl
 cases s with
 | nil =>
  simp -implicitDefEqProofs only[go_sem,γ,reduceCtorEq,pX,CD,CE,CF]
  exact fin _ _ rfl rfl
 | cons c t =>
  have hz:(c::t)[0]?=some c:=rfl
  have hne:(c::t==[])=false:=rfl
  have hN:isName (c::t)=(decide ((c::t).length≤16)&&fY c.toNat&&(c::t).all fun c=>fX c.toNat):=rfl
  generalize c::t=s at *
  by_cases hl:s.length≤16
  ·have hl':¬ ((s.length:Nat):Int)>16:=by omega
   rw[decide_eq_true hl,bhP] at hN
   simp -implicitDefEqProofs only[go_sem,ν,γ,reduceCtorEq,pX,CD,CE,hne,hl',hz,bhZ]
   refine aB (h1 c.toNat) rfl ?_
   cases hc:fY c.toNat with
   | false =>
    simp -implicitDefEqProofs only[go_sem,γ,reduceCtorEq,bhK,CF]
    exact fin _ _ rfl (by rw[hN,hc]; rfl)
   | true =>
    rw[hc,bhP] at hN
    simp -implicitDefEqProofs only[go_sem,γ,reduceCtorEq,bgZ,apP]
    refine wp_loop (α:=Nat) (fun k=>apN s k) (fun _=>.nil) (fun k=>k≤s.length∧(s.take k).all (fun c=>fX c.toNat)=true) (fun k=>s.length-k) 0 ⟨bhC _,rfl⟩ ?_ PH.nil_le ?_
    ·unfold apN
     (repeat' (first|exact PF.nil_le|refine PF.aA ?_ ?_))<;>first|(simp -implicitDefEqProofs only[go_sem,γ,reduceCtorEq]<;>rfl)|rfl
    rintro k ⟨hk,ha⟩
    simp -implicitDefEqProofs only[go_sem,γ,reduceCtorEq,apO,apQ,apN]
    by_cases hlt:k<s.length
    ·have hlt':(k:Int)<(s.length:Nat):=by omega
     have hg:s[k]?=some s[k]:=bhD hlt
     simp -implicitDefEqProofs only[go_sem,γ,reduceCtorEq,hlt',apR,hg,bhZ]
     refine aB (h2 (s[k]).toNat) rfl ?_
     cases hi:fX (s[k]).toNat with
     | false =>
      simp -implicitDefEqProofs only[go_sem,γ,reduceCtorEq,bhK,apS]
      refine fin _ false rfl ?_
      rw[hN,AV hlt hi]
     | true =>
      simp -implicitDefEqProofs only[go_sem,γ,reduceCtorEq,bgZ,apT,aO (show k<9223372036854775807 by omega)]
      refine aJ (k+1) ⟨hlt,biC.1 (AU hlt ha hi)⟩ (by omega) ?_ PH.nil_le
      (repeat' (first|exact PF.nil_le|refine PF.aA ?_ ?_))<;>first|(simp -implicitDefEqProofs only[go_sem,γ,reduceCtorEq]<;>rfl)|rfl
    ·have hlt':¬ (k:Int)<(s.length:Nat):=by omega
     simp -implicitDefEqProofs only[go_sem,hlt',apU]
     have:k=s.length:=by omega
     subst this
     rw[bhF (bgV _)] at ha
     exact fin _ true rfl (by rw[hN,ha])
  ·have hl':((s.length:Nat):Int)>16:=by omega
   simp -implicitDefEqProofs only[go_sem,γ,reduceCtorEq,pX,CD,CE,CF,hne,hl']
   exact fin _ _ rfl (by rw[hN,decide_eq_false hl]; rfl)
end Go.PM
namespace Go.PM
open Go Go.Na
abbrev dS (x:Int):Prop:=-9223372036854775808≤x∧x≤9223372036854775807
structure cL where
 name:List UInt8
 start:List RF
 rates:List (List RF)
 exit:List RF
structure cT where
 name:List UInt8
 extents:Int
 port:Int
 law:Int
structure cK where
 name:List UInt8
 level:Int
 parent:Int
 uplink:Int
 shock:RF
structure cP where
 name:List UInt8
 model:Int
 machine:Int
structure cO where
 name:List UInt8
 k:Int
 m:Int
 quorum:Int
 s0:Int
 s1:Int
 s2:Int
 s3:Int
 s4:Int
 models:List Int
 repair:List RF
 target:RF
 horizon:RF
structure fK where
 name:List UInt8
 policy:Int
structure aH where
 extent:Int
 laws:List cL
 models:List cT
 domains:List cK
 drives:List cP
 policies:List cO
 volumes:List fK
abbrev aMP (l:List (List RF)):PV:=.sl 1 (l.map fun r=>[frs r])
abbrev cL.cells (x:cL):List PV:=[.str x.name,frs x.start,aMP x.rates,frs x.exit]
abbrev cT.cells (x:cT):List PV:=[.str x.name,.int .i64 x.extents,.int .i64 x.port,.int .i64 x.law]
abbrev cK.cells (x:cK):List PV:=[.str x.name,.int .i64 x.level,.int .i64 x.parent,.int .i64 x.uplink,.bool x.shock.neg,aF x.shock.num,aF x.shock.den]
abbrev cP.cells (x:cP):List PV:=[.str x.name,.int .i64 x.model,.int .i64 x.machine]
abbrev cO.cells (x:cO):List PV:=[.str x.name,.int .i64 x.k,.int .i64 x.m,.int .i64 x.quorum,.int .i64 x.s0,.int .i64 x.s1,.int .i64 x.s2,.int .i64 x.s3,.int .i64 x.s4,ints x.models,frs x.repair,
 .bool x.target.neg,aF x.target.num,aF x.target.den,.bool x.horizon.neg,aF x.horizon.num,aF x.horizon.den]
abbrev fK.cells (x:fK):List PV:=[.str x.name,.int .i64 x.policy]
abbrev aH.cells (f:aH):List PV:=[.int .i64 f.extent,.sl 4 (f.laws.map cL.cells),.sl 4 (f.models.map cT.cells),.sl 7 (f.domains.map cK.cells),.sl 3 (f.drives.map cP.cells),.sl 17 (f.policies.map cO.cells),.sl 2 (f.volumes.map fK.cells)]
def cO.spread (p:cO) (level:Nat):Int:=match level with
 | 0=>p.s0
 | 1=>p.s1
 | 2=>p.s2
 | 3=>p.s3
 | _=>p.s4
abbrev Fits {α:Type} (l:List α):Prop:=l.length≤9223372036854775807
structure qO (l:List RF):Prop where
 fits:Fits l
 all:∀ x∈l,x.Ok
structure cL.Ok (x:cL):Prop where
 start:qO x.start
 exit:qO x.exit
 rates:Fits x.rates
 row:∀ r∈x.rates,qO r
structure cO.Ok (x:cO):Prop where
 k:dS x.k
 m:dS x.m
 quorum:dS x.quorum
 models:Fits x.models
 each:∀ m∈x.models,dS m
 repair:qO x.repair
 target:x.target.Ok
 horizon:x.horizon.Ok
structure aH.Ok (f:aH):Prop where
 laws:Fits f.laws
 models:Fits f.models
 domains:Fits f.domains
 drives:Fits f.drives
 policies:Fits f.policies
 volumes:Fits f.volumes
 law:∀ x∈f.laws,x.Ok
 dom:∀ x∈f.domains,x.shock.Ok∧dS x.level∧dS x.parent
 drive:∀ x∈f.drives,dS x.model∧dS x.machine
 policy:∀ x∈f.policies,x.Ok
 volume:∀ x∈f.volumes,dS x.policy
def yP (x:RF):FR:=if dJ (val x.num) (val x.den) then jU x.neg (val x.num) (val x.den) else .error 1
theorem aMJ (x:RF):MO x.neg (val x.num) (val x.den)=frV (yP x):=by
 unfold MO yP
 split
 ·exact aaC _ _ _
 ·rfl
def fF (x:RF):Bool:=match yP x with
 | .ok (n,a,b)=>!n&&(decide (cA a≤32)&&decide (cA b≤32))
 | .error _=>false
def bR (x:RF):Bool:=decide (val x.num≠0)
def RZ (x:RF):Bool:=dJ (val x.num) (val x.den)&&decide (vD x.neg (val x.num) (val x.den) false 1 1≤0)
def within (n lo hi:Int):Bool:=decide (lo≤n)&&decide (n≤hi)
def cY (R:List Bool) (i:Nat) (row:List RF):Nat→List Bool
 | 0=>R
 | k+1=>let R':=cY R i row k
  R'.set i (R'.getD i false||(row.map bR).getD k false&&R'.getD k false)
def jM (l:cL) (R:List Bool) (i:Nat):List Bool :=
 cY (R.set i (R.getD i false||(l.exit.map bR).getD i false)) i (l.rates.getD i []) (l.rates.getD i []).length
def eC (l:cL) (R:List Bool):Nat→List Bool
 | 0=>R
 | i+1=>jM l (eC l R i) i
def fN (l:cL):Nat→List Bool
 | 0=>bgT l.exit.length false
 | r+1=>eC l (fN l r) l.exit.length
def pR (l:cL):Bool:=(fN l (l.exit.length+1)).all id
def oH (l:cL):Bool :=
 within l.start.length 1 4&&decide (l.exit.length=l.start.length)&&decide (l.rates.length=l.start.length)&&l.start.all fF&&l.exit.all fF
 && (bhL l.rates.length).all (fun i=>decide ((l.rates.getD i []).length=l.start.length)&&(l.rates.getD i []).all fF&&!((l.rates.getD i []).map bR).getD i false)
 && (match oK (l.start.map RF.v) with
  | .ok (n,a,b)=>decide (vD n a b false 1 1=0)
  | .error _=>false)&&pR l
def distinct (l:List (List UInt8)):Bool:=(bhL l.length).all fun i=>isName (l.getD i [])&&!(l.take i).contains (l.getD i [])
def PL (f:aH) (i:Nat) (d:cK):Bool :=
 within d.parent 0 i&&decide ((f.domains.map cK.level).getD d.parent.toNat 0=IntKind.i64.wrap (d.level-1))&&within d.level 1 4&&within d.uplink 1 64&&fF d.shock
def LM (f:aH) (r:cK) (t:List cK):Bool :=
 decide (r.name=[])&&decide (r.level=0)&&decide (r.parent=-1)&&decide (r.uplink=0)&&fF r.shock&&!bR r.shock
  && (bhL t.length).all fun i=>match t[i]? with
   | some d=>PL f i d
   | none=>false
def lY (f:aH):Bool:=match f.domains with
 | []=>false
 | r::t=>LM f r t
def RX (p:cO):Bool :=
 within p.k 1 6&&within p.m 0 4&&decide (p.k+p.m≤8)&&within p.quorum p.k (p.k+p.m)&&decide (p.s0=0)&&([p.s0,p.s1,p.s2,p.s3,p.s4].all fun n=>within n 0 8)
def MN (p:cO):Bool :=
 decide ((p.repair.length:Int)=max p.m 1)&&(p.repair.all fun x=>fF x&&bR x)&&fF p.target&&RZ p.target&&fF p.horizon
def iD (models:Nat) (p:cO):Bool :=
 RX p&&decide (p.models.length≠0)&&MN p&&(bhL p.models.length).all fun j=>within (p.models.getD j 0) 0 ((models:Int)-1)&&!(p.models.take j).contains (p.models.getD j 0)
def kC (f:aH) (m:cT):Bool:=within m.extents 1 16&&within m.port 1 64&&within m.law 0 ((f.laws.length:Int)-1)
def iO (f:aH) (d:cP):Bool:=within d.model 0 ((f.models.length:Int)-1)&&within d.machine 0 ((f.domains.length:Int)-1)&&decide ((f.domains.map cK.level).getD d.machine.toNat 0=4)
def lS (f:aH) (v:fK):Bool:=within v.policy 0 ((f.policies.length:Int)-1)
def mL (f:aH):Bool:=within f.extent 1 4&&decide (f.laws.length≤4)&&decide (f.models.length≤4)&&decide (f.domains.length≤40)&&decide (f.drives.length≤24)&&decide (f.policies.length≤4)&&decide (f.volumes.length≤12)
def dC (f:aH):Bool :=
 mL f&&lY f&&(f.laws.all oH&&f.models.all (kC f)&&f.drives.all (iO f)&&f.policies.all (iD f.models.length)&&f.volumes.all (lS f))
 && (distinct (f.laws.map cL.name)&&distinct (f.models.map cT.name)&&distinct ((f.domains.drop 1).map cK.name++f.drives.map cP.name)&&distinct (f.policies.map cO.name)&&distinct (f.volumes.map fK.name))
end Go.PM
namespace Go.PM
open Go Go.Na
theorem aU {t:Nat} {b b':Bool} {F:PF} {H:PH} (h:F t=some (.bool b)) (e:b=b'):aX [.tmp t] (bY (.bool b')) .ret F H:=by
 subst e
 exact aW (.inr rfl) .nil (vs:=[.bool b]) (by rw[jN,lO,h,nC]) PH.nil_le ⟨.refl _,rfl⟩
theorem a4P {C:Ctx} (n lo hi:Int):uQ.wp C (aX gin.res (bY (.bool (within n lo hi)))) (PF.args [.int .i64 n,.int .i64 lo,.int .i64 hi]) .nil:=by
 by_cases a:lo≤n
 ·by_cases b:n≤hi
  ·simp -implicitDefEqProofs only[go_sem,γ,reduceCtorEq,uQ,UD,UE,gin,show n≥lo from a,b]
   exact aU rfl (by simp[within,a,b])
  ·simp -implicitDefEqProofs only[go_sem,γ,reduceCtorEq,uQ,UD,UE,gin,show n≥lo from a,b]
   exact aU rfl (by simp[within,a,b])
 ·have a':¬ n≥lo:=a
  simp -implicitDefEqProofs only[go_sem,γ,reduceCtorEq,uQ,UD,UE,gin,a']
  exact aU rfl (by simp[within,a])
theorem aOM {C:Ctx} (L:pI C) (x:RF) (hx:x.Ok):xG.wp C (aX GY.res (bY (.bool (bR x)))) (PF.args [.agg x.cells]) .nil:=by
 simp -implicitDefEqProofs only[go_sem,δ,γ,θ,xG,acB,acC,GY]
 refine aB (L.bits x.num hx.1 hx.2.2.1) rfl ?_
 simp -implicitDefEqProofs only[go_sem,γ]
 refine aU rfl ?_
 have:=@gT (val x.num)
 rw[bR,decide_eq_decide]
 omega
structure ajU (C:Ctx):Prop extends AS C where
 frac:∀ n d:Int,dS n→dS d→aI C 115 [.int .i64 n,.int .i64 d] .nil (aK (UU n d))
 red:∀ x:RF,x.Ok→aI C 116 [.agg x.cells] .nil (aK (frV (yP x)))
 ord:∀ x y:RF,x.Ok→y.Ok→aI C 114 [.agg x.cells,.agg y.cells] .nil (aK (vT x.neg (val x.num) (val x.den) y.neg (val y.num) (val y.den)))
 plus:∀ x y:RF,x.Ok→y.Ok→aI C 113 [.agg x.cells,.agg y.cells] .nil (aK (frV (iT x.v y.v)))
 tot:∀ l:List RF,qO l→aI C 117 [frs l] .nil (aK (frV (oK (l.map RF.v))))
theorem CG {neg:Bool} {a b:Nat} {e:Int} (h:jU neg a b=.error e):e=2:=by
 unfold jU at h
 split at h
 ·injection h with h; exact h.symm
 ·cases h
theorem aXA {x:RF} {e:Int} (h:yP x=.error e):e≠0:=by
 unfold yP at h
 split at h
 ·rw[CG h]; decide
 ·injection h with h; subst h; decide
theorem a2H {x:RF} {r:FV} (h:yP x=.ok r):r.rf.Ok:=by
 unfold yP at h
 split at h
 ·exact (pY h).2
 ·cases h
theorem a0I {C:Ctx} (L:ajU C) (x:RF) (hx:x.Ok):HD.wp C (aX anS.res (bY (.bool (fF x)))) (PF.args [.agg x.cells]) .nil:=by
 simp -implicitDefEqProofs only[go_sem,δ,γ,HD,aDL,aDM,anS]
 refine aB (L.red x hx) rfl ?_
 unfold fF
 cases hr:yP x with
 | error e =>
  have:=bG (aXA hr)
  simp -implicitDefEqProofs only[go_sem,δ,γ,frV]
  refine aQ fun o ho=>?_
  simp -implicitDefEqProofs only[go_sem,δ,γ,reduceCtorEq,MA,this]
  exact aU rfl rfl
 | ok r =>
  obtain⟨n,a,b⟩:=r
  obtain⟨l1,l2,l3,l4⟩:=a2H hr
  simp -implicitDefEqProofs only[go_sem,δ,γ,frV]
  refine aQ fun o ho=>?_
  cases n with
  | true =>
   simp -implicitDefEqProofs only[go_sem,ρ,δ,γ,θ,reduceCtorEq,MA]
   exact aU rfl rfl
  | false =>
   simp -implicitDefEqProofs only[go_sem,ρ,δ,γ,θ,MA]
   refine aB (L.bits _ l1 l3) rfl ?_
   rw[show val (FV.rf (false,a,b)).num=a from aY a]
   by_cases c1:cA a≤32
   ·have c1':((cA a:Nat):Int)≤32:=by omega
    simp -implicitDefEqProofs only[go_sem,δ,γ,c1']
    refine aB (L.bits _ l2 l4) rfl ?_
    rw[show val (FV.rf (false,a,b)).den=b from aY b]
    simp -implicitDefEqProofs only[go_sem,γ]
    refine aU rfl ?_
    rw[decide_eq_true c1]
    simp
    omega
   ·have c1':¬ ((cA a:Nat):Int)≤32:=by omega
    simp -implicitDefEqProofs only[go_sem,γ,reduceCtorEq,c1']
    refine aU rfl ?_
    rw[decide_eq_false c1]
    rfl
theorem apY:jU false 1 1=.ok (false,1,1):=by
 have:cA 1=1:=by rw[nZ (by decide),iZ]
 simp[jU,this]
theorem aqC:UU 1 1=frV (.ok (false,1,1)):=by
 rw[UU,if_neg (by decide),aaC]
 show frV (jU false 1 1)=_
 rw[apY]
theorem aRD:(FV.rf (false,1,1)).Ok:=(pY apY).2
theorem ajF:dJ 1 1=true:=by
 have:cA 1=1:=by rw[nZ (by decide),iZ]
 simp[dJ,this]
theorem a0M {C:Ctx} (L:ajU C) (x:RF) (hx:x.Ok):HF.wp C (aX gone.res (bY (.bool (RZ x)))) (PF.args [.agg x.cells]) .nil:=by
 simp -implicitDefEqProofs only[go_sem,HF,aDQ,aDR,gone]
 refine aB (L.frac 1 1 (by decide) (by decide)) rfl ?_
 rw[aqC]
 simp -implicitDefEqProofs only[go_sem,δ,γ,frV]
 refine aQ fun o ho=>?_
 simp -implicitDefEqProofs only[go_sem,δ,γ,aDS]
 refine aB (L.ord x (FV.rf (false,1,1)) hx aRD) rfl ?_
 rw[show val (FV.rf (false,1,1)).num=1 from aY 1,show val (FV.rf (false,1,1)).den=1 from aY 1,show (FV.rf (false,1,1)).neg=false from rfl]
 unfold vT RZ
 rw[ajF,bjL]
 cases hv:dJ (val x.num) (val x.den) with
 | false =>
  simp -implicitDefEqProofs only[go_sem,ρ,γ,reduceCtorEq,ZU]
  exact aU rfl rfl
 | true =>
  simp -implicitDefEqProofs only[go_sem,ρ,γ,ZU]
  exact aU rfl rfl
theorem aUS {C:Ctx} (p:RF→Bool) (fn:Nat) (l:List RF) (hf:Fits l) (h:∀ x∈l,aI C fn [.agg x.cells] .nil (aK (.bool (p x)))) :
  BI.wp C (aX UA.res (bY (.bool (l.all p)))) (PF.args [frs l,.fn fn []]) .nil:=by
 simp -implicitDefEqProofs only[go_sem,γ,reduceCtorEq,BI,amP,amQ,UA]
 refine wp_loop (α:=Nat) (fun k=>((((PF.nil.set 1 (.fn fn [])).set 7 (frs l)).set 8 (.int .i64 (l.length:Nat))).set 9 (.int .i64 k))) (fun _=>.nil) (fun k=>k≤l.length∧(l.take k).all p=true) (fun k=>l.length-k) 0 ⟨bhC _,rfl⟩ ?_ PH.nil_le ?_
 ·(repeat' (first|exact PF.nil_le|refine PF.aA ?_ ?_))<;>first|(simp -implicitDefEqProofs only[go_sem,γ,bgR]<;>rfl)|rfl
 rintro k ⟨hk,ha⟩
 simp -implicitDefEqProofs only[go_sem,γ,amO,amR]
 by_cases hlt:k<l.length
 ·have hlt':(k:Int)<(l.length:Nat):=by omega
  have hr:(l.map RF.cells)[k]?=some (l[k]).cells:=by simp[hlt]
  simp -implicitDefEqProofs only[go_sem,δ,γ,hlt',amS,hr]
  refine aQ fun o ho=>?_
  simp -implicitDefEqProofs only[go_sem,δ,γ,amT]
  refine⟨fn,[],rfl,?_⟩
  refine aB (h _ (bgY hlt)) rfl ?_
  cases hp:p l[k] with
  | false =>
   simp -implicitDefEqProofs only[go_sem,γ,amU]
   exact aU (b:=false) rfl (AV (p:=p) hlt hp).symm
  | true =>
   simp -implicitDefEqProofs only[go_sem,γ,amV,aO (show k<9223372036854775807 by omega)]
   refine aJ (k+1) ⟨hlt,biC.1 (AU hlt ha hp)⟩ (by omega) ?_ PH.nil_le
   (repeat' (first|exact PF.nil_le|refine PF.aA ?_ ?_))<;>first|(simp -implicitDefEqProofs only[go_sem,γ]<;>rfl)|rfl
 ·have hlt':¬ (k:Int)<(l.length:Nat):=by omega
  simp -implicitDefEqProofs only[go_sem,hlt',amW]
  have:k=l.length:=by omega
  subst this
  rw[bhF (bgV _)] at ha
  exact aU rfl ha.symm
theorem aUU {C:Ctx} (p:Int→Bool) (fn:Nat) (l:List Int) (hf:Fits l) (h:∀ x∈l,aI C fn [.int .i64 x] .nil (aK (.bool (p x)))) :
  BJ.wp C (aX UB.res (bY (.bool (l.all p)))) (PF.args [ints l,.fn fn []]) .nil:=by
 simp -implicitDefEqProofs only[go_sem,γ,reduceCtorEq,BJ,amY,amZ,UB]
 refine wp_loop (α:=Nat) (fun k=>((((PF.nil.set 1 (.fn fn [])).set 7 (ints l)).set 8 (.int .i64 (l.length:Nat))).set 9 (.int .i64 k))) (fun _=>.nil) (fun k=>k≤l.length∧(l.take k).all p=true) (fun k=>l.length-k) 0 ⟨bhC _,rfl⟩ ?_ PH.nil_le ?_
 ·(repeat' (first|exact PF.nil_le|refine PF.aA ?_ ?_))<;>first|(simp -implicitDefEqProofs only[go_sem,γ,bgR]<;>rfl)|rfl
 rintro k ⟨hk,ha⟩
 simp -implicitDefEqProofs only[go_sem,γ,amX,anA]
 by_cases hlt:k<l.length
 ·have hlt':(k:Int)<(l.length:Nat):=by omega
  have hr:(l.map fun n=>[PV.int .i64 n])[k]?=some [.int .i64 l[k]]:=by simp[hlt]
  simp -implicitDefEqProofs only[go_sem,γ,hlt',anB,hr,anC]
  refine⟨fn,[],rfl,?_⟩
  refine aB (h _ (bgY hlt)) rfl ?_
  cases hp:p l[k] with
  | false =>
   simp -implicitDefEqProofs only[go_sem,γ,anD]
   exact aU (b:=false) rfl (AV (p:=p) hlt hp).symm
  | true =>
   simp -implicitDefEqProofs only[go_sem,γ,anE,aO (show k<9223372036854775807 by omega)]
   refine aJ (k+1) ⟨hlt,biC.1 (AU hlt ha hp)⟩ (by omega) ?_ PH.nil_le
   (repeat' (first|exact PF.nil_le|refine PF.aA ?_ ?_))<;>first|(simp -implicitDefEqProofs only[go_sem,γ]<;>rfl)|rfl
 ·have hlt':¬ (k:Int)<(l.length:Nat):=by omega
  simp -implicitDefEqProofs only[go_sem,hlt',anF]
  have:k=l.length:=by omega
  subst this
  rw[bhF (bgV _)] at ha
  exact aU rfl ha.symm
abbrev aIT (l:List Bool):PV:=.sl 1 (l.map fun b=>[PV.bool b])
theorem aUQ {C:Ctx} (p:Bool→Bool) (fn:Nat) (l:List Bool) (hf:Fits l) (h:∀ x∈l,aI C fn [.bool x] .nil (aK (.bool (p x)))) :
  BH.wp C (aX TZ.res (bY (.bool (l.all p)))) (PF.args [aIT l,.fn fn []]) .nil:=by
 simp -implicitDefEqProofs only[go_sem,γ,reduceCtorEq,BH,amG,amH,TZ]
 refine wp_loop (α:=Nat) (fun k=>((((PF.nil.set 1 (.fn fn [])).set 7 (aIT l)).set 8 (.int .i64 (l.length:Nat))).set 9 (.int .i64 k))) (fun _=>.nil) (fun k=>k≤l.length∧(l.take k).all p=true) (fun k=>l.length-k) 0 ⟨bhC _,rfl⟩ ?_ PH.nil_le ?_
 ·(repeat' (first|exact PF.nil_le|refine PF.aA ?_ ?_))<;>first|(simp -implicitDefEqProofs only[go_sem,γ,bgR]<;>rfl)|rfl
 rintro k ⟨hk,ha⟩
 simp -implicitDefEqProofs only[go_sem,γ,amF,amI]
 by_cases hlt:k<l.length
 ·have hlt':(k:Int)<(l.length:Nat):=by omega
  have hr:(l.map fun b=>[PV.bool b])[k]?=some [.bool l[k]]:=by simp[hlt]
  simp -implicitDefEqProofs only[go_sem,γ,hlt',amJ,hr,amK]
  refine⟨fn,[],rfl,?_⟩
  refine aB (h _ (bgY hlt)) rfl ?_
  cases hp:p l[k] with
  | false =>
   simp -implicitDefEqProofs only[go_sem,γ,amL]
   exact aU (b:=false) rfl (AV (p:=p) hlt hp).symm
  | true =>
   simp -implicitDefEqProofs only[go_sem,γ,amM,aO (show k<9223372036854775807 by omega)]
   refine aJ (k+1) ⟨hlt,biC.1 (AU hlt ha hp)⟩ (by omega) ?_ PH.nil_le
   (repeat' (first|exact PF.nil_le|refine PF.aA ?_ ?_))<;>first|(simp -implicitDefEqProofs only[go_sem,γ]<;>rfl)|rfl
 ·have hlt':¬ (k:Int)<(l.length:Nat):=by omega
  simp -implicitDefEqProofs only[go_sem,hlt',amN]
  have:k=l.length:=by omega
  subst this
  rw[bhF (bgV _)] at ha
  exact aU rfl ha.symm
theorem aOO {C:Ctx} (b:Bool):xH.wp C (aX GZ.res (bY (.bool b))) (PF.args [.bool b]) .nil:=by
 simp -implicitDefEqProofs only[go_sem,γ,reduceCtorEq,xH,acD,acE,GZ]
 exact aU rfl rfl
theorem aUZ {C:Ctx} (hin:∀ n lo hi:Int,aI C 104 [.int .i64 n,.int .i64 lo,.int .i64 hi] .nil (aK (.bool (within n lo hi)))) (n:Int):BN.wp C (aX UF.res (bY (.bool (within n 0 8)))) (PF.args [.int .i64 n]) .nil:=by
 simp -implicitDefEqProofs only[go_sem,reduceCtorEq,BN,anU,anV,UF]
 refine aB (hin n 0 8) rfl ?_
 simp -implicitDefEqProofs only[go_sem,γ]
 exact aU rfl rfl
theorem aOR {C:Ctx} (h1:∀ x:RF,x.Ok→aI C 105 [.agg x.cells] .nil (aK (.bool (fF x)))) (h2:∀ x:RF,x.Ok→aI C 97 [.agg x.cells] .nil (aK (.bool (bR x)))) (x:RF) (hx:x.Ok) :
  xI.wp C (aX HH.res (bY (.bool (fF x&&bR x)))) (PF.args [.agg x.cells]) .nil:=by
 simp -implicitDefEqProofs only[go_sem,δ,γ,xI,acJ,acK,HH]
 refine aB (h1 x hx) rfl ?_
 cases hl:fF x with
 | false =>
  simp -implicitDefEqProofs only[go_sem,γ,reduceCtorEq]
  exact aU rfl rfl
 | true =>
  simp -implicitDefEqProofs only[go_sem,δ,γ]
  refine aB (h2 x hx) rfl ?_
  simp -implicitDefEqProofs only[go_sem,γ]
  exact aU rfl rfl
end Go.PM
namespace Go.PM
open Go
section
variable (o s:Nat) (rs:List (List PV))
@[go_sem] theorem bcN (k:IntKind) (n:Int):PV.frz o s rs (.int k n)=.int k n:=rfl
@[go_sem] theorem a8S (b:Bool):PV.frz o s rs (.bool b)=.bool b:=rfl
@[go_sem] theorem bcR (l:List UInt8):PV.frz o s rs (.str l)=.str l:=rfl
@[go_sem] theorem a8T:PV.frz o s rs .nils=.nils:=rfl
@[go_sem] theorem bfW (n:Nat) (r:List (List PV)):PV.frz o s rs (.sl n r)=.sl n r:=rfl
@[go_sem] theorem a8U (c:List PV):PV.frz o s rs (.rptr c)=.rptr c:=rfl
@[go_sem] theorem bcQ (q z i c:Nat):PV.frz o s rs (.ptr q z i c)=.ptr q z i c:=rfl
@[go_sem] theorem bfV (n:Nat) (c:List PV):PV.frz o s rs (.fn n c)=.fn n c:=rfl
@[go_sem] theorem bcO (q:Nat):PV.frz o s rs (.map q)=.map q:=rfl
@[go_sem] theorem bcP (q z off len:Nat):PV.frz o s rs (.osl q z off len)=if q=o then (if z=s∧off+len≤rs.length then .sl s ((rs.drop off).take len) else .junk) else .osl q z off len:=rfl
end
def kJ (s:Nat) (rows:List (List PV)) (r:PV) (H:PH):Prop :=
 (rows=[]∧r=.nils∧H=PH.nil)∨∃ q rs,r=.osl q s 0 rows.length∧H=PH.nil.set q (.rows s rs)∧rows.length≤rs.length∧rs.take rows.length=rows
theorem aCN (q s:Nat) (rs:List (List PV)):(PH.nil.set q (.rows s rs)).frz q s rs=PH.nil:=PH.ext fun o=>by
 rw[MC]
 by_cases e:o=q
 ·rw[if_pos e]; rfl
 ·rw[if_neg e,aV,if_neg e]; rfl
section
variable {C:Ctx} {K:cC} {F:PF} {H:PH} {s:Nat} {v:PV} {rows:List (List PV)}
theorem kJ.over {r:PV} {H':PH} (h:kJ s rows r H') (ha:kY H .nil H'):bB (H.over .nil H') s r rows∧∀ o x,H o=some x→(H.over .nil H') o=some x:=by
 rcases h with ⟨h1,h2,rfl⟩ | ⟨q,rs,h1,rfl,h3,h4⟩
 ·rw[PH.vE]; exact⟨.inl ⟨h1,h2⟩,fun o x h=>h⟩
 ·rw[PH.kT]
  have hq:H q=none:=ha q (.rows s rs) (by simp only[aV,if_true]) rfl
  refine⟨.inr ⟨q,rs,h1,by simp only[aV,if_true],h3,h4⟩,fun o x ho=>?_⟩
  have:o≠q:=by rintro rfl; rw[hq] at ho; cases ho
  simp only[aV,if_neg this,ho]
theorem DU {t:Nat} {e:kK} (he:e=.normal∨e=.ret) (h:bB H s v rows) (ht:F t=some v):aX [.tmp t] (kJ s rows) e F H:=by
 rcases h with ⟨rfl,rfl⟩ | ⟨q,rs,rfl,h1,h2,h3⟩
 ·exact aW (vs:=[.nils]) he .nil (by rw[jN,lO,ht,nC]) PH.nil_le (.inl ⟨rfl,rfl,rfl⟩)
 ·exact aW (vs:=[.osl q s 0 rows.length]) he (PH.nil.set q (.rows s rs)) (by rw[jN,lO,ht,nC]) (PH.aA PH.nil_le h1) (.inr ⟨q,rs,rfl,rfl,h2,h3⟩)
theorem AG {t:Nat} {e:kK} (he:e=.normal∨e=.ret) (ht:F t=some .nils):aX [.tmp t] (kJ s []) e F H:=DU he .nil ht
theorem aRL {t:Nat} {e:kK} {r:PV} {H':PH} (he:e=.normal∨e=.ret) (h:kJ s rows r H') (ht:F t=some r):aX [.tmp t] (kJ s rows) e F (H.over .nil H'):=by
 refine aW (vs:=[r]) he H' (by rw[jN,lO,ht,nC]) (fun o x ho=>?_) h
 rw[lN,ho]
theorem aI.freeze {name:Nat} {args:List PV} (h:aI C name args H (kJ s rows)):aI C name args H (aK (.sl s rows)) :=
 ⟨h.1,fun E w vs hN hW hvs=>(h.2 E w vs hN hW hvs).mono fun e w' he=>by
  obtain⟨u,pv,E',H',rfl,hW',hr,hE,hp⟩:=he
  rcases hp with ⟨rfl,rfl,rfl⟩ | ⟨q,rs,rfl,rfl,h3,h4⟩
  ·exact⟨u,_,E',_,rfl,hW',(Co.nil s).sound hr,hE,rfl,rfl⟩
  ·have hz:gF (PF.nil.set 0 (.osl q s 0 rows.length)) (PH.nil.set q (.rows s rs)) _ _:=.step q (s:=s) (rs:=rs) (by simp only[aV,if_true]) (.refl _ _)
   obtain⟨E2,k1,k2,k3⟩:=hz.sound hW'
   have hrep:=k3 (fun _=>u) (fun i p hi=>by
    rw[kV] at hi
    split at hi
    ·cases hi; exact hr
    ·cases hi) 0 (.sl s rows) (by rw[pU,kV,if_pos rfl,bhZ,zY h3,h4])
   rw[aCN] at k1 k2
   exact⟨u,_,E2,_,rfl,k1,hrep,hE.trans k2,rfl,rfl⟩⟩
theorem eH.of:∀ {E:Env} (ps:List PV) (vs:List Value),vs.length=ps.length→(∀ (i:Nat) p v,ps[i]?=some p→vs[i]?=some v→aT E p v)→eH E ps vs
 | _,[],[],_,_=>.nil
 | _,[],_::_,h,_=>by simp at h
 | _,_::_,[],h,_=>by simp at h
 | _,p::ps,v::vs,h,k=>.cons (k 0 p v rfl rfl) (eH.of ps vs (by simpa using h) fun i q u a b=>k (i+1) q u (by simpa using a) (by simpa using b))
theorem bL.same {E:Env} {w w':World} (hW:bL E H w) (hs:w.heap.size≤w'.heap.size) (hb:∀ b,b<w.heap.size→H b=none→w'.heap[b]?=w.heap[b]?) (hH:∀ o x,H o=some x→w'.heap[o]?=w.heap[o]?):bL E H w':=by
 have key:∀ b,b<w.heap.size→w'.heap[b]?=w.heap[b]?:=fun b hlt=>by
  cases e:H b with
  | none=>exact hb b hlt e
  | some x=>exact hH b x e
 refine⟨fun b cs h=>?_,fun o x h=>?_,fun o n h=>?_⟩
 ·obtain⟨h1,ty,fr,h2⟩:=hW.g b cs h
  exact⟨h1,ty,fr,(key b (bjZ.1 h2).1).trans h2⟩
 ·obtain⟨h1,h2⟩:=hW.h o x h
  exact⟨Nat.lt_of_lt_of_le h1 hs,h2.mono (.refl E) (key o h1)⟩
 ·obtain⟨cur,ty,fr,h1,h2⟩:=hW.s o n h
  exact⟨cur,ty,fr,(key o (bjZ.1 h1).1).trans h1,h2⟩
inductive Plain:PV→Prop
 | int (k:IntKind) (n:Int):Plain (.int k n)
 | bool (b:Bool):Plain (.bool b)
 | str (l:List UInt8):Plain (.str l)
theorem Plain.rep {v:PV} (h:Plain v) {E E':Env} {u:Value} (r:aT E v u):aT E' v u:=by
 cases h<;>cases r
 ·exact .int _ _
 ·exact .bool _
 ·exact .str _
theorem aI.bcU {name o:Nat} {rs:List (List PV)} {args:List PV} (hv:Plain v) (h:aI C name (args.map (PV.frz o s rs)) .nil (aK v)) :
  aI C name args (PH.nil.set o (.rows s rs)) (fun r H'=>r=v∧H'=PH.nil.set o (.rows s rs)):=by
 refine⟨h.1,fun E w vs hN hW hvs=>?_⟩
 have hz:gF (PF.args args) (PH.nil.set o (.rows s rs)) _ _:=.step o (s:=s) (rs:=rs) (by simp only[aV,if_true]) (.refl _ _)
 obtain⟨E1,k1,k2,k3⟩:=hz.sound hW
 rw[aCN] at k1 k2
 have hlen:=hvs.len
 have hvs1:eH E1 (args.map (PV.frz o s rs)) vs.toList:=by
  refine eH.of _ _ (by rw[bgR]; exact hlen) fun i p u hp hu=>?_
  have:=k3 (fun i=>(vs.toList[i]?).getD undef) (fun j q hj=>by
   have hjl:=(biD.1 hj).1
   have hjv:j<vs.toList.length:=by omega
   simp only[bhD hjv,bjK]
   exact hvs.at_ j q _ hj (bhD hjv)) i p (by rw[pU,args_at,← biG]; exact hp)
  simp only[hu,bjK] at this
  exact this
 refine (h.2 E1 w vs (k2.env.num.trans hN) k1 hvs1).mono fun e w' he=>?_
 obtain⟨u,pv,E2,H2,rfl,hW2,hr,hE,rfl,rfl⟩:=he
 have hblk:∀ b,b<w.heap.size→w'.heap[b]?=w.heap[b]?:=fun b hb=>hE.block b hb rfl
 refine⟨u,pv,E,_,rfl,hW.same hE.size (fun b hb _=>hblk b hb) (fun q x hq=>hblk q (hW.h q x hq).1),hv.rep hr,⟨.refl E,hE.os,hE.tape,hE.output,hE.size,fun b hb _=>hblk b hb,fun q x hq=>.inl ⟨x,hq⟩,fun b cs hb=>.inl hb⟩,rfl,rfl⟩
theorem aUC {Hs:PH} {S:Spec} {name o:Nat} {rs:List (List PV)} {vs:List PV} {R:PH→PV→PH→Prop} {args:List aM} {st:Bool} {d:Option Nat} {K:PF→PH→Prop} (hS:S name vs=some ([o],R)) (hv:Plain v) (ho:H o=some (.rows s rs))
  (h:aI C name (vs.map (PV.frz o s rs)) .nil (aK v)) (hR1:R (PH.nil.set o (.rows s rs)) v (PH.nil.set o (.rows s rs))) (hR2:∀ r H',R (PH.nil.set o (.rows s rs)) r H'→r=v∧H'=PH.nil.set o (.rows s rs)) (ha:aM.evs F args=some vs) (hle:Hs.le H) (hk:K (F.put d v) H) :
  dOp C Hs S st (.call name args) d K F H:=PJ hS ho (h.bcU hv) hR1 hR2 ha hle hk
theorem ajT {name t:Nat} {R:PV→PH→Prop} {d:Option Nat} {K:PF→PH→Prop} (h:aI C name [.sl s rows] .nil R) (hO:bB H s v rows) (ht:F t=some v)
  (hK:∀ (F1:PF) (H1:PH),(∀ i u,F i=some u→Pure u→F1 i=some u)→∀ r H',R r H'→kY H1 .nil H'→K (F1.put d r) (H1.over .nil H')):fZ C name [.tmp t] [] d K F H:=by
 rcases hO with ⟨rfl,rfl⟩ | ⟨q,rs,rfl,h1,h2,h3⟩
 ·exact .inl ⟨[.nils],.nil,R,by rw[uN,TJ,ht,LO]; rfl,PH.nil_le,h.aMR (.inl ⟨rfl,rfl⟩),hK F H fun i u hi _=>hi⟩
 ·refine .inr ⟨_,_,.step q h1 (.refl _ _),[.sl s rows],.nil,R,?_,PH.nil_le,h,hK _ _ fun i u hi hp=>?_⟩
  ·simp only[uN,LO,TJ,pU,ht,bhZ,zY h2,h3,biL]
  ·rw[pU,hi,bhZ,hp q s rs]
end
end Go.PM
namespace Go.PM
open Go Go.Na
def utF (xs:List Nat) (n:Nat):PF:=((PF.nil.set 0 (aF xs)).set 3 (.int .i64 n))
theorem aYL {C:Ctx} (xs:List Nat) (hx:Lim xs) (hl:xs.length≤16777216):FA.wp C (aX YW.res (kJ 1 (aE (aG (val xs))))) (PF.args [aF xs]) .nil:=by
 simp -implicitDefEqProofs only[go_sem,γ,reduceCtorEq,FA,axX,axY,YW,bgR]
 refine wp_loop (α:=Nat) (fun n=>utF xs n) (fun _=>.nil) (fun n=>n≤xs.length∧∀ j x,n≤j→xs[j]?=some x→x=0) (fun n=>n) xs.length ⟨bgV _,fun j x hj hxj=>?_⟩ ?_ PH.nil_le ?_
 ·rw[biA hj] at hxj; cases hxj
 ·unfold utF
  (repeat' (first|exact PF.nil_le|refine PF.aA ?_ ?_))<;>first|(simp -implicitDefEqProofs only[go_sem,γ,reduceCtorEq]<;>rfl)|rfl
 rintro n ⟨hn,hz⟩
 have done:(0<n→∀ h:n-1<xs.length,xs[n-1]≠0)→∀ F:PF,(utF xs n).le F→aD.wp C (.seq (.region SO) .ret) (aX [.tmp 2] (kJ 1 (aE (aG (val xs))))) F .nil:=by
  intro h F hF
  have f0:F 0=some (aF xs):=hF 0 _ (by unfold utF; simp -implicitDefEqProofs only[go_sem,reduceCtorEq])
  have f3:F 3=some (.int .i64 n):=hF 3 _ (by unfold utF; simp -implicitDefEqProofs only[go_sem,reduceCtorEq])
  have ht:xs.take n=aG (val xs):=EE hx hn hz fun x h0 hxj=>by
   rw[bhD (by omega)] at hxj
   injection hxj with hxj
   subst hxj
   exact h h0 (by omega)
  have hc:((n:Nat):Int)≤(xs.length:Nat):=by omega
  simp -implicitDefEqProofs only[go_sem,ν,γ,reduceCtorEq,SO,f0,f3,bgR,hc,or_true,bhT]
  refine fC (rows:=[]) (src:=aE (aG (val xs))) .nil ?_ ?_ fun v H' ho _=>?_
  ·simp -implicitDefEqProofs only[go_sem]
   rw[← ht,← List.map_take]
  ·unfold roomFor
   rw[bP,← ht,bhH]
   simp only[biX,maxLen]
   omega
  ·exact DU (.inr rfl) (by simpa using ho) rfl
 simp only[aD.wp,go_sem] at done
 simp -implicitDefEqProofs only[go_sem,γ,reduceCtorEq,axW,axZ,utF]
 by_cases h0:0<n
 ·have h0':((n:Nat):Int)>0:=by omega
  have hlt:n-1<xs.length:=by omega
  have hat:=bJ xs hlt
  have hw:IntKind.i64.wrap ((n:Int)-1)=((n-1:Nat):Int):=sP (by omega) h0
  simp -implicitDefEqProofs only[go_sem,γ,reduceCtorEq,h0',hw,hat]
  by_cases c:xs[n-1]=0
  ·simp -implicitDefEqProofs only[go_sem,γ,reduceCtorEq,bT (show ((xs[n-1]:Nat):Int)=0 by omega),ayA,hw]
   refine aJ (n-1) ⟨by omega,fun j x hj hxj=>?_⟩ (by omega) ?_ PH.nil_le
   ·by_cases e:j=n-1
    ·subst e
     rw[bhD hlt] at hxj
     injection hxj with hxj
     omega
    ·exact hz j x (by omega) hxj
   ·(repeat' (first|exact PF.nil_le|refine PF.aA ?_ ?_))<;>first|(simp -implicitDefEqProofs only[go_sem,γ,reduceCtorEq]<;>rfl)|rfl
  ·simp -implicitDefEqProofs only[go_sem,bG (show ((xs[n-1]:Nat):Int)≠0 by omega)]
   exact done (fun _ _=>c) _ (by unfold utF; (repeat' (first|exact PF.nil_le|refine PF.aA ?_ ?_))<;>first|(simp -implicitDefEqProofs only[go_sem,γ,reduceCtorEq]<;>rfl)|rfl)
 ·have h0':¬ ((n:Nat):Int)>0:=by omega
  simp -implicitDefEqProofs only[go_sem,γ,reduceCtorEq,h0']
  exact done (fun h=>absurd h h0) _ (by unfold utF; (repeat' (first|exact PF.nil_le|refine PF.aA ?_ ?_))<;>first|(simp -implicitDefEqProofs only[go_sem,γ,reduceCtorEq]<;>rfl)|rfl)
structure mQ (C:Ctx):Prop where
 trimM:∀ xs,Lim xs→xs.length≤16777216→aI C 38 [aF xs] .nil (kJ 1 (aE (aG (val xs))))
theorem mQ.trim {C:Ctx} (L:mQ C) (xs:List Nat) (hx:Lim xs) (hl:xs.length≤16777216):aI C 38 [aF xs] .nil (aK (aF (aG (val xs)))):=(L.trimM xs hx hl).freeze
theorem aYB {C:Ctx} (L:mQ C) (v:Nat) (hv:v<18446744073709551616):ER.wp C (aX YM.res (bY (aF (aG v)))) (PF.args [.int .u64 v]) .nil:=by
 have e1:IntKind.u32.wrap ((v:Nat):Int)=((v%4294967296:Nat):Int):=bX v
 have hd:v/4294967296<4294967296:=by omega
 have e3:IntKind.u32.wrap ((v/4294967296:Nat):Int)=((v/4294967296:Nat):Int):=by rw[bX,bhU hd]
 have hL:Lim [v%4294967296,v/4294967296]:=by
  intro x hx
  simp only[bhB,List.mem_nil_iff,or_false] at hx
  rcases hx with rfl | rfl
  ·exact bhX _ (by decide)
  ·exact hd
 have hval:val [v%4294967296,v/4294967296]=v:=by simp only[val,Nat.mul_zero,biS]; exact Nat.mod_add_div v 4294967296
 have hsh:shift .shr .u64 (v:Int) 32=some (.int .u64 ((v/4294967296:Nat):Int)):=tM
 have hb:(2:Nat)*1≤16777216:=by decide
 simp -implicitDefEqProofs only[go_sem,υ,δ,γ,η,ζ,reduceCtorEq,ER,axN,axO,YM,e1,hsh,e3,hb]
 have ht:=L.trim [v%4294967296,v/4294967296] hL (by simp)
 rw[hval] at ht
 refine aB ht rfl ?_
 simp -implicitDefEqProofs only[go_sem,γ]
 exact aW (.inr rfl) .nil rfl PH.nil_le ⟨.refl _,rfl⟩
theorem aSX {C:Ctx} (L:mQ C) (xs:List Nat) (hx:Lim xs) (hl:xs.length≤16777216):zL.wp C (aX KV.res (bY (.bool (decide (nl (val xs)>512))))) (PF.args [aF xs]) .nil:=by
 simp -implicitDefEqProofs only[go_sem,reduceCtorEq,zL,aiM,aiN,KV]
 refine aB (L.trim xs hx hl) rfl ?_
 simp -implicitDefEqProofs only[go_sem,γ,bgR,bH]
 refine aU rfl ?_
 rw[decide_eq_decide]
 omega
end Go.PM
namespace Go.PM
open Go Go.Na
theorem aIX {a b:Nat} (h:nl a<nl b):dH a b=-1:=by
 have:a<b:=by
  rcases bhG a b with h' | h'
  ·exact h'
  ·have:=gM h'; omega
 simp[dH,this]
theorem aIW {a b:Nat} (h:nl b<nl a):dH a b=1:=by
 have:b<a:=by
  rcases bhG b a with h' | h'
  ·exact h'
  ·have:=gM h'; omega
 have h2:¬ a<b:=by omega
 simp[dH,this,h2]
def aNB (X Y:List Nat) (i:Int):PF:=(((PF.nil.set 0 (aF X)).set 1 (aF Y)).set 5 (.int .i64 i))
theorem a2Y {C:Ctx} (L:mQ C) (xs ys:List Nat) (hx:Lim xs) (hy:Lim ys) (lx:xs.length≤16777216) (ly:ys.length≤16777216) :
  KP.wp C (aX awX.res (aK (.int .i64 (dH (val xs) (val ys))))) (PF.args [aF xs,aF ys]) .nil:=by
 simp -implicitDefEqProofs only[go_sem,reduceCtorEq,KP,aHF,aHG,awX]
 refine aB (L.trim xs hx lx) (by simp -implicitDefEqProofs only[go_sem,γ]<;>rfl) ?_
 simp -implicitDefEqProofs only[go_sem,γ]
 refine aB (L.trim ys hy ly) (by simp -implicitDefEqProofs only[go_sem,γ]<;>rfl) ?_
 have bx:=eP hx
 have by':=eP hy
 simp -implicitDefEqProofs only[go_sem,γ,reduceCtorEq,aHH,bgR,bH]
 by_cases c0:nl (val xs)≠nl (val ys)
 ·simp -implicitDefEqProofs only[go_sem,γ,reduceCtorEq,dZ (show ((nl (val xs):Nat):Int)≠(nl (val ys):Nat) by omega),aHI]
  by_cases c1:nl (val xs)<nl (val ys)
  ·simp -implicitDefEqProofs only[go_sem,ο,bgR,bH,show ((nl (val xs):Nat):Int)<(nl (val ys):Nat) by omega,aHJ]
   refine bZ (.inr rfl) (by simp -implicitDefEqProofs only[go_sem,ο,γ,reduceCtorEq]<;>rfl) ?_
   rw[aIX c1]; rfl
  ·simp -implicitDefEqProofs only[go_sem,bgR,bH,show ¬ ((nl (val xs):Nat):Int)<(nl (val ys):Nat) by omega,aHK]
   refine bZ (.inr rfl) (by simp -implicitDefEqProofs only[go_sem,γ,reduceCtorEq]<;>rfl) ?_
   rw[aIW (by omega)]; rfl
 replace c0:=Decidable.of_not_not c0
 simp -implicitDefEqProofs only[go_sem,γ,reduceCtorEq,cM (show ((nl (val xs):Nat):Int)=(nl (val ys):Nat) by omega),aHL,bgR,bH]
 have ex:=aY (val xs)
 have ey:=aY (val ys)
 have LX:=bD (val xs)
 have LY:=bD (val ys)
 generalize hX:aG (val xs)=X at *
 generalize hY:aG (val ys)=Y at *
 have hlX:X.length=nl (val xs):=by rw[← hX]; rfl
 have hlY:Y.length=nl (val xs):=by rw[c0,← hY]; rfl
 refine wp_loop (α:=Nat) (fun k=>aNB X Y ((k:Int)-1)) (fun _=>.nil) (fun k=>k≤nl (val xs)∧X.drop k=Y.drop k) (fun k=>k) (nl (val xs)) ⟨bgV _,?_⟩ ?_ PH.nil_le ?_
 ·rw[bjX (by omega),bjX (by omega)]
 ·unfold aNB
  (repeat' (first|exact PF.nil_le|refine PF.aA ?_ ?_))<;>first|(simp -implicitDefEqProofs only[go_sem,γ,reduceCtorEq,wrap_i64 (show -9223372036854775808≤((nl (val xs):Nat):Int)-1 by omega) (show ((nl (val xs):Nat):Int)-1≤9223372036854775807 by omega)]<;>rfl)|rfl
 rintro k ⟨hk,hd⟩
 simp -implicitDefEqProofs only[go_sem,γ,reduceCtorEq,awY,aHM,aNB]
 by_cases h0:0<k
 ·obtain⟨m,rfl⟩:∃ m,k=m+1:=⟨k-1,by omega⟩
  have hz:((m+1:Nat):Int)-1=(m:Int):=by omega
  have hge:(m:Int)≥0:=by omega
  have x1:m<X.length:=by omega
  have y1:m<Y.length:=by omega
  simp -implicitDefEqProofs only[go_sem,hz,hge]
  refine cD .nil dV PH.nil_le ?_
  simp -implicitDefEqProofs only[go_sem,γ,reduceCtorEq,aHN,bJ X x1,bJ Y y1]
  by_cases c3:X[m]<Y[m]
  ·simp -implicitDefEqProofs only[go_sem,ο,show ((X[m]:Nat):Int)<(Y[m]:Nat) by omega,aHO]
   refine bZ (.inr rfl) (by simp -implicitDefEqProofs only[go_sem,ο,γ,reduceCtorEq]<;>rfl) ?_
   have:=TH LX x1 y1 hd c3
   rw[ex,ey] at this
   simp[cN,dH,this]
  ·simp -implicitDefEqProofs only[go_sem,show ¬ ((X[m]:Nat):Int)<(Y[m]:Nat) by omega]
   refine cD .nil dV PH.nil_le ?_
   simp -implicitDefEqProofs only[go_sem,γ,reduceCtorEq,awZ,bJ X x1,bJ Y y1]
   by_cases c4:X[m]>Y[m]
   ·simp -implicitDefEqProofs only[go_sem,show ((X[m]:Nat):Int)>(Y[m]:Nat) by omega,axA]
    refine bZ (.inr rfl) (by simp -implicitDefEqProofs only[go_sem,γ,reduceCtorEq]<;>rfl) ?_
    have:=TH LY y1 x1 hd.symm c4
    rw[ex,ey] at this
    have h2:¬ val xs<val ys:=by omega
    simp[cN,dH,this,h2]
   ·simp -implicitDefEqProofs only[go_sem,γ,reduceCtorEq,show ¬ ((X[m]:Nat):Int)>(Y[m]:Nat) by omega,axB]
    refine aJ m ⟨by omega,abT x1 y1 hd (by omega)⟩ (by omega) ?_ PH.nil_le
    (repeat' (first|exact PF.nil_le|refine PF.aA ?_ ?_))<;>first|(simp -implicitDefEqProofs only[go_sem,γ,reduceCtorEq,wrap_i64 (show -9223372036854775808≤(m:Int)-1 by omega) (show (m:Int)-1≤9223372036854775807 by omega)]<;>rfl)|rfl
 ·have:k=0:=by omega
  subst this
  have hz:¬ ((0:Nat):Int)-1≥0:=by decide
  simp -implicitDefEqProofs only[go_sem,hz,axC]
  refine bZ (.inr rfl) (by simp -implicitDefEqProofs only[go_sem,γ,reduceCtorEq]<;>rfl) ?_
  rw[bhT,bhT] at hd
  have:val xs=val ys:=by rw[← ex,← ey,hd]
  simp[cN,dH,this]
theorem wV (n:Nat):(((n:Nat):Int)==0)=decide (n=0):=by
 by_cases h:n=0
 ·subst h; rfl
 ·rw[bG (by omega),decide_eq_false h]
structure akN (C:Ctx):Prop extends mQ C where
 make:∀ v:Nat,v<18446744073709551616→aI C 35 [.int .u64 v] .nil (aK (aF (aG v)))
 large:∀ xs,Lim xs→xs.length≤16777216→aI C 41 [aF xs] .nil (aK (.bool (decide (nl (val xs)>512))))
 cmp:∀ xs ys,Lim xs→Lim ys→xs.length≤16777216→ys.length≤16777216→aI C 32 [aF xs,aF ys] .nil (aK (.int .i64 (dH (val xs) (val ys))))
end Go.PM
namespace Go.PM
open Go Go.Na
def aNF (a b:Nat):PF:=((PF.nil.set 6 (aF (aG a))).set 7 (aF (aG b)))
structure SY (C:Ctx):Prop extends akN C where
 divide:∀ A B:Nat,B≠0→nl A≤512→nl B≤512→aI C 39 [aF (aG A),aF (aG B)] .nil (aK (nI A B))
def aJO (a b:Nat):PV:=if eN a b then .tup [aF [],.int .i64 2] else .tup [aF (aG (bgS a b)),.int .i64 0]
theorem a3C {C:Ctx} (L:SY C) (a b:List Nat) (ha:Lim a) (hb:Lim b) (la:a.length≤16777216) (lb:b.length≤16777216) :
  KU.wp C (aX axM.res (bY (aJO (val a) (val b)))) (PF.args [aF a,aF b]) .nil:=by
 unfold aJO
 simp -implicitDefEqProofs only[go_sem,reduceCtorEq,KU,aHW,aHX,axM]
 refine aB (L.large a ha la) rfl ?_
 by_cases c1:nl (val a)>512
 ·simp -implicitDefEqProofs only[go_sem,γ,c1,abM]
  rw[if_pos (by simp[eN,c1])]
  exact gW rfl
 simp -implicitDefEqProofs only[go_sem,γ,c1]
 refine aB (L.large b hb lb) rfl ?_
 by_cases c2:nl (val b)>512
 ·simp -implicitDefEqProofs only[go_sem,γ,reduceCtorEq,c2,abM]
  rw[if_pos (by simp[eN,c2])]
  exact gW rfl
 rw[if_neg (by simp[eN,c1,c2])]
 simp -implicitDefEqProofs only[go_sem,γ,reduceCtorEq,c2,aHY]
 refine aB (L.trim a ha la) rfl ?_
 simp -implicitDefEqProofs only[go_sem,γ]
 refine aB (L.trim b hb lb) rfl ?_
 simp -implicitDefEqProofs only[go_sem,γ]
 refine wp_loop (α:=Nat × Nat) (fun t=>aNF t.1 t.2) (fun _=>.nil) (fun t=>bgS t.1 t.2=bgS (val a) (val b)∧nl t.1≤512∧nl t.2≤512) (fun t=>t.2) (val a,val b) ⟨rfl,by simp only; omega,by simp only; omega⟩ ?_ PH.nil_le ?_
 ·unfold aNF
  (repeat' (first|exact PF.nil_le|refine PF.aA ?_ ?_))<;>first|(simp -implicitDefEqProofs only[go_sem,γ]<;>rfl)|rfl
 rintro⟨x,y⟩ ⟨hg,hx,hy⟩
 simp only at hg hx hy
 simp -implicitDefEqProofs only[go_sem,γ,aHV,aHZ,aNF,bH]
 by_cases c3:y=0
 ·subst c3
  have:¬ ((nl 0:Nat):Int)>0:=by rw[uH]; decide
  simp -implicitDefEqProofs only[go_sem,γ,this,aIC]
  refine aW (vs:=[aF (aG x),.int .i64 0]) (.inr rfl) .nil rfl PH.nil_le ⟨?_,rfl⟩
  rw[← hg,Nat.gcd_zero_right]
  exact .refl _
 ·have h0:nl y≠0:=fun h=>c3 (iV.1 h)
  have:((nl y:Nat):Int)>0:=by omega
  simp -implicitDefEqProofs only[go_sem,γ,this,aIA]
  refine aB (L.divide x y c3 (by omega) (by omega)) rfl ?_
  simp -implicitDefEqProofs only[go_sem,γ,nI,aIB]
  have hlt:x%y<y:=bhX _ (biZ c3)
  refine aJ (y,x%y) ⟨?_,hy,?_⟩ hlt ?_ PH.nil_le
  ·simp only
   rw[← hg,Nat.gcd_comm y,← Nat.gcd_rec y x,Nat.gcd_comm]
  ·have:=gM (Nat.le_of_lt hlt)
   simp only; omega
  ·(repeat' (first|exact PF.nil_le|refine PF.aA ?_ ?_))<;>first|(simp -implicitDefEqProofs only[go_sem,γ]<;>rfl)|rfl
theorem a3A {C:Ctx} (L:SY C) (a b:List Nat) (ha:Lim a) (hb:Lim b) (la:a.length≤16777216) (lb:b.length≤16777216) :
  KQ.wp C (aX udiv.res (bY (kL (val a) (val b)))) (PF.args [aF a,aF b]) .nil:=by
 unfold kL
 simp -implicitDefEqProofs only[go_sem,reduceCtorEq,KQ,aHP,aHQ,udiv]
 refine aB (L.large a ha la) rfl ?_
 by_cases c1:nl (val a)>512
 ·simp -implicitDefEqProofs only[go_sem,γ,c1,abL]
  rw[if_pos (by simp[eN,c1])]
  exact oT rfl
 simp -implicitDefEqProofs only[go_sem,γ,c1]
 refine aB (L.large b hb lb) rfl ?_
 by_cases c2:nl (val b)>512
 ·simp -implicitDefEqProofs only[go_sem,γ,reduceCtorEq,c2,abL]
  rw[if_pos (by simp[eN,c2])]
  exact oT rfl
 rw[if_neg (by simp[eN,c1,c2])]
 simp -implicitDefEqProofs only[go_sem,γ,reduceCtorEq,c2,aHR]
 refine aB (L.trim b hb lb) rfl ?_
 simp -implicitDefEqProofs only[go_sem,γ,bgR,bH,wV,iV]
 by_cases c3:val b=0
 ·rw[if_pos c3]
  simp -implicitDefEqProofs only[go_sem,decide_eq_true c3,aHS]
  exact oT rfl
 rw[if_neg c3]
 simp -implicitDefEqProofs only[go_sem,reduceCtorEq,decide_eq_false c3,aHT]
 refine aB (L.trim a ha la) rfl ?_
 simp -implicitDefEqProofs only[go_sem,γ]
 refine aB (L.trim b hb lb) rfl ?_
 simp -implicitDefEqProofs only[go_sem]
 refine aB (L.divide (val a) (val b) c3 (by omega) (by omega)) rfl ?_
 simp -implicitDefEqProofs only[go_sem,γ,nI,aHU]
 exact aW (.inr rfl) .nil rfl PH.nil_le ⟨.refl _,rfl⟩
def xN (neg:Bool) (a b:Nat):FV:=(neg&&decide (a/bgS a b≠0),a/bgS a b,b/bgS a b)
structure akO (C:Ctx):Prop extends SY C where
 gcd:∀ a b,Lim a→Lim b→a.length≤16777216→b.length≤16777216→aI C 34 [aF a,aF b] .nil (aK (aJO (val a) (val b)))
 div:∀ a b,Lim a→Lim b→a.length≤16777216→b.length≤16777216→aI C 33 [aF a,aF b] .nil (aK (kL (val a) (val b)))
theorem qC {n:Nat} (h:nl n≤512):(aG n).length≤16777216:=by rw[bH]; omega
theorem adB:aG 1=[1]:=lL (by decide) (by decide)
theorem UI {n:Nat} (h:n≠0):aG n=n%4294967296::aG (n/4294967296):=oR h
theorem uR {n:Nat} (h:n≠0):(nl n>1∨n%4294967296>1)↔n≠1:=by
 constructor
 ·rintro h1 rfl
  rcases h1 with h1 | h1
  ·rw[nl,adB] at h1; simp at h1
  ·omega
 ·intro h1
  by_cases c:nl n>1
  ·exact .inl c
  ·have:n<4294967296 ^ 1:=(gP n 1).1 (by omega)
   rw[Nat.pow_one] at this
   rw[bhU this]
   exact .inr (by omega)
theorem aNM {C:Ctx} (L:akO C) (neg:Bool) (a b:List Nat) (ha:Lim a) (hb:Lim b) (la:a.length≤16777216) (lb:b.length≤16777216) (na:nl (val a)≤512) (nb:nl (val b)≤512) (h0:val b≠0) :
  vO.wp C (aX AQ.res (bY (.agg (xN neg (val a) (val b)).rf.cells))) (PF.args [.bool neg,aF a,aF b]) .nil:=by
 have hg0:bgS (val a) (val b)≠0:=fun h=>h0 (Nat.eq_zero_of_gcd_eq_zero_right h)
 have hgb:bgS (val a) (val b)≤val b:=Nat.gcd_le_right _ (biZ h0)
 have ng:nl (bgS (val a) (val b))≤512:=bjI (gM hgb) nb
 have hnb:eN (val a) (val b)=false:=iU na nb
 simp -implicitDefEqProofs only[go_sem,δ,vO,YY,YZ,AQ]
 refine aQ fun o ho=>?_
 simp -implicitDefEqProofs only[go_sem,γ]
 refine aB (L.trim a ha la) rfl ?_
 simp -implicitDefEqProofs only[go_sem,γ]
 refine aB (L.trim b hb lb) rfl ?_
 simp -implicitDefEqProofs only[go_sem,γ,ZA,bgR,bH,wV,iV]
 by_cases c1:val a=0
 ·simp -implicitDefEqProofs only[go_sem,υ,δ,γ,η,θ,ζ,decide_eq_true c1,ZB]
  have e:(xN neg (val a) (val b)).rf=⟨false,[],[1]⟩:=by
   rw[c1]
   unfold xN FV.rf
   simp[eZ,Nat.div_self (biZ h0),adB]
  rw[e]
  refine aW (vs:=[.agg [.bool false,.nils,aF [1]]]) (.inr rfl) .nil ?_ PH.nil_le ⟨show Co (.agg _) (.agg _) from CoL.agg (CoL.cons (.refl _) (CoL.cons (.nil 1) (CoL.cons (.refl _) .nil))),rfl⟩
  simp -implicitDefEqProofs only[go_sem,δ,γ]
  rfl
 have hgcd:=L.gcd (aG (val a)) (aG (val b)) (bD _) (bD _) (qC na) (qC nb)
 rw[aY,aY,aJO,hnb] at hgcd
 simp -implicitDefEqProofs only[go_sem,γ,decide_eq_false c1,ZC]
 refine aB hgcd rfl ?_
 have fin:∀ x y:Nat,x=val a/bgS (val a) (val b)→y=val b/bgS (val a) (val b)→∀ (F:PF) (H:PH),F 0=some (.bool neg)→F 1=some (aF (aG x))→F 2=some (aF (aG y))→F 6=some (.ptr o 3 0 0)→H o=some (.rows 3 [[.bool false,.nils,.nils]]) →
   aD.wp C (.seq (.region tU) .ret) (aX [.cell 6 (some 3)] (bY (.agg (xN neg (val a) (val b)).rf.cells))) F H:=by
  intro x y hx hy F H f0 f1 f2 f6 hH
  subst hx; subst hy
  simp -implicitDefEqProofs only[go_sem,δ,γ,θ,tU,f0,f1,f2,f6,hH]
  have hq:val a/bgS (val a) (val b)≠0:=by
   have:=Nat.div_pos (Nat.gcd_le_left (val b) (biZ c1)) (biZ hg0)
   omega
  have e:(xN neg (val a) (val b)).rf=⟨neg,aG (val a/bgS (val a) (val b)),aG (val b/bgS (val a) (val b))⟩:=by
   unfold xN FV.rf
   simp only[hq,ne_eq,not_false_eq_true,decide_true,bjL]
  rw[e]
  refine aW (vs:=[.agg (eX neg (aG (val a/bgS (val a) (val b))) (aG (val b/bgS (val a) (val b))))]) (.inr rfl) .nil ?_ PH.nil_le ⟨.refl _,rfl⟩
  simp -implicitDefEqProofs only[go_sem,δ,γ,f6]
 simp only[aD.wp,go_sem] at fin
 have hd:=fun x (hx:nl x≤512)=>L.div (aG x) (aG (bgS (val a) (val b))) (bD _) (bD _) (qC hx) (qC ng)
 simp only[aY,kL] at hd
 have tail:bgS (val a) (val b)≠1→∀ (F:PF) (H:PH),F 0=some (.bool neg)→F 1=some (aF (aG (val a)))→F 2=some (aF (aG (val b)))→F 6=some (.ptr o 3 0 0)→F 7=some (aF (aG (bgS (val a) (val b))))→H o=some (.rows 3 [[.bool false,.nils,.nils]]) →
   aD.wp C (.seq (.seq (.region FC) (.region FD)) (.seq (.region tU) .ret)) (aX [.cell 6 (some 3)] (bY (.agg (xN neg (val a) (val b)).rf.cells))) F H:=by
  intro _ F H f0 f1 f2 f6 f7 hH
  have d1:=hd (val a) na
  have d2:=hd (val b) nb
  rw[iU na ng,if_neg hg0] at d1
  rw[iU nb ng,if_neg hg0] at d2
  simp -implicitDefEqProofs only[go_sem,γ,FC,f1,f7]
  refine aB d1 rfl ?_
  simp -implicitDefEqProofs only[go_sem,γ,bjW,FD,f2,f7]
  refine aB d2 rfl ?_
  simp -implicitDefEqProofs only[go_sem,γ,bjW]
  exact fin _ _ rfl rfl _ _ (by simp -implicitDefEqProofs only[go_sem,reduceCtorEq,f0]) rfl rfl (by simp -implicitDefEqProofs only[go_sem,γ,f6]) hH
 simp only[aD.wp,go_sem] at tail
 simp -implicitDefEqProofs only[go_sem,γ,bjW,ZD,bgR,bH]
 by_cases c2:nl (bgS (val a) (val b))>1
 ·have c2':((nl (bgS (val a) (val b)):Nat):Int)>1:=by omega
  simp -implicitDefEqProofs only[go_sem,γ,c2']
  exact tail ((uR hg0).1 (.inl c2)) _ _ rfl rfl rfl rfl rfl (by simp -implicitDefEqProofs only[go_sem])
 ·have c2':¬ ((nl (bgS (val a) (val b)):Nat):Int)>1:=by omega
  simp -implicitDefEqProofs only[go_sem,ν,γ,reduceCtorEq,c2',UI hg0]
  by_cases c3:bgS (val a) (val b)%4294967296>1
  ·have c3':((bgS (val a) (val b)%4294967296:Nat):Int)>1:=by omega
   simp -implicitDefEqProofs only[go_sem,c3']
   exact tail ((uR hg0).1 (.inr c3)) _ _ rfl rfl rfl rfl (by simp -implicitDefEqProofs only[go_sem,γ,UI hg0]) (by simp -implicitDefEqProofs only[go_sem])
  ·have c3':¬ ((bgS (val a) (val b)%4294967296:Nat):Int)>1:=by omega
   have h1:bgS (val a) (val b)=1:=by
    rcases Decidable.em (bgS (val a) (val b)=1) with h | h
    ·exact h
    ·rcases (uR hg0).2 h with h | h
     ·exact absurd h c2
     ·exact absurd h c3
   simp -implicitDefEqProofs only[go_sem,c3']
   exact fin (val a) (val b) (by rw[h1,Nat.div_one]) (by rw[h1,Nat.div_one]) _ _ rfl rfl rfl rfl (by simp -implicitDefEqProofs only[go_sem])
end Go.PM
namespace Go.PM
open Go Go.Na
theorem aYR {C:Ctx} (v:Int) (h1:-9223372036854775808≤v) (h2:v≤9223372036854775807) :
  FH.wp C (aX ZE.res (aK (.int .u64 (v.natAbs:Nat)))) (PF.args [.int .i64 v]) .nil:=by
 simp -implicitDefEqProofs only[go_sem,γ,reduceCtorEq,FH,ayH,ayI,ZE]
 by_cases c:v<0
 ·have e1:IntKind.i64.wrap (v+1)=v+1:=wrap_i64 (by omega) (by omega)
  have e2:IntKind.i64.wrap (0-(v+1))=-(v+1):=by rw[wrap_i64 (by omega) (by omega)]; omega
  have e3:IntKind.u64.wrap (IntKind.u64.wrap (-(v+1))+1)=((v.natAbs:Nat):Int):=by
   rw[eU,eU]; omega
  simp -implicitDefEqProofs only[go_sem,γ,reduceCtorEq,c,ayJ,e1,e2,e3]
  refine bZ (.inr rfl) rfl ?_
  rfl
 ·have e:IntKind.u64.wrap v=((v.natAbs:Nat):Int):=by
   rw[eU]; omega
  simp -implicitDefEqProofs only[go_sem,γ,reduceCtorEq,c,ayK,e]
  refine bZ (.inr rfl) rfl ?_
  rfl
structure aIK (C:Ctx):Prop extends akO C where
 lowest:∀ neg a b,Lim a→Lim b→a.length≤16777216→b.length≤16777216→nl (val a)≤512→nl (val b)≤512→val b≠0→aI C 58 [.bool neg,aF a,aF b] .nil (aK (.agg (xN neg (val a) (val b)).rf.cells))
 size:∀ v:Int,dS v→aI C 59 [.int .i64 v] .nil (aK (.int .u64 (v.natAbs:Nat)))
def mkT (n d:Int):RF:=(xN (decide (n<0) != decide (d<0)) n.natAbs d.natAbs).rf
def sN (n d:Int):PV:=if d=0 then vX 3 else .tup [.agg (mkT n d).cells,.int .i64 0]
theorem aYP {C:Ctx} (L:aIK C) (n d:Int) (h1:dS n) (h2:dS d) :
  FF.wp C (aX MT.res (bY (sN n d))) (PF.args [.int .i64 n,.int .i64 d]) .nil:=by
 simp -implicitDefEqProofs only[go_sem,δ,FF,ayD,ayE]
 refine aQ fun o ho=>?_
 unfold sN
 by_cases c:d=0
 ·subst c
  simp -implicitDefEqProofs only[go_sem,ρ,δ,γ,ayF]
  refine lD ?_
  simp -implicitDefEqProofs only[go_sem,δ,γ,MT]
 ·rw[if_neg c]
  simp -implicitDefEqProofs only[go_sem,γ,reduceCtorEq,bG c,ayG]
  refine aB (L.size n h1) rfl ?_
  simp -implicitDefEqProofs only[go_sem]
  refine aB (L.make n.natAbs (by omega)) rfl ?_
  simp -implicitDefEqProofs only[go_sem,γ]
  refine aB (L.size d h2) rfl ?_
  simp -implicitDefEqProofs only[go_sem]
  refine aB (L.make d.natAbs (by omega)) rfl ?_
  simp -implicitDefEqProofs only[go_sem]
  have n1:nl n.natAbs≤2:=mJ (by omega)
  have n2:nl d.natAbs≤2:=mJ (by omega)
  have low:=L.lowest (decide (n<0) != decide (d<0)) (aG n.natAbs) (aG d.natAbs) (bD _) (bD _) (by rw[bH]; omega) (by rw[bH]; omega)
  rw[aY,aY] at low
  have low:=low (by omega) (by omega) (by omega)
  refine aB low rfl ?_
  simp -implicitDefEqProofs only[go_sem,δ,γ]
  exact aW (.inr rfl) .nil (vs:=[.agg (mkT n d).cells,.int .i64 0]) (by simp -implicitDefEqProofs only[go_sem,δ,γ,MT]; rfl) PH.nil_le ⟨.refl _,rfl⟩
structure akP (C:Ctx):Prop extends aIK C where
 fmk:∀ n d:Int,dS n→dS d→aI C 50 [.int .i64 n,.int .i64 d] .nil (aK (sN n d))
theorem a3V {C:Ctx} (L:akP C) (n:Int) (h1:dS n) :
  LH.wp C (aX ayC.res (bY (.agg (mkT n 1).cells))) (PF.args [.int .i64 n]) .nil:=by
 simp -implicitDefEqProofs only[go_sem,δ,LH,aIG,aIH,ayC]
 refine aQ fun o ho=>?_
 simp -implicitDefEqProofs only[go_sem,reduceCtorEq]
 refine aB (L.fmk n 1 h1 (by unfold dS; omega)) rfl ?_
 unfold sN
 rw[if_neg (by decide)]
 simp -implicitDefEqProofs only[go_sem,δ,γ]
 refine aQ fun p hp=>?_
 have hne:o≠p:=by
  rintro rfl
  simp only[aV,if_true] at hp
  cases hp
 have hne':p≠o:=fun h=>hne h.symm
 simp -implicitDefEqProofs only[go_sem,δ,γ,hne,aII]
 refine aW (vs:=[.agg (mkT n 1).cells]) (.inr rfl) .nil ?_ PH.nil_le ⟨.refl _,rfl⟩
 simp -implicitDefEqProofs only[go_sem,δ,γ,hne']
end Go.PM
namespace Go.PM
open Go Go.Na
structure pE (C:Ctx):Prop extends ajU C where
 inn:∀ n lo hi:Int,aI C 104 [.int .i64 n,.int .i64 lo,.int .i64 hi] .nil (aK (.bool (within n lo hi)))
 lW:∀ x:RF,x.Ok→aI C 97 [.agg x.cells] .nil (aK (.bool (bR x)))
 lim:∀ x:RF,x.Ok→aI C 105 [.agg x.cells] .nil (aK (.bool (fF x)))
 one:∀ x:RF,x.Ok→aI C 101 [.agg x.cells] .nil (aK (.bool (RZ x)))
 allf:∀ (p:RF→Bool) (fn:Nat) (l:List RF),Fits l→(∀ x∈l,aI C fn [.agg x.cells] .nil (aK (.bool (p x))))→aI C 99 [frs l,.fn fn []] .nil (aK (.bool (l.all p)))
 alli:∀ (p:Int→Bool) (fn:Nat) (l:List Int),Fits l→(∀ x∈l,aI C fn [.int .i64 x] .nil (aK (.bool (p x))))→aI C 100 [ints l,.fn fn []] .nil (aK (.bool (l.all p)))
 allb:∀ (p:Bool→Bool) (fn:Nat) (l:List Bool),Fits l→(∀ x∈l,aI C fn [.bool x] .nil (aK (.bool (p x))))→aI C 98 [aIT l,.fn fn []] .nil (aK (.bool (l.all p)))
 ends1:∀ b:Bool,aI C 103 [.bool b] .nil (aK (.bool b))
 num1:∀ n:Int,aI C 107 [.int .i64 n] .nil (aK (.bool (within n 0 8)))
 rate1:∀ x:RF,x.Ok→aI C 109 [.agg x.cells] .nil (aK (.bool (fF x&&bR x)))
 name:∀ s:List UInt8,aI C 123 [.str s] .nil (aK (.bool (isName s)))
theorem pE.aVR {C:Ctx} (L:pE C) (l:List RF) (h:qO l):aI C 99 [frs l,.fn 105 []] .nil (aK (.bool (l.all fF))) :=
 L.allf fF 105 l h.fits fun x hx=>L.lim x (h.all x hx)
theorem within_iff {n lo hi:Int}:within n lo hi=true↔lo≤n∧n≤hi:=by simp[within]
theorem a0K {C:Ctx} (L:pE C) (p:cO) (hp:p.Ok) :
  HE.wp C (aX anT.res (bY (.bool (RX p)))) (PF.args [.int .i64 p.k,.int .i64 p.m,.int .i64 p.quorum,.agg [.int .i64 p.s0,.int .i64 p.s1,.int .i64 p.s2,.int .i64 p.s3,.int .i64 p.s4]]) .nil:=by
 simp -implicitDefEqProofs only[go_sem,reduceCtorEq,HE,aDN,aDO,anT]
 refine aB (L.inn p.k 1 6) rfl ?_
 unfold RX
 cases h1:within p.k 1 6 with
 | false =>
  simp -implicitDefEqProofs only[go_sem,γ,bhK,uE]
  exact aU rfl (by simp only[bhE])
 | true =>
  obtain⟨k1,k2⟩:=within_iff.1 h1
  simp -implicitDefEqProofs only[go_sem,γ,bgZ]
  refine aB (L.inn p.m 0 4) rfl ?_
  cases h2:within p.m 0 4 with
  | false =>
   simp -implicitDefEqProofs only[go_sem,γ,reduceCtorEq,bhK,uE]
   exact aU rfl (by simp only[bhE,biI])
  | true =>
   obtain⟨m1,m2⟩:=within_iff.1 h2
   have hw:IntKind.i64.wrap (p.k+p.m)=p.k+p.m:=wrap_i64 (by omega) (by omega)
   by_cases h3:p.k+p.m≤8
   ·have h3':¬ p.k+p.m>8:=by omega
    simp -implicitDefEqProofs only[go_sem,γ,reduceCtorEq,bgZ,hw,h3']
    refine aB (L.inn p.quorum p.k (p.k+p.m)) rfl ?_
    cases h4:within p.quorum p.k (p.k+p.m) with
    | false =>
     simp -implicitDefEqProofs only[go_sem,γ,reduceCtorEq,bhK,uE]
     exact aU rfl (by simp only[bhE,biI])
    | true =>
     have h50:(0:Int)<((5:Nat):Int):=by decide
     by_cases h5:p.s0=0
     ·have hch:chunks 1 5 [PV.int .i64 p.s0,.int .i64 p.s1,.int .i64 p.s2,.int .i64 p.s3,.int .i64 p.s4]=([p.s0,p.s1,p.s2,p.s3,p.s4].map fun n=>[PV.int .i64 n]):=rfl
      have hm:5≤maxLen:=by decide
      simp -implicitDefEqProofs only[go_sem,ν,δ,γ,η,θ,ζ,reduceCtorEq,bgZ,h50,cM h5,aDP,hch,hm]
      refine aB (L.alli (fun n=>within n 0 8) 107 [p.s0,p.s1,p.s2,p.s3,p.s4] (show 5≤9223372036854775807 by decide) fun x _=>L.num1 x) rfl ?_
      simp -implicitDefEqProofs only[go_sem,γ]
      exact aU rfl (by rw[decide_eq_true h3,decide_eq_true h5]; simp only[bhP])
     ·simp -implicitDefEqProofs only[go_sem,ν,δ,γ,θ,ζ,reduceCtorEq,bgZ,h50,dZ h5,uE]
      exact aU rfl (by rw[decide_eq_false h5]; simp only[bhE,biI])
   ·have h3':p.k+p.m>8:=by omega
    simp -implicitDefEqProofs only[go_sem,γ,reduceCtorEq,bgZ,hw,h3',uE]
    exact aU rfl (by rw[decide_eq_false h3]; simp only[bhE,biI])
theorem max_eq (a b:Int):(if a<b then b else a)=max a b:=by
 rw[Int.max_def]
 by_cases h:a<b
 ·rw[if_pos h,if_pos (by omega)]
 ·by_cases h':a≤b
  ·rw[if_neg h,if_pos h']; omega
  ·rw[if_neg h,if_neg h']
theorem aVB {C:Ctx} (L:pE C) (p:cO) (hp:p.Ok) :
  BO.wp C (aX UG.res (bY (.bool (MN p)))) (PF.args [.int .i64 p.m,frs p.repair,.agg p.target.cells,.agg p.horizon.cells]) .nil:=by
 simp -implicitDefEqProofs only[go_sem,γ,reduceCtorEq,BO,aoA,aoB,UG,max_eq,bgR]
 unfold MN
 by_cases h1:(p.repair.length:Int)=max p.m 1
 ·simp -implicitDefEqProofs only[go_sem,γ,bT h1]
  refine aB (L.allf (fun x=>fF x&&bR x) 109 p.repair hp.repair.fits fun x hx=>L.rate1 x (hp.repair.all x hx)) rfl ?_
  rw[decide_eq_true h1,bhP]
  cases h2:p.repair.all fun x=>fF x&&bR x with
  | false =>
   simp -implicitDefEqProofs only[go_sem,γ,reduceCtorEq]
   exact aU rfl rfl
  | true =>
   simp -implicitDefEqProofs only[go_sem,δ,γ]
   refine aB (L.lim _ hp.target) rfl ?_
   cases h3:fF p.target with
   | false =>
    simp -implicitDefEqProofs only[go_sem,γ,reduceCtorEq]
    exact aU rfl rfl
   | true =>
    simp -implicitDefEqProofs only[go_sem,δ,γ]
    refine aB (L.one _ hp.target) rfl ?_
    cases h4:RZ p.target with
    | false =>
     simp -implicitDefEqProofs only[go_sem,γ,reduceCtorEq]
     exact aU rfl rfl
    | true =>
     simp -implicitDefEqProofs only[go_sem,δ,γ]
     refine aB (L.lim _ hp.horizon) rfl ?_
     simp -implicitDefEqProofs only[go_sem,γ]
     exact aU rfl rfl
 ·simp -implicitDefEqProofs only[go_sem,γ,reduceCtorEq,bG h1]
  exact aU rfl (by rw[decide_eq_false h1]; rfl)
def nD (l:List (List UInt8)) (k:List KS):Option PV:=match k with
 | [.str s]=>if l.contains s then some (.bool true) else none
 | _=>none
theorem aRR (l:List (List UInt8)) (s:List UInt8):(fun k=>if k=[KS.str s] then some (PV.bool true) else nD l k)=nD (l++[s]):=by
 funext k
 match k with
 | []=>rfl
 | [.int a b]=>simp[nD]
 | [.bool a]=>simp[nD]
 | [.str t] =>
  by_cases h:t=s
  ·subst h; simp[nD]
  ·simp[nD,h]
 | a::b::c=>simp[nD]
end Go.PM
namespace Go.PM
open Go Go.Na
abbrev texts (l:List (List UInt8)):PV:=.sl 1 (l.map fun s=>[PV.str s])
theorem aRQ:nD []=(fun _=>none:jT):=by
 funext k
 match k with
 | []=>rfl
 | [.int a b]=>rfl
 | [.bool a]=>rfl
 | [.str t]=>rfl
 | a::b::c=>cases a<;>rfl
theorem aRS (l:List (List UInt8)) (s:List UInt8):jT.upd (nD l) [KS.str s] (.bool true)=nD (l++[s]):=aRR l s
theorem auR (l:List (List UInt8)) (s:List UInt8):(nD l [KS.str s]).getD (.bool false)=.bool (l.contains s):=by
 show (if l.contains s then some (PV.bool true) else none).getD (.bool false)=_
 cases l.contains s<;>rfl
theorem abD {p:Nat→Bool} {k:Nat} (h:(bhL k).all p=true) (hp:p k=true):(bhL (k+1)).all p=true:=by
 rw[List.range_succ,List.all_append,h]; simp[hp]
theorem dO {p:Nat→Bool} {n k:Nat} (hk:k<n) (hp:p k=false):(bhL n).all p=false:=by
 rw[List.all_eq_false]
 exact⟨k,biY.2 hk,by simp[hp]⟩
def mP (p:Nat→Bool) (k:Nat):Prop:=(bhL k).all p=true
theorem mP.zero {p:Nat→Bool}:mP p 0:=rfl
theorem mP.step {p:Nat→Bool} {k:Nat} (h:mP p k) (hp:p k=true):mP p (k+1):=abD h hp
def aNG (l:List (List UInt8)) (o k:Nat):PF:=((((PF.nil.set 3 (.map o)).set 7 (texts l)).set 8 (.int .i64 (l.length:Nat))).set 9 (.int .i64 k))
theorem aVE {C:Ctx} (L:pE C) (l:List (List UInt8)) (hf:Fits l):BQ.wp C (aX UH.res (bY (.bool (distinct l)))) (PF.args [texts l]) .nil:=by
 simp -implicitDefEqProofs only[go_sem,BQ,aoH,aoI,UH]
 refine aQ fun o ho=>?_
 simp -implicitDefEqProofs only[go_sem,γ,reduceCtorEq,aoJ]
 have e0:(PH.nil.set o (.map (false,[.str]) (fun _=>none)))=PH.nil.set o (.map (false,[.str]) (nD (l.take 0))):=by rw[List.take_zero,aRQ]
 unfold distinct
 generalize hp:(fun i=>isName (l.getD i [])&&!(l.take i).contains (l.getD i []))=p
 have hpk:∀ k (h:k<l.length),p k=(isName l[k]&&!(l.take k).contains l[k]):=by
  intro k h
  rw[← hp]
  simp only[bhN,bhD h,bjK]
 refine wp_loop (α:=Nat) (fun k=>aNG l o k) (fun k=>PH.nil.set o (.map (false,[.str]) (nD (l.take k)))) (fun k=>k≤l.length∧mP p k) (fun k=>l.length-k) 0 ⟨bhC _,.zero⟩ ?_ ?_ ?_
 ·unfold aNG
  (repeat' (first|exact PF.nil_le|refine PF.aA ?_ ?_))<;>first|(simp -implicitDefEqProofs only[go_sem,γ,bgR]<;>rfl)|rfl
 ·rw[e0]; exact PH.le_refl
 rintro k ⟨hk,ha⟩
 simp -implicitDefEqProofs only[go_sem,γ,aoG,aoK,aNG]
 by_cases hlt:k<l.length
 ·have hlt':(k:Int)<(l.length:Nat):=by omega
  have hr:(l.map fun s=>[PV.str s])[k]?=some [.str l[k]]:=by simp[hlt]
  simp -implicitDefEqProofs only[go_sem,γ,hlt',aoL,hr,aoM]
  refine aB (L.name l[k]) rfl ?_
  have hk2:=hpk k hlt
  cases h1:isName l[k] with
  | false =>
   rw[h1,bhE] at hk2
   simp -implicitDefEqProofs only[go_sem,γ,bhK,QB]
   exact aU (b:=false) rfl (dO hlt hk2).symm
  | true =>
   rw[h1,bhP] at hk2
   cases h2:(l.take k).contains l[k] with
   | true =>
    rw[h2] at hk2
    simp -implicitDefEqProofs only[go_sem,γ,reduceCtorEq,bgZ,auR,h2,QB]
    exact aU (b:=false) rfl (dO hlt hk2).symm
   | false =>
    rw[h2] at hk2
    simp -implicitDefEqProofs only[go_sem,γ,reduceCtorEq,bgZ,auR,h2,aoN,aRS,aoO,aO (show k<9223372036854775807 by omega)]
    refine aJ (k+1) ⟨hlt,ha.step hk2⟩ (by omega) ?_ ?_
    ·(repeat' (first|exact PF.nil_le|refine PF.aA ?_ ?_))<;>first|(simp -implicitDefEqProofs only[go_sem,γ]<;>rfl)|rfl
    ·rw[bjG hlt]
     exact PH.aA PH.nil_le (by simp -implicitDefEqProofs only[go_sem])
 ·have hlt':¬ (k:Int)<(l.length:Nat):=by omega
  simp -implicitDefEqProofs only[go_sem,hlt',acL]
  have:k=l.length:=by omega
  subst this
  exact aU (b:=true) rfl (show mP p l.length from ha).symm
def marks (n:Nat) (l:List Int):List Bool:=(bhL n).map fun (i:Nat)=>l.contains (i:Int)
theorem aPW (n:Nat) (l:List Int):(marks n l).length=n:=by simp[marks]
theorem adU (n:Nat):marks n []=bgT n false:=by
 refine bjM (by simp[marks]) fun i h1 h2=>by simp[marks]
theorem QQ {n:Nat} {l:List Int} {m:Int} (h0:0≤m) (h1:m<n):(marks n l)[m.toNat]?=some (l.contains m):=by
 have:m.toNat<n:=by omega
 simp only[marks,biG,List.getElem?_range this,bhZ]
 rw[Int.toNat_of_nonneg h0]
theorem adV {n:Nat} {l:List Int} {m:Int} (h0:0≤m) (h1:m<n):(marks n l).set m.toNat true=marks n (l++[m]):=by
 refine bjM (by simp[marks]) fun i h2 h3=>?_
 simp only[marks,biJ,List.getElem_range,List.getElem_set,List.contains_append]
 by_cases h:m.toNat=i
 ·subst h
  rw[if_pos rfl,Int.toNat_of_nonneg h0]; simp
 ·have hne:((i:Nat):Int)≠m:=by omega
  rw[if_neg h]; simp[hne]
abbrev eW (l:List Bool):List (List PV):=l.map fun b=>[PV.bool b]
theorem rW (l:List Bool) (i:Nat) (b:Bool):(eW l).set i [.bool b]=eW (l.set i b):=by unfold eW; rw[List.map_set]
structure akH (C:Ctx):Prop extends pE C where
 num:∀ p:cO,p.Ok→aI C 106 [.int .i64 p.k,.int .i64 p.m,.int .i64 p.quorum,.agg [.int .i64 p.s0,.int .i64 p.s1,.int .i64 p.s2,.int .i64 p.s3,.int .i64 p.s4]] .nil (aK (.bool (RX p)))
 rate:∀ p:cO,p.Ok→aI C 108 [.int .i64 p.m,frs p.repair,.agg p.target.cells,.agg p.horizon.cells] .nil (aK (.bool (MN p)))
 uniq:∀ l:List (List UInt8),Fits l→aI C 110 [texts l] .nil (aK (.bool (distinct l)))
def aWW (p:cO) (models:Nat) (o k:Nat):PF:=(((((PF.nil.set 1 (.int .i64 models)).set 5 (.osl o 1 0 models)).set 39 (ints p.models)).set 40 (.int .i64 (p.models.length:Nat))).set 41 (.int .i64 k))
theorem a0O {C:Ctx} (L:akH C) (p:cO) (hp:p.Ok) (models:Nat) (hm:models≤4):HG.wp C (aX anW.res (bY (.bool (iD models p)))) (PF.args [.agg p.cells,.int .i64 models]) .nil:=by
 simp -implicitDefEqProofs only[go_sem,δ,γ,θ,HG,aDT,aDU,anW]
 refine aB (L.num p hp) rfl ?_
 unfold iD
 cases h1:RX p with
 | false =>
  simp -implicitDefEqProofs only[go_sem,γ,bhK,MB]
  exact aU rfl (by simp only[bhE])
 | true =>
  by_cases h2:p.models.length=0
  ·simp -implicitDefEqProofs only[go_sem,δ,γ,θ,reduceCtorEq,bgZ,bgR,bT (show ((p.models.length:Nat):Int)=0 by omega),MB]
   refine aU rfl ?_
   have:decide (p.models.length≠0)=false:=by simp[h2]
   rw[this]; simp only[bhE,biI]
  ·have h2':decide (p.models.length≠0)=true:=by simp[h2]
   simp -implicitDefEqProofs only[go_sem,δ,γ,θ,reduceCtorEq,bgZ,bgR,bG (show ((p.models.length:Nat):Int)≠0 by omega)]
   refine aB (L.rate p hp) rfl ?_
   rw[h2']
   cases h3:MN p with
   | false =>
    simp -implicitDefEqProofs only[go_sem,γ,reduceCtorEq,bhK,MB]
    exact aU rfl (by simp only[bhE,biI])
   | true =>
    have hb1:((models:Nat):Int)*((1:Nat):Int)≤140737488355328:=by omega
    have hb2:((models:Nat):Int)≤9223372036854775807:=by omega
    simp only[bhP]
    simp -implicitDefEqProofs only[go_sem,γ,reduceCtorEq,bgZ,aDV,hb1,hb2]
    refine aQ fun o ho=>?_
    simp -implicitDefEqProofs only[go_sem,δ,γ,θ,aDW]
    have e0:bgT models [PV.bool false]=eW (marks models (p.models.take 0)):=by
     rw[List.take_zero,adU]; simp[eW]
    rw[e0]
    generalize hq:(fun j=>within (p.models.getD j 0) 0 ((models:Int)-1)&&!(p.models.take j).contains (p.models.getD j 0))=q
    have hqk:∀ k (h:k<p.models.length),q k=(within p.models[k] 0 ((models:Int)-1)&&!(p.models.take k).contains p.models[k]):=by
     intro k h
     rw[← hq]
     simp only[bhN,bhD h,bjK]
    refine wp_loop (α:=Nat) (fun k=>aWW p models o k) (fun k=>PH.nil.set o (.rows 1 (eW (marks models (p.models.take k))))) (fun k=>k≤p.models.length∧mP q k) (fun k=>p.models.length-k) 0 ⟨bhC _,.zero⟩ ?_ (PH.le_refl) ?_
    ·unfold aWW
     (repeat' (first|exact PF.nil_le|refine PF.aA ?_ ?_))<;>first|(simp -implicitDefEqProofs only[go_sem,γ,bgR]<;>rfl)|rfl
    rintro k ⟨hk,ha⟩
    simp -implicitDefEqProofs only[go_sem,γ,anX,aDX,aWW]
    have hfit:=hp.models
    by_cases hlt:k<p.models.length
    ·have hlt':(k:Int)<(p.models.length:Nat):=by omega
     have hr:(p.models.map fun n=>[PV.int .i64 n])[k]?=some [.int .i64 p.models[k]]:=by simp[hlt]
     have hw:IntKind.i64.wrap ((models:Int)-1)=(models:Int)-1:=wrap_i64 (by omega) (by omega)
     simp -implicitDefEqProofs only[go_sem,γ,hlt',aDY,hr,aDZ,hw]
     refine aB (L.inn p.models[k] 0 ((models:Int)-1)) rfl ?_
     have hk2:=hqk k hlt
     cases h1:within p.models[k] 0 ((models:Int)-1) with
     | false =>
      rw[h1,bhE] at hk2
      simp -implicitDefEqProofs only[go_sem,γ,bhK,ZV]
      exact aU (b:=false) rfl (dO hlt hk2).symm
     | true =>
      rw[h1,bhP] at hk2
      obtain⟨i1,i2⟩:=within_iff.1 h1
      have i3:p.models[k]<(models:Nat):=by omega
      have hmk:(eW (marks models (p.models.take k)))[p.models[k].toNat]?=some [.bool ((p.models.take k).contains p.models[k])]:=by
       unfold eW
       rw[biG,QQ i1 i3]; rfl
      cases h2:(p.models.take k).contains p.models[k] with
      | true =>
       rw[h2] at hk2 hmk
       simp -implicitDefEqProofs only[go_sem,γ,reduceCtorEq,bgZ,i1,i3,bhS,hmk,ZV]
       exact aU (b:=false) rfl (dO hlt hk2).symm
      | false =>
       rw[h2] at hk2 hmk
       simp -implicitDefEqProofs only[go_sem,γ,reduceCtorEq,bgZ,i1,i3,bhS,hmk,aEA,rW,adV i1 i3,anY,aO (show k<9223372036854775807 by omega)]
       refine aJ (k+1) ⟨hlt,ha.step hk2⟩ (by omega) ?_ ?_
       ·(repeat' (first|exact PF.nil_le|refine PF.aA ?_ ?_))<;>first|(simp -implicitDefEqProofs only[go_sem,γ]<;>rfl)|rfl
       ·rw[bjG hlt]
        exact PH.aA PH.nil_le (by simp -implicitDefEqProofs only[go_sem])
    ·have hlt':¬ (k:Int)<(p.models.length:Nat):=by omega
     simp -implicitDefEqProofs only[go_sem,hlt',anZ]
     have:k=p.models.length:=by omega
     subst this
     exact aU (b:=true) rfl (show mP q p.models.length from ha).symm
end Go.PM
namespace Go.PM
open Go Go.Na
def aUE:PV→RF
 | .agg [.bool n,a,b]=>⟨n,jF a,jF b⟩
 | _=>⟨false,[],[]⟩
theorem aIZ (x:RF):aUE (.agg x.cells)=x:=by
 show (⟨x.neg,jF (aF x.num),jF (aF x.den)⟩:RF)=x
 rw[eI,eI]
def flS:Spec:=fun name vs=>match name,vs with
 | 104,[.int _ n,.int _ lo,.int _ hi]=>some ([],fun _=>aK (.bool (within n lo hi)))
 | 105,[x]=>some ([],fun _=>aK (.bool (fF (aUE x))))
 | 97,[x]=>some ([],fun _=>aK (.bool (bR (aUE x))))
 | _,_=>none
theorem alV (n lo hi:Int):flS 104 [.int .i64 n,.int .i64 lo,.int .i64 hi]=some ([],fun _=>aK (.bool (within n lo hi))):=rfl
theorem aZX (x:RF):flS 105 [.agg x.cells]=some ([],fun _=>aK (.bool (fF x))):=by
 show some _=_; rw[aIZ]
def aJP (f:aH) (t:List cK) (k:Nat):PF:=((((PF.nil.set 1 (.rptr f.cells)).set 45 (.sl 7 (t.map cK.cells))).set 46 (.int .i64 (t.length:Nat))).set 47 (.int .i64 k))
theorem a0E {C:Ctx} (L:pE C) (f:aH) (hf:f.Ok):vZ.wp C (aX ZR.res (bY (.bool (lY f)))) (PF.args [.agg f.cells]) .nil:=by
 obtain⟨extent,laws,models,domains,drives,policies,volumes⟩:=f
 cases domains with
 | nil =>
  rw[show lY ⟨extent,laws,models,[],drives,policies,volumes⟩=false from rfl]
  simp -implicitDefEqProofs only[go_sem,δ,γ,θ,vZ,ZS,ZT,ZR,biQ,biX]
  have:(((0:Nat):Int)==0)=true:=rfl
  simp -implicitDefEqProofs only[go_sem,this,aCX]
  exact aU rfl rfl
 | cons r t =>
  generalize hF:(⟨extent,laws,models,r::t,drives,policies,volumes⟩:aH)=f at *
  have hd:f.domains=r::t:=by rw[← hF]
  have hP:lY f=LM f r t:=by unfold lY; rw[hd]
  rw[hP]
  unfold LM
  have hlen:f.domains.length=t.length+1:=by rw[hd]; rfl
  have hfit:=hf.domains
  have hr0:(f.domains.map cK.cells)[0]?=some r.cells:=by rw[hd]; rfl
  have hr0':(f.domains.map cK.cells)[Int.toNat 0]?=some r.cells:=hr0
  have hok:=hf.dom
  have hrok:=hok r (by rw[hd]; exact List.mem_cons_self ..)
  simp -implicitDefEqProofs only[go_sem,ο,ν,δ,γ,θ,vZ,ZS,ZT,ZR,bgR,hlen,bG (show ((t.length+1:Nat):Int)≠0 by omega),aCY,hr0]
  refine aQ fun o ho=>?_
  by_cases c1:r.name=[]
  ·rw[decide_eq_true c1]
   by_cases c2:r.level=0
   ·rw[decide_eq_true c2]
    by_cases c3:r.parent=-1
    ·rw[decide_eq_true c3]
     by_cases c4:r.uplink=0
     ·rw[decide_eq_true c4]
      simp -implicitDefEqProofs only[go_sem,ο,δ,γ,θ,reduceCtorEq,uC,mR c1,bgZ,cM c2,cM c3,cM c4]
      refine aB (L.lim r.shock hrok.1) rfl ?_
      cases c5:fF r.shock with
      | false =>
       simp -implicitDefEqProofs only[go_sem,γ,reduceCtorEq,bhK,qS]
       exact aU rfl (by simp only[biI,bhE])
      | true =>
       simp -implicitDefEqProofs only[go_sem,δ,γ,reduceCtorEq,bgZ]
       refine aB (L.lW r.shock hrok.1) rfl ?_
       cases c6:bR r.shock with
       | true =>
        simp -implicitDefEqProofs only[go_sem,γ,reduceCtorEq,qS]
        exact aU rfl (by simp only[bgZ,biI,bhE])
       | false =>
        have hsl:(0:Int)≤1∧(1:Int)≤((t.length+1:Nat):Int):=by omega
        have hdrop:((f.domains.map cK.cells).take (t.length+1)).drop (Int.toNat 1)=t.map cK.cells:=by
         rw[bhF (by simp[hlen]),hd]; rfl
        have hdrop':((f.domains.map cK.cells).take (t.length+1)).drop 1=t.map cK.cells:=hdrop
        simp -implicitDefEqProofs only[go_sem,ν,δ,γ,θ,reduceCtorEq,aCZ,bgR,hlen,hsl,hdrop',Int.toNat_natCast]
        generalize hq:(fun i=>match t[i]? with | some d=>PL f i d | none=>false)=q
        have hqk:∀ k (h:k<t.length),q k=PL f k t[k]:=by
         intro k h
         rw[← hq]
         simp only[bhD h]
        refine wp_loop (α:=Nat) (fun k=>aJP f t k) (fun k=>.nil) (fun k=>k≤t.length∧mP q k) (fun k=>t.length-k) 0 ⟨bhC _,.zero⟩ ?_ PH.nil_le ?_
        ·unfold aJP
         (repeat' (first|exact PF.nil_le|refine PF.aA ?_ ?_))<;>first|(simp -implicitDefEqProofs only[go_sem,γ,bgR]<;>rfl)|rfl
        rintro k ⟨hk,ha⟩
        simp -implicitDefEqProofs only[go_sem,γ,anG,aDA,aJP]
        by_cases hlt:k<t.length
        ·have hlt':(k:Int)<(t.length:Nat):=by omega
         have hrk:(t.map cK.cells)[k]?=some (t[k]).cells:=by simp[hlt]
         have hdk:=hok t[k] (by rw[hd]; exact List.mem_cons_of_mem _ (bgY hlt))
         have hk2:=hqk k hlt
         unfold PL at hk2
         simp -implicitDefEqProofs only[go_sem,δ,γ,hlt',aDB,hrk]
         refine aQ fun o2 ho2=>?_
         simp -implicitDefEqProofs only[go_sem,δ,γ]
         refine cD .nil flS PH.nil_le ?_
         simp -implicitDefEqProofs only[go_sem,δ,γ,θ,reduceCtorEq,aDC]
         refine cQ (alV _ 0 k) (L.inn (t[k]).parent 0 k) rfl PH.nil_le ?_
         cases e1:within (t[k]).parent 0 k with
         | false =>
          simp only[e1,bhE] at hk2
          simp -implicitDefEqProofs only[go_sem,γ,bhK,qR]
          exact aU (b:=false) rfl (dO hlt hk2).symm
         | true =>
          obtain⟨i1,i2⟩:=within_iff.1 e1
          have i3:(t[k]).parent.toNat<f.domains.length:=by omega
          have hpr:(f.domains.map cK.cells)[(t[k]).parent.toNat]?=some (f.domains[(t[k]).parent.toNat]).cells:=by simp[i3]
          have hlv:(f.domains.map cK.level).getD (t[k]).parent.toNat 0=(f.domains[(t[k]).parent.toNat]).level:=by simp[i3]
          rw[hlv,e1,bhP] at hk2
          by_cases e2:(f.domains[(t[k]).parent.toNat]).level=IntKind.i64.wrap ((t[k]).level-1)
          ·rw[decide_eq_true e2,bhP] at hk2
           simp -implicitDefEqProofs only[go_sem,δ,γ,θ,reduceCtorEq,bgZ,i1,hpr,cM e2]
           refine cQ (alV _ 1 4) (L.inn (t[k]).level 1 4) rfl PH.nil_le ?_
           cases e3:within (t[k]).level 1 4 with
           | false =>
            simp only[e3,bhE] at hk2
            simp -implicitDefEqProofs only[go_sem,γ,reduceCtorEq,bhK,qR]
            exact aU (b:=false) rfl (dO hlt hk2).symm
           | true =>
            rw[e3,bhP] at hk2
            simp -implicitDefEqProofs only[go_sem,δ,γ,θ,reduceCtorEq,bgZ]
            refine cQ (alV _ 1 64) (L.inn (t[k]).uplink 1 64) rfl PH.nil_le ?_
            cases e4:within (t[k]).uplink 1 64 with
            | false =>
             simp only[e4,bhE] at hk2
             simp -implicitDefEqProofs only[go_sem,γ,reduceCtorEq,bhK,qR]
             exact aU (b:=false) rfl (dO hlt hk2).symm
            | true =>
             rw[e4,bhP] at hk2
             simp -implicitDefEqProofs only[go_sem,δ,γ,reduceCtorEq,bgZ]
             refine cQ (aZX (t[k]).shock) (L.lim _ hdk.1) rfl PH.nil_le ?_
             cases e5:fF (t[k]).shock with
             | false =>
              rw[e5] at hk2
              simp -implicitDefEqProofs only[go_sem,γ,reduceCtorEq,bhK,qR]
              exact aU (b:=false) rfl (dO hlt hk2).symm
             | true =>
              rw[e5] at hk2
              simp -implicitDefEqProofs only[go_sem,γ,reduceCtorEq,bgZ,anH,aO (show k<9223372036854775807 by omega)]
              refine aJ (k+1) ⟨hlt,ha.step hk2⟩ (by omega) ?_ PH.nil_le
              (repeat' (first|exact PF.nil_le|refine PF.aA ?_ ?_))<;>first|(simp -implicitDefEqProofs only[go_sem,γ]<;>rfl)|rfl
          ·simp only[decide_eq_false e2,bhE] at hk2
           simp -implicitDefEqProofs only[go_sem,δ,γ,θ,reduceCtorEq,bgZ,i1,hpr,dZ e2,qR]
           exact aU (b:=false) rfl (dO hlt hk2).symm
        ·have hlt':¬ (k:Int)<(t.length:Nat):=by omega
         simp -implicitDefEqProofs only[go_sem,hlt',anI]
         have:k=t.length:=by omega
         subst this
         exact aU (b:=true) rfl (show mP q t.length from ha).symm
     ·simp -implicitDefEqProofs only[go_sem,ο,δ,γ,θ,reduceCtorEq,uC,mR c1,bgZ,cM c2,cM c3,dZ c4,qS]
      exact aU rfl (by rw[decide_eq_false c4]; simp only[biI,bhE])
    ·simp -implicitDefEqProofs only[go_sem,ο,δ,γ,θ,reduceCtorEq,uC,mR c1,bgZ,cM c2,dZ c3,qS]
     exact aU rfl (by rw[decide_eq_false c3]; simp only[biI,bhE])
   ·simp -implicitDefEqProofs only[go_sem,ο,δ,γ,θ,reduceCtorEq,uC,mR c1,bgZ,dZ c2,qS]
    exact aU rfl (by rw[decide_eq_false c2]; simp only[biI,bhE])
  ·simp -implicitDefEqProofs only[go_sem,ο,δ,γ,θ,uC,TC c1,bhK,qS]
   exact aU rfl (by rw[decide_eq_false c1]; simp only[biI,bhE])
end Go.PM
namespace Go.PM
open Go Go.Na
theorem vG (R:List Bool) (i:Nat) (row:List RF):∀ k,(cY R i row k).length=R.length
 | 0=>rfl
 | k+1=>by simp only[cY,bjB,vG R i row k]
theorem auJ (l:cL) (R:List Bool) (i:Nat):(jM l R i).length=R.length:=by
 unfold jM; rw[vG,bjB]
theorem qZ (l:cL) (R:List Bool):∀ i,(eC l R i).length=R.length
 | 0=>rfl
 | i+1=>by simp only[eC,auJ,qZ l R i]
theorem WX (l:cL):∀ r,(fN l r).length=l.exit.length
 | 0=>by simp[fN]
 | r+1=>by simp only[fN,qZ,WX l r]
theorem PG {R:List Bool} {i:Nat} (h:i<R.length):(eW R)[i]?=some [.bool (R.getD i false)]:=by
 unfold eW
 rw[biG,bhD h,bhN,bhD h]; rfl
theorem abQ (R:List Bool):(eW R).length=R.length:=by simp[eW]
def LN (l:cL) (o r:Nat):PF:=(((PF.nil.set 1 (.rptr l.cells)).set 3 (.osl o 1 0 l.exit.length)).set 4 (.int .i64 r))
def AZ (l:cL) (o r i:Nat):PF:=(((((PF.nil.set 1 (.rptr l.cells)).set 3 (.osl o 1 0 l.exit.length)).set 4 (.int .i64 r)).set 19 (.int .i64 (l.exit.length:Nat))).set 20 (.int .i64 i))
def pP (l:cL) (o r i:Nat) (row:List RF) (k:Nat):PF:=(((((((((PF.nil.set 1 (.rptr l.cells)).set 3 (.osl o 1 0 l.exit.length)).set 4 (.int .i64 r)).set 19 (.int .i64 (l.exit.length:Nat))).set 20 (.int .i64 i)).set 5 (.int .i64 i)).set 42 (frs row)).set 43 (.int .i64 (row.length:Nat))).set 44 (.int .i64 k))
def pQ (o:Nat) (R:List Bool):PH:=PH.nil.set o (.rows 1 (eW R))
theorem ayV {C:Ctx} (L:pE C) (l:cL) (o r i:Nat) (row:List RF) (hrow:qO row) (hrl:row.length=l.exit.length) (hi:i<l.exit.length) (hn:l.exit.length≤4) (R1:List Bool) (hR:R1.length=l.exit.length) (K:cC) (F:PF) (H:PH)
  (hF:(pP l o r i row 0).le F) (hH:(pQ o R1).le H)
  (hK:∀ F H,(pP l o r i row row.length).le F→(pQ o (cY R1 i row row.length)).le H→K .normal F H) :
  aD.wp C (.block 4 (.loop wA)) K F H:=by
 simp -implicitDefEqProofs only[go_sem]
 refine wp_loop (α:=Nat) (fun k=>pP l o r i row k) (fun k=>pQ o (cY R1 i row k)) (fun k=>k≤row.length) (fun k=>row.length-k) 0 (bhC _) hF hH ?_
 intro k hk
 simp -implicitDefEqProofs only[go_sem,γ,wA,anP,pP,pQ]
 have hlen:=vG R1 i row k
 by_cases hlt:k<row.length
 ·have hlt':(k:Int)<(row.length:Nat):=by omega
  have hr:(row.map RF.cells)[k]?=some (row[k]).cells:=by simp[hlt]
  simp -implicitDefEqProofs only[go_sem,δ,γ,hlt',acG,hr]
  refine aQ fun o7 ho7=>?_
  have n7:o≠o7:=by rintro rfl; simp only[aV,if_true] at ho7; cases ho7
  have hi':(i:Int)<(l.exit.length:Nat):=by omega
  have hk':(k:Int)<(l.exit.length:Nat):=by omega
  have hat:=PG (R:=cY R1 i row k) (i:=i) (by omega)
  have hatk:=PG (R:=cY R1 i row k) (i:=k) (by omega)
  have hstep:cY R1 i row (k+1)=(cY R1 i row k).set i ((cY R1 i row k).getD i false||bR row[k]&&(cY R1 i row k).getD k false):=by
   simp only[cY,bhN,biG,bhD hlt,bhZ,bjK]
  have fin:∀ (b:Bool) (F:PF) (H:PH),b=((cY R1 i row k).getD i false||bR row[k]&&(cY R1 i row k).getD k false)→(pP l o r i row (k+1)).le F→H o=some (.rows 1 ((eW (cY R1 i row k)).set i [.bool b])) →
    fU (fun k=>pP l o r i row k) (fun k=>pQ o (cY R1 i row k)) (fun k=>k≤row.length) (fun k=>row.length-k) (row.length-k) (dW 4 K) .normal F H:=by
   intro b F H hb hF hH
   refine aJ (k+1) hlt (by omega) hF ?_
   rw[rW,hb,← hstep] at hH
   exact PH.aA PH.nil_le hH
  unfold pP pQ at fin
  generalize hb:(cY R1 i row k).getD i false=b at *
  generalize hc:(cY R1 i row k).getD k false=c at *
  generalize hA:bR row[k]=A at *
  cases b with
  | true =>
   simp -implicitDefEqProofs only[go_sem,δ,γ,HA,n7,hi',bhS,hat,wC,aO (show k<9223372036854775807 by omega)]
   exact fin true _ _ (by simp) (by (repeat' (first|exact PF.nil_le|refine PF.aA ?_ ?_))<;>first|(simp -implicitDefEqProofs only[go_sem,γ]<;>rfl)|rfl) (by simp -implicitDefEqProofs only[go_sem])
  | false =>
   simp -implicitDefEqProofs only[go_sem,δ,γ,HA,n7,hi',bhS,hat]
   refine aB (L.lW _ (hrow.all _ (bgY hlt))) rfl ?_
   rw[hA]
   cases A with
   | false =>
    simp -implicitDefEqProofs only[go_sem,γ,reduceCtorEq,hi',hk',n7,bhS,hat,hatk,wC,aO (show k<9223372036854775807 by omega)]
    exact fin false _ _ (by simp) (by (repeat' (first|exact PF.nil_le|refine PF.aA ?_ ?_))<;>first|(simp -implicitDefEqProofs only[go_sem,γ]<;>rfl)|rfl) (by simp -implicitDefEqProofs only[go_sem])
   | true =>
    simp -implicitDefEqProofs only[go_sem,γ,reduceCtorEq,hi',hk',n7,bhS,hat,hatk,wC,aO (show k<9223372036854775807 by omega)]
    exact fin c _ _ (by simp) (by (repeat' (first|exact PF.nil_le|refine PF.aA ?_ ?_))<;>first|(simp -implicitDefEqProofs only[go_sem,γ]<;>rfl)|rfl) (by simp -implicitDefEqProofs only[go_sem])
 ·have hlt':¬ (k:Int)<(row.length:Nat):=by omega
  simp -implicitDefEqProofs only[go_sem,hlt']
  have:k=row.length:=by omega
  subst this
  exact hK _ _ (by unfold pP; (repeat' (first|exact PF.nil_le|refine PF.aA ?_ ?_))<;>first|(simp -implicitDefEqProofs only[go_sem,γ]<;>rfl)|rfl) (PH.le_refl)
structure ST (l:cL):Prop where
 n:l.exit.length≤4
 rates:l.rates.length=l.exit.length
 row:∀ r∈l.rates,r.length=l.exit.length
theorem ayW {C:Ctx} (L:pE C) (l:cL) (hl:l.Ok) (he:ST l) (o r:Nat) (R:List Bool) (hR:R.length=l.exit.length) (K:cC) (F:PF) (H:PH)
  (hF:(AZ l o r 0).le F) (hH:(pQ o R).le H)
  (hK:∀ F H,(LN l o r).le F→(pQ o (eC l R l.exit.length)).le H→K .normal F H) :
  aD.wp C (.block 2 (.loop wB)) K F H:=by
 simp -implicitDefEqProofs only[go_sem]
 refine wp_loop (α:=Nat) (fun i=>AZ l o r i) (fun i=>pQ o (eC l R i)) (fun i=>i≤l.exit.length) (fun i=>l.exit.length-i) 0 (bhC _) hF hH ?_
 intro i hi
 have hlen:=qZ l R i
 have hn:=he.n
 by_cases hlt:i<l.exit.length
 ·have hlt':(i:Int)<(l.exit.length:Nat):=by omega
  have hir:i<l.rates.length:=by rw[he.rates]; exact hlt
  have hat:=PG (R:=eC l R i) (i:=i) (by omega)
  have hx:(l.exit.map RF.cells)[i]?=some (l.exit[i]).cells:=by simp[hlt]
  have hrow:(l.rates.map fun r=>[frs r])[i]?=some [frs l.rates[i]]:=by simp[hir]
  have hrl:(l.rates[i]).length=l.exit.length:=he.row _ (bgY hir)
  generalize hR1:(eC l R i).set i ((eC l R i).getD i false||bR l.exit[i])=R1
  have hR1l:R1.length=l.exit.length:=by rw[← hR1,bjB]; omega
  have hstep:eC l R (i+1)=cY R1 i l.rates[i] (l.rates[i]).length:=by
   simp only[eC,jM]
   have e1:(l.exit.map bR).getD i false=bR l.exit[i]:=by simp[bhN,hlt]
   have e2:l.rates.getD i []=l.rates[i]:=by simp[bhN,hir]
   rw[e1,e2,hR1]
  have rest:∀ (F:PF) (H:PH),(((((((PF.nil.set 1 (.rptr l.cells)).set 3 (.osl o 1 0 l.exit.length)).set 4 (.int .i64 r)).set 19 (.int .i64 (l.exit.length:Nat))).set 20 (.int .i64 i)).set 5 (.int .i64 i)):PF).le F→H o=some (.rows 1 (eW R1)) →
    aD.wp C (.seq (.region PX) (.block 4 (.loop wA))) (dW 3 (iE C (aD.wp C (.region HB)) (fU (fun i=>AZ l o r i) (fun i=>pQ o (eC l R i)) (fun i=>i≤l.exit.length) (fun i=>l.exit.length-i) (l.exit.length-i) (dW 2 K)))) F H:=by
   intro F H hF hH
   have f1:F 1=some (.rptr l.cells):=hF 1 _ rfl
   have f3:F 3=some (.osl o 1 0 l.exit.length):=hF 3 _ rfl
   have f4:F 4=some (.int .i64 r):=hF 4 _ rfl
   have f19:F 19=some (.int .i64 (l.exit.length:Nat)):=hF 19 _ rfl
   have f20:F 20=some (.int .i64 i):=hF 20 _ rfl
   have f5:F 5=some (.int .i64 i):=hF 5 _ rfl
   rw[abO]
   simp -implicitDefEqProofs only[go_sem,δ,γ,θ,PX,f1,f5,hrow,bgR]
   have inner:=ayV L l o r i l.rates[i] (hl.row _ (bgY hir)) hrl hlt hn R1 hR1l
   simp only[aD.wp,go_sem] at inner
   refine inner _ _ _ ?_ (PH.aA PH.nil_le hH) ?_
   ·unfold pP
    repeat' first|exact PF.nil_le|refine PF.aA ?_ ?_|rfl|assumption
   ·intro F' H' hF' hH'
    have g20:F' 20=some (.int .i64 i):=hF' 20 _ (by unfold pP; simp -implicitDefEqProofs only[go_sem,γ])
    simp -implicitDefEqProofs only[go_sem,HB,g20,aO (show i<9223372036854775807 by omega)]
    refine aJ (i+1) hlt (by omega) ?_ (by rw[hstep]; exact hH')
    have g:=fun (q:Nat) v h=>hF' q v h
    unfold AZ
    unfold pP at g
    refine PF.aA (PF.aA (PF.aA (PF.aA (PF.aA PF.nil_le ?_) ?_) ?_) ?_) ?_
    ·simp -implicitDefEqProofs only[go_sem,γ]; exact g 1 _ rfl
    ·simp -implicitDefEqProofs only[go_sem,γ]; exact g 3 _ rfl
    ·simp -implicitDefEqProofs only[go_sem,γ]; exact g 4 _ rfl
    ·simp -implicitDefEqProofs only[go_sem,γ]; exact g 19 _ rfl
    ·simp -implicitDefEqProofs only[go_sem,γ]
  simp only[aD.wp,go_sem] at rest
  simp -implicitDefEqProofs only[go_sem,γ,wB,PU,AZ,pQ,hlt',anO]
  generalize hb:(eC l R i).getD i false=b at *
  cases b with
  | true =>
   simp -implicitDefEqProofs only[go_sem,γ,PW,hlt',bhS,hat]
   refine rest _ _ (by (repeat' (first|exact PF.nil_le|refine PF.aA ?_ ?_))<;>first|(simp -implicitDefEqProofs only[go_sem,γ]<;>rfl)|rfl) ?_
   rw[← hR1]
   simp -implicitDefEqProofs only[go_sem,rW,Bool.true_or]
  | false =>
   simp -implicitDefEqProofs only[go_sem,δ,γ,PW,hlt',bhS,hat,hx]
   refine aB (L.lW _ (hl.exit.all _ (bgY hlt))) rfl ?_
   simp -implicitDefEqProofs only[go_sem,γ,reduceCtorEq,hlt',bhS,hat]
   refine rest _ _ (by (repeat' (first|exact PF.nil_le|refine PF.aA ?_ ?_))<;>first|(simp -implicitDefEqProofs only[go_sem,γ]<;>rfl)|rfl) ?_
   rw[← hR1]
   simp -implicitDefEqProofs only[go_sem,rW,Bool.false_or]
 ·have hlt':¬ (i:Int)<(l.exit.length:Nat):=by omega
  simp -implicitDefEqProofs only[go_sem,γ,wB,PU,AZ,pQ,hlt']
  have:i=l.exit.length:=by omega
  subst this
  exact hK _ _ (by unfold LN; (repeat' (first|exact PF.nil_le|refine PF.aA ?_ ?_))<;>first|(simp -implicitDefEqProofs only[go_sem,γ]<;>rfl)|rfl) PH.le_refl
theorem aUX {C:Ctx} (L:pE C) (l:cL) (hl:l.Ok) (he:ST l):BK.wp C (aX UC.res (bY (.bool (pR l)))) (PF.args [.agg l.cells]) .nil:=by
 have hn:=he.n
 have hb1:((l.exit.length:Nat):Int)*((1:Nat):Int)≤140737488355328:=by omega
 have hb2:((l.exit.length:Nat):Int)≤9223372036854775807:=by omega
 simp -implicitDefEqProofs only[go_sem,γ,BK,anJ,anK,UC,bgR,hb1,hb2]
 refine aQ fun o ho=>?_
 simp -implicitDefEqProofs only[go_sem,γ,anL]
 refine wp_loop (α:=Nat) (fun r=>LN l o r) (fun r=>pQ o (fN l r)) (fun r=>r≤l.exit.length+1) (fun r=>l.exit.length+1-r) 0 (bhC _) ?_ ?_ ?_
 ·unfold LN
  (repeat' (first|exact PF.nil_le|refine PF.aA ?_ ?_))<;>first|(simp -implicitDefEqProofs only[go_sem,γ]<;>rfl)|rfl
 ·refine PH.aA PH.nil_le ?_
  simp -implicitDefEqProofs only[go_sem,fN]
  simp[eW]
 intro r hr
 have hlen:=WX l r
 simp -implicitDefEqProofs only[go_sem,γ,acF,anM,LN,pQ]
 by_cases hlt:r≤l.exit.length
 ·have hlt':(r:Int)≤(l.exit.length:Nat):=by omega
  simp -implicitDefEqProofs only[go_sem,γ,hlt',anN]
  have inner:=ayW L l hl he o r (fN l r) hlen
  simp only[aD.wp,go_sem] at inner
  refine inner _ _ _ ?_ PH.le_refl ?_
  ·unfold AZ
   (repeat' (first|exact PF.nil_le|refine PF.aA ?_ ?_))<;>first|(simp -implicitDefEqProofs only[go_sem,γ]<;>rfl)|rfl
  ·intro F' H' hF' hH'
   have g:=fun (q:Nat) v h=>hF' q v h
   unfold LN at g
   have g4:F' 4=some (.int .i64 r):=g 4 _ rfl
   simp -implicitDefEqProofs only[go_sem,γ,acH,g4,aO (show r<9223372036854775807 by omega)]
   refine aJ (r+1) (by omega) (by omega) ?_ hH'
   refine PF.aA (PF.aA (PF.aA PF.nil_le ?_) ?_) ?_
   ·simp -implicitDefEqProofs only[go_sem,γ]; exact g 1 _ rfl
   ·simp -implicitDefEqProofs only[go_sem,γ]; exact g 3 _ rfl
   ·simp -implicitDefEqProofs only[go_sem,γ]
 ·have hlt':¬ (r:Int)≤(l.exit.length:Nat):=by omega
  have:r=l.exit.length+1:=by omega
  subst this
  simp -implicitDefEqProofs only[go_sem,γ,hlt',acI]
  have hcall:=L.allb id 103 (fN l (l.exit.length+1)) (show (fN l (l.exit.length+1)).length≤_ by omega) fun x _=>L.ends1 x
  have hbl:(eW (fN l (l.exit.length+1))).length=l.exit.length:=by rw[abQ,hlen]
  refine nP hcall (rs:=eW (fN l (l.exit.length+1))) (o:=o) (s:=1) (by simp -implicitDefEqProofs only[go_sem]) ?_ ?_
  ·simp -implicitDefEqProofs only[go_sem,γ,zY (show l.exit.length≤(eW (fN l (l.exit.length+1))).length by omega),bhF (show (eW (fN l (l.exit.length+1))).length≤l.exit.length by omega)]
  ·simp -implicitDefEqProofs only[go_sem,γ]
   exact aU rfl rfl
end Go.PM
namespace Go.PM
open Go Go.Na
structure SU (C:Ctx):Prop extends akH C where
 ends:∀ l:cL,l.Ok→ST l→aI C 102 [.agg l.cells] .nil (aK (.bool (pR l)))
def JI (l:cL) (i:Nat):Bool:=decide ((l.rates.getD i []).length=l.start.length)&&(l.rates.getD i []).all fF&&!((l.rates.getD i []).map bR).getD i false
def SH (l:cL):Bool:=match oK (l.start.map RF.v) with
 | .ok (n,a,b)=>decide (vD n a b false 1 1=0)
 | .error _=>false
theorem a1B (l:cL):oH l=(within l.start.length 1 4&&decide (l.exit.length=l.start.length)&&decide (l.rates.length=l.start.length)&&l.start.all fF&&l.exit.all fF&&(bhL l.rates.length).all (JI l)&&SH l&&pR l):=rfl
theorem aXI {l:List FV} {e:Int} (h:oK l=.error e):e≠0:=by
 have:∀ (l:List FV) (b:FV) (e:Int),l.foldlM iT b=.error e→e≠0:=by
  intro l
  induction l with
  | nil=>intro b e h; cases h
  | cons x t ih =>
   intro b e h
   rw[List.foldlM_cons] at h
   cases hx:iT b x with
   | error e' =>
    rw[hx] at h
    have:e'=e:=by injection h
    subst this
    obtain⟨n1,a1,b1⟩:=b
    obtain⟨n2,a2,b2⟩:=x
    simp only[iT] at hx
    split at hx
    ·split at hx
     ·rw[CG hx]; decide
     ·split at hx
      ·rw[CG hx]; decide
      ·rw[CG hx]; decide
    ·injection hx with hx; subst hx; decide
   | ok y=>rw[hx] at h; exact ih y e h
 exact this l _ e h
theorem a2O {l:List FV} {r:FV} (h:oK l=.ok r):r.rf.Ok:=by
 have:∀ (l:List FV) (b r:FV),b.rf.Ok→l.foldlM iT b=.ok r→r.rf.Ok:=by
  intro l
  induction l with
  | nil=>intro b r hb h; injection h with h; subst h; exact hb
  | cons x t ih =>
   intro b r hb h
   rw[List.foldlM_cons] at h
   cases hx:iT b x with
   | error e'=>rw[hx] at h; cases h
   | ok y=>rw[hx] at h; exact ih y r (aBJ hx) h
 refine this l _ r ⟨bD _,bD _,?_,?_⟩ h
 ·show (aG 0).length≤_
  rw[eZ]; simp
 ·show (aG 1).length≤_
  rw[lL (by decide) (by decide)]; simp
theorem CH {neg:Bool} {a b:Nat} {r:FV} (hb:b≠0) (h:jU neg a b=.ok r):dJ r.2.1 r.2.2=true:=by
 unfold jU at h
 split at h
 ·cases h
 ·rename_i hc
  injection h with h
  subst h
  have hg:bgS a b ∣ b:=Nat.gcd_dvd_right _ _
  have h0:b/bgS a b≠0:=by
   have:=Nat.div_pos (Nat.le_of_dvd (biZ hb) hg) (biZ fun h=>hb (Nat.gcd_eq_zero_iff.1 h).2)
   omega
  have h1:=@gT (b/bgS a b)
  simp only[dJ,bhO,decide_eq_true_eq]
  omega
theorem aIL {x y r:FV} (h:iT x y=.ok r):dJ r.2.1 r.2.2=true:=by
 obtain⟨n1,a1,b1⟩:=x
 obtain⟨n2,a2,b2⟩:=y
 simp only[iT] at h
 split at h
 ·rename_i hv
  rw[bhO] at hv
  have h0:b1*b2≠0:=Nat.mul_ne_zero (lG.1 hv.1).1 (lG.1 hv.2).1
  split at h
  ·exact CH h0 h
  ·split at h
   ·exact CH h0 h
   ·exact CH h0 h
 ·cases h
theorem aNK:dJ 0 1=true:=by
 have:cA 1=1:=by rw[nZ (by decide),iZ]
 simp[dJ,this,iZ]
theorem aMV {l:List FV} {r:FV} (h:oK l=.ok r):dJ r.2.1 r.2.2=true:=by
 have:∀ (l:List FV) (b r:FV),dJ b.2.1 b.2.2=true→l.foldlM iT b=.ok r→dJ r.2.1 r.2.2=true:=by
  intro l
  induction l with
  | nil=>intro b r hb h; injection h with h; subst h; exact hb
  | cons x t ih =>
   intro b r hb h
   rw[List.foldlM_cons] at h
   cases hx:iT b x with
   | error e'=>rw[hx] at h; cases h
   | ok y=>rw[hx] at h; exact ih y r (aIL hx) h
 exact this l _ r aNK h
theorem aUH:(⟨false,[],[]⟩:RF).Ok:=⟨fun _ h=>absurd h (bhJ),fun _ h=>absurd h (bhJ),show 0≤16777216 by decide,show 0≤16777216 by decide⟩
def aVP (l:cL) (k:Nat):PF:=(((((PF.nil.set 1 (.rptr l.cells)).set 3 (.int .i64 (l.start.length:Nat))).set 45 (aMP l.rates)).set 46 (.int .i64 (l.rates.length:Nat))).set 47 (.int .i64 k))
theorem aOQ {C:Ctx} (L:SU C) (l:cL) (hl:l.Ok) (he:ST l) (F:PF) (hF:F 1=some (.rptr l.cells)) :
  aD.wp C (.seq (.region PY) (.seq (.region BL) (.seq (.region BM) (.seq (.region qT) .ret)))) (aX [.tmp 2] (bY (.bool (SH l&&pR l)))) F .nil:=by
 simp -implicitDefEqProofs only[go_sem,δ,θ,PY,hF]
 refine aB (L.tot l.start hl.start) rfl ?_
 obtain⟨neg',x,y,e,hs⟩:=LW (oK (l.start.map RF.v))
 have go:∀ (z:RF) (e:Int),z.Ok→(e=0→(vT z.neg (val z.num) (val z.den) false 1 1=.tup [.int .i64 (vD z.neg (val z.num) (val z.den) false 1 1),.int .i64 0])∧SH l=decide (vD z.neg (val z.num) (val z.den) false 1 1=0))→(e≠0→SH l=false) →
   frV (oK (l.start.map RF.v))=.tup [.agg z.cells,.int .i64 e] →
   wpOps C [⟨(some 69),.mv (.tmp 72),none⟩,⟨(some 73),.extract (.tmp 69) 0,none⟩,⟨(some 74),.extract (.tmp 69) 1,none⟩,⟨(some 6),.alloc [(.bool false),.nils,.nils],none⟩,⟨none,.store 3 (.tmp 6) (.tmp 73),none⟩,⟨(some 7),.mv (.tmp 74),none⟩]
    (aD.wp C (.seq (.region BL) (.seq (.region BM) (.seq (.region qT) .ret))) (aX [.tmp 2] (bY (.bool (SH l&&pR l))))) ((((F.set 70 (.rptr [frs l.start,aMP l.rates,frs l.exit])).set 71 (frs l.start))).set 72 (.tup [.agg z.cells,.int .i64 e])) .nil:=by
  intro z e hz h0 h1 _
  simp -implicitDefEqProofs only[go_sem,δ,γ]
  refine aQ fun o6 ho6=>?_
  simp -implicitDefEqProofs only[go_sem,δ,γ,BL]
  refine aB (L.frac 1 1 (by decide) (by decide)) rfl ?_
  rw[aqC]
  simp -implicitDefEqProofs only[go_sem,δ,γ,frV]
  refine aQ fun o8 ho8=>?_
  have n8:o6≠o8:=by rintro rfl; simp only[aV,if_true] at ho8; cases ho8
  simp -implicitDefEqProofs only[go_sem,δ,γ,BM,n8]
  refine aB (L.ord z (FV.rf (false,1,1)) hz aRD) rfl ?_
  rw[show val (FV.rf (false,1,1)).num=1 from aY 1,show val (FV.rf (false,1,1)).den=1 from aY 1,show (FV.rf (false,1,1)).neg=false from rfl]
  by_cases c:e=0
  ·obtain⟨g1,g2⟩:=h0 c
   rw[g1,g2]
   by_cases d:vD z.neg (val z.num) (val z.den) false 1 1=0
   ·simp -implicitDefEqProofs only[go_sem,δ,γ,qT,bT c,bT d,hF]
    refine aB (L.ends l hl he) rfl ?_
    simp -implicitDefEqProofs only[go_sem,γ]
    exact aU rfl (by rw[decide_eq_true d,bhP])
   ·simp -implicitDefEqProofs only[go_sem,γ,reduceCtorEq,qT,bT c,bG d]
    exact aU rfl (by rw[decide_eq_false d,bhE])
  ·rw[h1 c]
   have:∃ v w,vT z.neg (val z.num) (val z.den) false 1 1=.tup [.int .i64 v,.int .i64 w]:=by
    unfold vT
    split
    ·exact⟨_,_,rfl⟩
    ·exact⟨_,_,rfl⟩
   obtain⟨v,w,hv⟩:=this
   rw[hv]
   simp -implicitDefEqProofs only[go_sem,γ,reduceCtorEq,qT,bG c]
   exact aU rfl rfl
 cases hs':oK (l.start.map RF.v) with
 | error e =>
  rw[hs'] at go
  exact go ⟨false,[],[]⟩ e aUH (fun h=>absurd h (aXI hs')) (fun _=>by rw[SH,hs']) rfl
 | ok r =>
  obtain⟨n,a,b⟩:=r
  rw[hs'] at go
  have hr:=a2O hs'
  refine go (FV.rf (n,a,b)) 0 hr (fun _=>?_) (fun h=>absurd rfl h) rfl
  rw[show val (FV.rf (n,a,b)).num=a from aY a,show val (FV.rf (n,a,b)).den=b from aY b,show (FV.rf (n,a,b)).neg=n from rfl]
  refine⟨?_,by rw[SH,hs']⟩
  have hv:dJ a b=true:=aMV hs'
  rw[vT,hv,ajF]
  rfl
theorem a0G {C:Ctx} (L:SU C) (l:cL) (hl:l.Ok):HC.wp C (aX anQ.res (bY (.bool (oH l)))) (PF.args [.agg l.cells]) .nil:=by
 rw[a1B]
 simp -implicitDefEqProofs only[go_sem,δ,γ,θ,HC,aDD,aDE,anQ,aDF,bgR]
 refine aB (L.inn l.start.length 1 4) rfl ?_
 cases c1:within l.start.length 1 4 with
 | false =>
  simp -implicitDefEqProofs only[go_sem,γ,bhK,uD]
  exact aU rfl (by simp only[bhE])
 | true =>
  obtain⟨n1,n2⟩:=within_iff.1 c1
  by_cases c2:l.exit.length=l.start.length
  ·rw[decide_eq_true c2]
   by_cases c3:l.rates.length=l.start.length
   ·rw[decide_eq_true c3]
    simp -implicitDefEqProofs only[go_sem,δ,γ,θ,reduceCtorEq,bgZ,bgR,cM (show ((l.exit.length:Nat):Int)=(l.start.length:Nat) by omega),cM (show ((l.rates.length:Nat):Int)=(l.start.length:Nat) by omega)]
    refine aB (L.aVR l.start hl.start) rfl ?_
    cases c4:l.start.all fF with
    | false =>
     simp -implicitDefEqProofs only[go_sem,γ,reduceCtorEq,bhK,uD]
     exact aU rfl (by simp only[bhE])
    | true =>
     simp -implicitDefEqProofs only[go_sem,γ,reduceCtorEq,bgZ]
     refine aB (L.aVR l.exit hl.exit) rfl ?_
     cases c5:l.exit.all fF with
     | false =>
      simp -implicitDefEqProofs only[go_sem,γ,reduceCtorEq,bhK,uD]
      exact aU rfl (by simp only[bhE])
     | true =>
      simp -implicitDefEqProofs only[go_sem,δ,γ,θ,reduceCtorEq,bgZ,aDG,bgR]
      have hrk:∀ k (h:k<l.rates.length),JI l k=(decide ((l.rates[k]).length=l.start.length)&&(l.rates[k]).all fF&&!((l.rates[k]).map bR).getD k false):=by
       intro k h
       have:l.rates.getD k []=l.rates[k]:=by simp[bhN,h]
       rw[JI,this]
      refine wp_loop (α:=Nat) (fun k=>aVP l k) (fun _=>.nil) (fun k=>k≤l.rates.length∧mP (JI l) k) (fun k=>l.rates.length-k) 0 ⟨bhC _,.zero⟩ ?_ PH.nil_le ?_
      ·unfold aVP
       (repeat' (first|exact PF.nil_le|refine PF.aA ?_ ?_))<;>first|(simp -implicitDefEqProofs only[go_sem,γ,bgR]<;>rfl)|rfl
      rintro k ⟨hk,ha⟩
      simp -implicitDefEqProofs only[go_sem,γ,anR,aDH,aVP]
      by_cases hlt:k<l.rates.length
      ·have hlt':(k:Int)<(l.rates.length:Nat):=by omega
       have hr:(l.rates.map fun r=>[frs r])[k]?=some [frs l.rates[k]]:=by simp[hlt]
       have hk2:=hrk k hlt
       have hrok:=hl.row l.rates[k] (bgY hlt)
       simp -implicitDefEqProofs only[go_sem,γ,hlt',aDI,hr,aDJ,bgR]
       by_cases d1:(l.rates[k]).length=l.start.length
       ·rw[decide_eq_true d1,bhP] at hk2
        simp -implicitDefEqProofs only[go_sem,γ,cM (show (((l.rates[k]).length:Nat):Int)=(l.start.length:Nat) by omega)]
        refine aB (L.aVR _ hrok) rfl ?_
        cases d2:(l.rates[k]).all fF with
        | false =>
         rw[d2,bhE] at hk2
         simp -implicitDefEqProofs only[go_sem,γ,reduceCtorEq,bhK,LZ]
         refine aU (b:=false) rfl ?_
         have:(bhL l.rates.length).all (JI l)=false:=dO hlt hk2
         rw[this]; simp only[bhE,biI]
        | true =>
         have hkr:k<(l.rates[k]).length:=by omega
         have hx:((l.rates[k]).map RF.cells)[k]?=some ((l.rates[k])[k]).cells:=by simp[hkr]
         have hab:((l.rates[k]).map bR).getD k false=bR (l.rates[k])[k]:=by simp[bhN,hkr]
         rw[d2,bhP,hab] at hk2
         simp -implicitDefEqProofs only[go_sem,δ,γ,reduceCtorEq,bgZ,hx]
         refine aB (L.lW _ (hrok.all _ (bgY hkr))) rfl ?_
         cases d3:bR (l.rates[k])[k] with
         | true =>
          rw[d3] at hk2
          simp -implicitDefEqProofs only[go_sem,γ,reduceCtorEq,LZ]
          refine aU (b:=false) rfl ?_
          have:(bhL l.rates.length).all (JI l)=false:=dO hlt hk2
          rw[this]; simp only[bhE,biI]
         | false =>
          rw[d3] at hk2
          simp -implicitDefEqProofs only[go_sem,γ,reduceCtorEq,aDK,aO (show k<9223372036854775807 by omega)]
          refine aJ (k+1) ⟨hlt,ha.step hk2⟩ (by omega) ?_ PH.nil_le
          (repeat' (first|exact PF.nil_le|refine PF.aA ?_ ?_))<;>first|(simp -implicitDefEqProofs only[go_sem,γ]<;>rfl)|rfl
       ·simp only[decide_eq_false d1,bhE] at hk2
        simp -implicitDefEqProofs only[go_sem,γ,dZ (show (((l.rates[k]).length:Nat):Int)≠(l.start.length:Nat) by omega),LZ]
        refine aU (b:=false) rfl ?_
        have:(bhL l.rates.length).all (JI l)=false:=dO hlt hk2
        rw[this]; simp only[bhE,biI]
      ·have hlt':¬ (k:Int)<(l.rates.length:Nat):=by omega
       have:k=l.rates.length:=by omega
       subst this
       have hall:(bhL l.rates.length).all (JI l)=true:=ha
       have he:ST l:=⟨by omega,by omega,fun r hr=>by
        obtain⟨i,hi,rfl⟩:=biH hr
        have:=biC.1 hall i (biY.2 hi)
        rw[hrk i hi] at this
        simp only[bhO,decide_eq_true_eq] at this
        omega⟩
       have tail:=aOQ L l hl he
       simp only[aD.wp,go_sem] at tail
       rw[hall]
       simp -implicitDefEqProofs only[go_sem,hlt',bhP,bjL]
       exact tail _ rfl
   ·simp -implicitDefEqProofs only[go_sem,δ,γ,θ,reduceCtorEq,bgZ,bgR,cM (show ((l.exit.length:Nat):Int)=(l.start.length:Nat) by omega),dZ (show ((l.rates.length:Nat):Int)≠(l.start.length:Nat) by omega),uD]
    exact aU rfl (by rw[decide_eq_false c3]; simp only[bhE,biI])
  ·simp -implicitDefEqProofs only[go_sem,γ,reduceCtorEq,bgZ,bgR,dZ (show ((l.exit.length:Nat):Int)≠(l.start.length:Nat) by omega),uD]
   exact aU rfl (by rw[decide_eq_false c2]; simp only[bhE,biI])
end Go.PM
namespace Go.PM
open Go Go.Na
structure iJ (C:Ctx):Prop extends SU C where
 law:∀ l:cL,l.Ok→aI C 95 [.agg l.cells] .nil (aK (.bool (oH l)))
 pol:∀ (p:cO) (n:Nat),p.Ok→n≤4→aI C 112 [.agg p.cells,.int .i64 n] .nil (aK (.bool (iD n p)))
 doms:∀ f:aH,f.Ok→aI C 111 [.agg f.cells] .nil (aK (.bool (lY f)))
abbrev eD (l:List (List UInt8)):List (List PV):=l.map fun s=>[PV.str s]
theorem sJ (l:List (List UInt8)) {k:Nat} (h:k<l.length):eD (l.take k)++[[.str l[k]]]=eD (l.take (k+1)):=by
 unfold eD
 rw[bjG h,biN]; rfl
theorem oZ {l:List (List UInt8)} (h:l.length≤1000):roomFor (eD l).length 1 16:=by
 unfold roomFor eD
 simp only[bgR,maxLen]; omega
def gA {α:Type} (l:List α) (p:α→Bool) (k:Nat):Bool:=(l.take k).all p
theorem pK {α:Type} (l:List α) (p:α→Bool):gA l p 0=true:=rfl
theorem pJ {α:Type} (l:List α) (p:α→Bool) {k:Nat} (h:k<l.length):gA l p (k+1)=(gA l p k&&p l[k]):=by
 unfold gA
 rw[bjG h,List.all_append]; simp
theorem rV {α:Type} (l:List α) (p:α→Bool):gA l p l.length=l.all p:=by unfold gA; rw[biB]
def gE (f:aH) (w3 w4 w5 w6 w7:PV) (ok:Bool):PF:=(((((((PF.nil.set 1 (.rptr f.cells)).set 3 (w3)).set 4 (w4)).set 5 (w5)).set 6 (w6)).set 7 (w7)).set 8 (.bool ok))
structure iR (F:PF) (f:aH) (w3 w4 w5 w6 w7:PV) (ok:Bool):Prop where
 a1:F 1=some (.rptr f.cells)
 a3:F 3=some w3
 a4:F 4=some w4
 a5:F 5=some w5
 a6:F 6=some w6
 a7:F 7=some w7
 a8:F 8=some (.bool ok)
theorem aJS {C:Ctx} (L:iJ C) (f:aH) (hf:f.Ok) (hs:f.laws.length≤4) (w4 w5 w6 w7:PV) (K:cC) (F:PF) (H:PH) (hv:iR F f .nils w4 w5 w6 w7 true)
  (h67:F 67=some (.sl 4 (f.laws.map cL.cells))) (h68:F 68=some (.int .i64 (f.laws.length:Nat))) (h69:F 69=some (.int .i64 0))
  (hK:∀ v F' H',iR F' f v w4 w5 w6 w7 (f.laws.all oH)→bB H' 1 v (eD (f.laws.map cL.name))→K (.exit 0) F' H') :
  aD.wp C (.loop BR) K F H:=by
 refine wp_loop (α:=Nat × PV × PH) (fun t=>(((gE f t.2.1 w4 w5 w6 w7 (gA f.laws oH t.1)).set 67 (.sl 4 (f.laws.map cL.cells))).set 68 (.int .i64 (f.laws.length:Nat))).set 69 (.int .i64 t.1)) (fun t=>t.2.2)
  (fun t=>t.1≤f.laws.length∧bB t.2.2 1 t.2.1 (eD ((f.laws.map cL.name).take t.1))) (fun t=>f.laws.length-t.1) (0,.nils,.nil) ⟨bhC _,.nil⟩ ?_ PH.nil_le ?_
 ·unfold gE
  (repeat' (first|exact PF.nil_le|refine PF.aA ?_ ?_))<;>first|(simp -implicitDefEqProofs only[go_sem,hv.a1,hv.a3,hv.a4,hv.a5,hv.a6,hv.a7,hv.a8,h67,h68,h69,pK]<;>rfl)|rfl
 rintro⟨k,v,H0⟩ ⟨hk,hO⟩
 simp only at hk hO ⊢
 simp -implicitDefEqProofs only[go_sem,γ,BR,aEF,gE]
 by_cases hlt:k<f.laws.length
 ·have hlt':(k:Int)<(f.laws.length:Nat):=by omega
  have hr:(f.laws.map cL.cells)[k]?=some (f.laws[k]).cells:=by simp[hlt]
  have hsn:=sJ (f.laws.map cL.name) (k:=k) (by simpa using hlt)
  rw[biJ] at hsn
  simp -implicitDefEqProofs only[go_sem,δ,γ,hlt',aEG,hr]
  refine aQ fun o ho=>?_
  simp -implicitDefEqProofs only[go_sem,υ,δ,γ,η,θ,ζ,aEH]
  refine kO hO ho (oZ (by simp; omega)) fun v' H' hO' ho'=>?_
  rw[hsn] at hO'
  have hstep:=pJ f.laws oH hlt
  cases hb:gA f.laws oH k with
  | false =>
   rw[hb,bhE] at hstep
   simp -implicitDefEqProofs only[go_sem,γ,reduceCtorEq,ZX,ho',QC,aO (show k<9223372036854775807 by omega)]
   refine aJ (k+1,v',H') ⟨hlt,hO'⟩ (by simp only; omega) ?_ PH.le_refl
   simp only[hstep]
   (repeat' (first|exact PF.nil_le|refine PF.aA ?_ ?_))<;>first|(simp -implicitDefEqProofs only[go_sem,γ]<;>rfl)|rfl
  | true =>
   rw[hb,bhP] at hstep
   simp -implicitDefEqProofs only[go_sem,δ,γ,ZX,ho']
   refine aB (L.law _ (hf.law _ (bgY hlt))) (by simp -implicitDefEqProofs only[go_sem,γ]<;>rfl) ?_
   simp -implicitDefEqProofs only[go_sem,γ,QC,aO (show k<9223372036854775807 by omega)]
   refine aJ (k+1,v',H') ⟨hlt,hO'⟩ (by simp only; omega) ?_ PH.le_refl
   simp only[hstep]
   (repeat' (first|exact PF.nil_le|refine PF.aA ?_ ?_))<;>first|(simp -implicitDefEqProofs only[go_sem,γ]<;>rfl)|rfl
 ·have hlt':¬ (k:Int)<(f.laws.length:Nat):=by omega
  have:k=f.laws.length:=by omega
  subst this
  rw[bhF (by simp)] at hO
  rw[rV]
  simp -implicitDefEqProofs only[go_sem,hlt']
  exact hK v _ _ ⟨by simp -implicitDefEqProofs only[go_sem,γ],by simp -implicitDefEqProofs only[go_sem,γ],by simp -implicitDefEqProofs only[go_sem,γ],by simp -implicitDefEqProofs only[go_sem,γ],by simp -implicitDefEqProofs only[go_sem,γ],by simp -implicitDefEqProofs only[go_sem,γ],by simp -implicitDefEqProofs only[go_sem,γ]⟩ hO
theorem wZ {n:Nat} (h:n≤1000):IntKind.i64.wrap ((n:Int)-1)=(n:Int)-1:=wrap_i64 (by omega) (by omega)
theorem aJT {C:Ctx} (L:iJ C) (f:aH) (hs:f.models.length≤4) (hl:f.laws.length≤4) (b0:Bool) (w3 w5 w6 w7:PV) (K:cC) (F:PF) (H:PH) (hv:iR F f w3 .nils w5 w6 w7 b0)
  (h67:F 85=some (.sl 4 (f.models.map cT.cells))) (h68:F 86=some (.int .i64 (f.models.length:Nat))) (h69:F 87=some (.int .i64 0))
  (hK:∀ v F' H',iR F' f w3 v w5 w6 w7 (b0&&f.models.all (kC f))→bB H' 1 v (eD (f.models.map cT.name))→K (.exit 2) F' H') :
  aD.wp C (.loop BS) K F H:=by
 refine wp_loop (α:=Nat × PV × PH) (fun t=>(((gE f w3 t.2.1 w5 w6 w7 (b0&&gA f.models (kC f) t.1)).set 85 (.sl 4 (f.models.map cT.cells))).set 86 (.int .i64 (f.models.length:Nat))).set 87 (.int .i64 t.1)) (fun t=>t.2.2)
  (fun t=>t.1≤f.models.length∧bB t.2.2 1 t.2.1 (eD ((f.models.map cT.name).take t.1))) (fun t=>f.models.length-t.1) (0,.nils,.nil) ⟨bhC _,.nil⟩ ?_ PH.nil_le ?_
 ·unfold gE
  (repeat' (first|exact PF.nil_le|refine PF.aA ?_ ?_))<;>first|(simp -implicitDefEqProofs only[go_sem,hv.a1,hv.a3,hv.a4,hv.a5,hv.a6,hv.a7,hv.a8,h67,h68,h69,pK,bjL]<;>rfl)|rfl
 rintro⟨k,v,H0⟩ ⟨hk,hO⟩
 simp only at hk hO ⊢
 simp -implicitDefEqProofs only[go_sem,γ,BS,aoQ,gE]
 by_cases hlt:k<f.models.length
 ·have hlt':(k:Int)<(f.models.length:Nat):=by omega
  have hr:(f.models.map cT.cells)[k]?=some (f.models[k]).cells:=by simp[hlt]
  have hsn:=sJ (f.models.map cT.name) (k:=k) (by simpa using hlt)
  rw[biJ] at hsn
  simp -implicitDefEqProofs only[go_sem,δ,γ,hlt',aoR,hr]
  refine aQ fun o ho=>?_
  simp -implicitDefEqProofs only[go_sem,υ,δ,γ,η,θ,ζ,aoS]
  refine kO hO ho (oZ (by simp; omega)) fun v' H' hO' ho'=>?_
  rw[hsn] at hO'
  have hstep:=pJ f.models (kC f) hlt
  have fin:∀ (c:Bool) (F':PF),c=(b0&&gA f.models (kC f) (k+1))→((((gE f w3 v' w5 w6 w7 c).set 85 (.sl 4 (f.models.map cT.cells))).set 86 (.int .i64 (f.models.length:Nat))).set 87 (.int .i64 (k+1:Nat))).le F' →
    fU (fun (t:Nat × PV × PH)=>(((gE f w3 t.2.1 w5 w6 w7 (b0&&gA f.models (kC f) t.1)).set 85 (.sl 4 (f.models.map cT.cells))).set 86 (.int .i64 (f.models.length:Nat))).set 87 (.int .i64 t.1)) (fun (t:Nat × PV × PH)=>t.2.2)  (fun (t:Nat × PV × PH)=>t.1≤f.models.length∧bB t.2.2 1 t.2.1 (eD ((f.models.map cT.name).take t.1))) (fun (t:Nat × PV × PH)=>f.models.length-t.1) (f.models.length-k) K .normal F' H':=by
   intro c F' hc hle
   refine aJ (α:=Nat × PV × PH) (k+1,v',H') ⟨hlt,hO'⟩ (by simp only; omega) ?_ PH.le_refl
   rw[hc] at hle
   exact hle
  unfold gE at fin
  rw[hstep,← Bool.and_assoc] at fin
  have hm:kC f f.models[k]=(within (f.models[k]).extents 1 16&&within (f.models[k]).port 1 64&&within (f.models[k]).law 0 ((f.laws.length:Int)-1)):=rfl
  cases hb:(b0&&gA f.models (kC f) k) with
  | false =>
   rw[hb,bhE] at fin
   simp -implicitDefEqProofs only[go_sem,γ,reduceCtorEq,QE,ho',uT,aO (show k<9223372036854775807 by omega)]
   refine fin false _ rfl ?_
   (repeat' (first|exact PF.nil_le|refine PF.aA ?_ ?_))<;>first|(simp -implicitDefEqProofs only[go_sem,γ]<;>rfl)|rfl
  | true =>
   rw[hb,bhP] at fin
   simp -implicitDefEqProofs only[go_sem,δ,γ,θ,QE,ho']
   refine aB (L.inn _ 1 16) (by simp -implicitDefEqProofs only[go_sem,γ]<;>rfl) ?_
   cases e1:within (f.models[k]).extents 1 16 with
   | false =>
    simp -implicitDefEqProofs only[go_sem,γ,reduceCtorEq,uT,aO (show k<9223372036854775807 by omega)]
    refine fin false _ (by rw[hm,e1]; simp only[bhE]) ?_
    (repeat' (first|exact PF.nil_le|refine PF.aA ?_ ?_))<;>first|(simp -implicitDefEqProofs only[go_sem,γ]<;>rfl)|rfl
   | true =>
    simp -implicitDefEqProofs only[go_sem,δ,γ,θ,ho']
    refine aB (L.inn _ 1 64) (by simp -implicitDefEqProofs only[go_sem,γ]<;>rfl) ?_
    cases e2:within (f.models[k]).port 1 64 with
    | false =>
     simp -implicitDefEqProofs only[go_sem,γ,reduceCtorEq,uT,aO (show k<9223372036854775807 by omega)]
     refine fin false _ (by rw[hm,e1,e2]; simp only[bhE,biI]) ?_
     (repeat' (first|exact PF.nil_le|refine PF.aA ?_ ?_))<;>first|(simp -implicitDefEqProofs only[go_sem,γ]<;>rfl)|rfl
    | true =>
     simp -implicitDefEqProofs only[go_sem,δ,γ,θ,ho',bgR,wZ (show f.laws.length≤1000 by omega)]
     refine aB (L.inn _ 0 _) (by simp -implicitDefEqProofs only[go_sem,γ]<;>rfl) ?_
     simp -implicitDefEqProofs only[go_sem,γ,uT,aO (show k<9223372036854775807 by omega)]
     refine fin (within (f.models[k]).law 0 ((f.laws.length:Int)-1)) _ (by rw[hm,e1,e2]; simp only[bhP]) ?_
     (repeat' (first|exact PF.nil_le|refine PF.aA ?_ ?_))<;>first|(simp -implicitDefEqProofs only[go_sem,γ]<;>rfl)|rfl
 ·have hlt':¬ (k:Int)<(f.models.length:Nat):=by omega
  have:k=f.models.length:=by omega
  subst this
  rw[bhF (by simp)] at hO
  rw[rV]
  simp -implicitDefEqProofs only[go_sem,hlt']
  exact hK v _ _ ⟨by simp -implicitDefEqProofs only[go_sem,γ],by simp -implicitDefEqProofs only[go_sem,γ],by simp -implicitDefEqProofs only[go_sem,γ],by simp -implicitDefEqProofs only[go_sem,γ],by simp -implicitDefEqProofs only[go_sem,γ],by simp -implicitDefEqProofs only[go_sem,γ],by simp -implicitDefEqProofs only[go_sem,γ]⟩ hO
theorem aJU {C:Ctx} (L:iJ C) (f:aH) (t:List cK) (hs:t.length≤40) (b0:Bool) (w3 w4 w6 w7:PV) (K:cC) (F:PF) (H:PH) (hv:iR F f w3 w4 .nils w6 w7 b0)
  (h67:F 119=some (.sl 7 (t.map cK.cells))) (h68:F 120=some (.int .i64 (t.length:Nat))) (h69:F 121=some (.int .i64 0))
  (hK:∀ v F' H',iR F' f w3 w4 v w6 w7 b0→bB H' 1 v (eD (t.map cK.name))→K (.exit 4) F' H') :
  aD.wp C (.loop BT) K F H:=by
 refine wp_loop (α:=Nat × PV × PH) (fun a=>(((gE f w3 w4 a.2.1 w6 w7 b0).set 119 (.sl 7 (t.map cK.cells))).set 120 (.int .i64 (t.length:Nat))).set 121 (.int .i64 a.1)) (fun a=>a.2.2)
  (fun a=>a.1≤t.length∧bB a.2.2 1 a.2.1 (eD ((t.map cK.name).take a.1))) (fun a=>t.length-a.1) (0,.nils,.nil) ⟨bhC _,.nil⟩ ?_ PH.nil_le ?_
 ·unfold gE
  (repeat' (first|exact PF.nil_le|refine PF.aA ?_ ?_))<;>first|(simp -implicitDefEqProofs only[go_sem,hv.a1,hv.a3,hv.a4,hv.a5,hv.a6,hv.a7,hv.a8,h67,h68,h69]<;>rfl)|rfl
 rintro⟨k,v,H0⟩ ⟨hk,hO⟩
 simp only at hk hO ⊢
 simp -implicitDefEqProofs only[go_sem,γ,BT,aoT,gE]
 by_cases hlt:k<t.length
 ·have hlt':(k:Int)<(t.length:Nat):=by omega
  have hr:(t.map cK.cells)[k]?=some (t[k]).cells:=by simp[hlt]
  have hsn:=sJ (t.map cK.name) (k:=k) (by simpa using hlt)
  rw[biJ] at hsn
  simp -implicitDefEqProofs only[go_sem,δ,γ,hlt',aoU,hr]
  refine aQ fun o ho=>?_
  simp -implicitDefEqProofs only[go_sem,υ,δ,γ,η,θ,ζ,aoV]
  refine kO hO ho (oZ (by simp; omega)) fun v' H' hO' ho'=>?_
  rw[hsn] at hO'
  simp -implicitDefEqProofs only[go_sem,γ,aoW,aO (show k<9223372036854775807 by omega)]
  refine aJ (k+1,v',H') ⟨hlt,hO'⟩ (by simp only; omega) ?_ PH.le_refl
  (repeat' (first|exact PF.nil_le|refine PF.aA ?_ ?_))<;>first|(simp -implicitDefEqProofs only[go_sem,γ]<;>rfl)|rfl
 ·have hlt':¬ (k:Int)<(t.length:Nat):=by omega
  have:k=t.length:=by omega
  subst this
  rw[bhF (by simp)] at hO
  simp -implicitDefEqProofs only[go_sem,hlt']
  exact hK v _ _ ⟨by simp -implicitDefEqProofs only[go_sem,γ],by simp -implicitDefEqProofs only[go_sem,γ],by simp -implicitDefEqProofs only[go_sem,γ],by simp -implicitDefEqProofs only[go_sem,γ],by simp -implicitDefEqProofs only[go_sem,γ],by simp -implicitDefEqProofs only[go_sem,γ],by simp -implicitDefEqProofs only[go_sem,γ]⟩ hO
theorem aJV {C:Ctx} (L:iJ C) (f:aH) (names:List (List UInt8)) (hn:names.length≤40) (hs:f.drives.length≤24) (hm:f.models.length≤4) (hd:f.domains.length≤40) (b0:Bool) (w3 w4 v0 w6 w7:PV) (K:cC) (F:PF) (H:PH) (hv:iR F f w3 w4 v0 w6 w7 b0)
  (h0:bB H 1 v0 (eD names))
  (h67:F 132=some (.sl 3 (f.drives.map cP.cells))) (h68:F 133=some (.int .i64 (f.drives.length:Nat))) (h69:F 134=some (.int .i64 0))
  (hK:∀ v F' H',iR F' f w3 w4 v w6 w7 (b0&&f.drives.all (iO f))→bB H' 1 v (eD (names++f.drives.map cP.name))→K (.exit 6) F' H') :
  aD.wp C (.loop BU) K F H:=by
 refine wp_loop (α:=Nat × PV × PH) (fun t=>(((gE f w3 w4 t.2.1 w6 w7 (b0&&gA f.drives (iO f) t.1)).set 132 (.sl 3 (f.drives.map cP.cells))).set 133 (.int .i64 (f.drives.length:Nat))).set 134 (.int .i64 t.1)) (fun t=>t.2.2)
  (fun t=>t.1≤f.drives.length∧bB t.2.2 1 t.2.1 (eD (names++(f.drives.map cP.name).take t.1))) (fun t=>f.drives.length-t.1) (0,v0,H) ⟨bhC _,by rw[List.take_zero,biL]; exact h0⟩ ?_ PH.le_refl ?_
 ·unfold gE
  (repeat' (first|exact PF.nil_le|refine PF.aA ?_ ?_))<;>first|(simp -implicitDefEqProofs only[go_sem,hv.a1,hv.a3,hv.a4,hv.a5,hv.a6,hv.a7,hv.a8,h67,h68,h69,pK,bjL]<;>rfl)|rfl
 rintro⟨k,v,H0⟩ ⟨hk,hO⟩
 simp only at hk hO ⊢
 simp -implicitDefEqProofs only[go_sem,γ,BU,aoX,gE]
 by_cases hlt:k<f.drives.length
 ·have hlt':(k:Int)<(f.drives.length:Nat):=by omega
  have hr:(f.drives.map cP.cells)[k]?=some (f.drives[k]).cells:=by simp[hlt]
  have hsn:eD (names++(f.drives.map cP.name).take k)++[[.str (f.drives[k]).name]]=eD (names++(f.drives.map cP.name).take (k+1)):=by
   rw[bjG (by simpa using hlt),← bhV,biJ]
   unfold eD
   simp only[biN,bhY,biQ]
  simp -implicitDefEqProofs only[go_sem,δ,γ,hlt',aoY,hr]
  refine aQ fun o ho=>?_
  simp -implicitDefEqProofs only[go_sem,υ,δ,γ,η,θ,ζ,aoZ]
  refine kO hO ho (oZ (by simp; omega)) fun v' H' hO' ho'=>?_
  rw[hsn] at hO'
  have hstep:=pJ f.drives (iO f) hlt
  have fin:∀ (c:Bool) (F':PF),c=(b0&&gA f.drives (iO f) (k+1))→((((gE f w3 w4 v' w6 w7 c).set 132 (.sl 3 (f.drives.map cP.cells))).set 133 (.int .i64 (f.drives.length:Nat))).set 134 (.int .i64 (k+1:Nat))).le F' →
    fU (fun (t:Nat × PV × PH)=>(((gE f w3 w4 t.2.1 w6 w7 (b0&&gA f.drives (iO f) t.1)).set 132 (.sl 3 (f.drives.map cP.cells))).set 133 (.int .i64 (f.drives.length:Nat))).set 134 (.int .i64 t.1)) (fun (t:Nat × PV × PH)=>t.2.2)  (fun (t:Nat × PV × PH)=>t.1≤f.drives.length∧bB t.2.2 1 t.2.1 (eD (names++(f.drives.map cP.name).take t.1))) (fun (t:Nat × PV × PH)=>f.drives.length-t.1) (f.drives.length-k) K .normal F' H':=by
   intro c F' hc hle
   refine aJ (α:=Nat × PV × PH) (k+1,v',H') ⟨hlt,hO'⟩ (by simp only; omega) ?_ PH.le_refl
   rw[hc] at hle
   exact hle
  unfold gE at fin
  rw[hstep,← Bool.and_assoc] at fin
  have hmd:iO f f.drives[k]=(within (f.drives[k]).model 0 ((f.models.length:Int)-1)&&within (f.drives[k]).machine 0 ((f.domains.length:Int)-1)&&decide ((f.domains.map cK.level).getD (f.drives[k]).machine.toNat 0=4)):=rfl
  cases hb:(b0&&gA f.drives (iO f) k) with
  | false =>
   rw[hb,bhE] at fin
   simp -implicitDefEqProofs only[go_sem,γ,reduceCtorEq,QH,ho',qU,aO (show k<9223372036854775807 by omega)]
   refine fin false _ rfl ?_
   (repeat' (first|exact PF.nil_le|refine PF.aA ?_ ?_))<;>first|(simp -implicitDefEqProofs only[go_sem,γ]<;>rfl)|rfl
  | true =>
   rw[hb,bhP] at fin
   simp -implicitDefEqProofs only[go_sem,δ,γ,θ,QH,ho',bgR,wZ (show f.models.length≤1000 by omega)]
   refine aB (L.inn _ 0 _) (by simp -implicitDefEqProofs only[go_sem,γ]<;>rfl) ?_
   cases e1:within (f.drives[k]).model 0 ((f.models.length:Int)-1) with
   | false =>
    simp -implicitDefEqProofs only[go_sem,γ,reduceCtorEq,qU,aO (show k<9223372036854775807 by omega)]
    refine fin false _ (by rw[hmd,e1]; simp only[bhE]) ?_
    (repeat' (first|exact PF.nil_le|refine PF.aA ?_ ?_))<;>first|(simp -implicitDefEqProofs only[go_sem,γ]<;>rfl)|rfl
   | true =>
    simp -implicitDefEqProofs only[go_sem,δ,γ,θ,ho',bgR,wZ (show f.domains.length≤1000 by omega)]
    refine aB (L.inn _ 0 _) (by simp -implicitDefEqProofs only[go_sem,γ]<;>rfl) ?_
    cases e2:within (f.drives[k]).machine 0 ((f.domains.length:Int)-1) with
    | false =>
     simp -implicitDefEqProofs only[go_sem,γ,reduceCtorEq,qU,aO (show k<9223372036854775807 by omega)]
     refine fin false _ (by rw[hmd,e1,e2]; simp only[bhE,biI]) ?_
     (repeat' (first|exact PF.nil_le|refine PF.aA ?_ ?_))<;>first|(simp -implicitDefEqProofs only[go_sem,γ]<;>rfl)|rfl
    | true =>
     obtain⟨i1,i2⟩:=within_iff.1 e2
     have i3:(f.drives[k]).machine.toNat<f.domains.length:=by omega
     have hpr:(f.domains.map cK.cells)[(f.drives[k]).machine.toNat]?=some (f.domains[(f.drives[k]).machine.toNat]).cells:=by simp[i3]
     have hlv:(f.domains.map cK.level).getD (f.drives[k]).machine.toNat 0=(f.domains[(f.drives[k]).machine.toNat]).level:=by simp[i3]
     rw[hlv] at hmd
     by_cases e3:(f.domains[(f.drives[k]).machine.toNat]).level=4
     ·simp -implicitDefEqProofs only[go_sem,δ,γ,θ,ho',i1,hpr,bT e3,qU,aO (show k<9223372036854775807 by omega)]
      refine fin true _ (by rw[hmd,e1,e2,decide_eq_true e3]; rfl) ?_
      (repeat' (first|exact PF.nil_le|refine PF.aA ?_ ?_))<;>first|(simp -implicitDefEqProofs only[go_sem,γ]<;>rfl)|rfl
     ·simp -implicitDefEqProofs only[go_sem,δ,γ,θ,ho',i1,hpr,bG e3,qU,aO (show k<9223372036854775807 by omega)]
      refine fin false _ (by rw[hmd,e1,e2,decide_eq_false e3]; rfl) ?_
      (repeat' (first|exact PF.nil_le|refine PF.aA ?_ ?_))<;>first|(simp -implicitDefEqProofs only[go_sem,γ]<;>rfl)|rfl
 ·have hlt':¬ (k:Int)<(f.drives.length:Nat):=by omega
  have:k=f.drives.length:=by omega
  subst this
  rw[bhF (by simp)] at hO
  rw[rV]
  simp -implicitDefEqProofs only[go_sem,hlt']
  exact hK v _ _ ⟨by simp -implicitDefEqProofs only[go_sem,γ],by simp -implicitDefEqProofs only[go_sem,γ],by simp -implicitDefEqProofs only[go_sem,γ],by simp -implicitDefEqProofs only[go_sem,γ],by simp -implicitDefEqProofs only[go_sem,γ],by simp -implicitDefEqProofs only[go_sem,γ],by simp -implicitDefEqProofs only[go_sem,γ]⟩ hO
theorem aJW {C:Ctx} (L:iJ C) (f:aH) (hf:f.Ok) (hs:f.policies.length≤4) (hm:f.models.length≤4) (b0:Bool) (w3 w4 w5 w7:PV) (K:cC) (F:PF) (H:PH) (hv:iR F f w3 w4 w5 .nils w7 b0)
  (h67:F 174=some (.sl 17 (f.policies.map cO.cells))) (h68:F 175=some (.int .i64 (f.policies.length:Nat))) (h69:F 176=some (.int .i64 0))
  (hK:∀ v F' H',iR F' f w3 w4 w5 v w7 (b0&&f.policies.all (iD f.models.length))→bB H' 1 v (eD (f.policies.map cO.name))→K (.exit 8) F' H') :
  aD.wp C (.loop BV) K F H:=by
 refine wp_loop (α:=Nat × PV × PH) (fun t=>(((gE f w3 w4 w5 t.2.1 w7 (b0&&gA f.policies (iD f.models.length) t.1)).set 174 (.sl 17 (f.policies.map cO.cells))).set 175 (.int .i64 (f.policies.length:Nat))).set 176 (.int .i64 t.1)) (fun t=>t.2.2)
  (fun t=>t.1≤f.policies.length∧bB t.2.2 1 t.2.1 (eD ((f.policies.map cO.name).take t.1))) (fun t=>f.policies.length-t.1) (0,.nils,.nil) ⟨bhC _,.nil⟩ ?_ PH.nil_le ?_
 ·unfold gE
  (repeat' (first|exact PF.nil_le|refine PF.aA ?_ ?_))<;>first|(simp -implicitDefEqProofs only[go_sem,hv.a1,hv.a3,hv.a4,hv.a5,hv.a6,hv.a7,hv.a8,h67,h68,h69,pK,bjL]<;>rfl)|rfl
 rintro⟨k,v,H0⟩ ⟨hk,hO⟩
 simp only at hk hO ⊢
 simp -implicitDefEqProofs only[go_sem,γ,BV,apA,gE]
 by_cases hlt:k<f.policies.length
 ·have hlt':(k:Int)<(f.policies.length:Nat):=by omega
  have hr:(f.policies.map cO.cells)[k]?=some (f.policies[k]).cells:=by simp[hlt]
  have hsn:=sJ (f.policies.map cO.name) (k:=k) (by simpa using hlt)
  rw[biJ] at hsn
  simp -implicitDefEqProofs only[go_sem,δ,γ,hlt',apB,hr]
  refine aQ fun o ho=>?_
  simp -implicitDefEqProofs only[go_sem,υ,δ,γ,η,θ,ζ,apC]
  refine kO hO ho (oZ (by simp; omega)) fun v' H' hO' ho'=>?_
  rw[hsn] at hO'
  have hstep:=pJ f.policies (iD f.models.length) hlt
  have fin:∀ (c:Bool) (F':PF),c=(b0&&gA f.policies (iD f.models.length) (k+1))→((((gE f w3 w4 w5 v' w7 c).set 174 (.sl 17 (f.policies.map cO.cells))).set 175 (.int .i64 (f.policies.length:Nat))).set 176 (.int .i64 (k+1:Nat))).le F' →
    fU (fun (t:Nat × PV × PH)=>(((gE f w3 w4 w5 t.2.1 w7 (b0&&gA f.policies (iD f.models.length) t.1)).set 174 (.sl 17 (f.policies.map cO.cells))).set 175 (.int .i64 (f.policies.length:Nat))).set 176 (.int .i64 t.1)) (fun (t:Nat × PV × PH)=>t.2.2)  (fun (t:Nat × PV × PH)=>t.1≤f.policies.length∧bB t.2.2 1 t.2.1 (eD ((f.policies.map cO.name).take t.1))) (fun (t:Nat × PV × PH)=>f.policies.length-t.1) (f.policies.length-k) K .normal F' H':=by
   intro c F' hc hle
   refine aJ (α:=Nat × PV × PH) (k+1,v',H') ⟨hlt,hO'⟩ (by simp only; omega) ?_ PH.le_refl
   rw[hc] at hle
   exact hle
  unfold gE at fin
  rw[hstep,← Bool.and_assoc] at fin
  cases hb:(b0&&gA f.policies (iD f.models.length) k) with
  | false =>
   rw[hb,bhE] at fin
   simp -implicitDefEqProofs only[go_sem,γ,reduceCtorEq,QJ,ho',QK,aO (show k<9223372036854775807 by omega)]
   refine fin false _ rfl ?_
   (repeat' (first|exact PF.nil_le|refine PF.aA ?_ ?_))<;>first|(simp -implicitDefEqProofs only[go_sem,γ]<;>rfl)|rfl
  | true =>
   rw[hb,bhP] at fin
   simp -implicitDefEqProofs only[go_sem,δ,γ,θ,QJ,ho',bgR]
   refine aB (L.pol _ _ (hf.policy _ (bgY hlt)) hm) (by simp -implicitDefEqProofs only[go_sem,γ]<;>rfl) ?_
   simp -implicitDefEqProofs only[go_sem,γ,QK,aO (show k<9223372036854775807 by omega)]
   refine fin _ _ rfl ?_
   (repeat' (first|exact PF.nil_le|refine PF.aA ?_ ?_))<;>first|(simp -implicitDefEqProofs only[go_sem,γ]<;>rfl)|rfl
 ·have hlt':¬ (k:Int)<(f.policies.length:Nat):=by omega
  have:k=f.policies.length:=by omega
  subst this
  rw[bhF (by simp)] at hO
  rw[rV]
  simp -implicitDefEqProofs only[go_sem,hlt']
  exact hK v _ _ ⟨by simp -implicitDefEqProofs only[go_sem,γ],by simp -implicitDefEqProofs only[go_sem,γ],by simp -implicitDefEqProofs only[go_sem,γ],by simp -implicitDefEqProofs only[go_sem,γ],by simp -implicitDefEqProofs only[go_sem,γ],by simp -implicitDefEqProofs only[go_sem,γ],by simp -implicitDefEqProofs only[go_sem,γ]⟩ hO
theorem aJX {C:Ctx} (L:iJ C) (f:aH) (hs:f.volumes.length≤12) (hl:f.policies.length≤4) (b0:Bool) (w3 w4 w5 w6:PV) (K:cC) (F:PF) (H:PH) (hv:iR F f w3 w4 w5 w6 .nils b0)
  (h67:F 195=some (.sl 2 (f.volumes.map fK.cells))) (h68:F 196=some (.int .i64 (f.volumes.length:Nat))) (h69:F 197=some (.int .i64 0))
  (hK:∀ v F' H',iR F' f w3 w4 w5 w6 v (b0&&f.volumes.all (lS f))→bB H' 1 v (eD (f.volumes.map fK.name))→K (.exit 10) F' H') :
  aD.wp C (.loop BW) K F H:=by
 refine wp_loop (α:=Nat × PV × PH) (fun t=>(((gE f w3 w4 w5 w6 t.2.1 (b0&&gA f.volumes (lS f) t.1)).set 195 (.sl 2 (f.volumes.map fK.cells))).set 196 (.int .i64 (f.volumes.length:Nat))).set 197 (.int .i64 t.1)) (fun t=>t.2.2)
  (fun t=>t.1≤f.volumes.length∧bB t.2.2 1 t.2.1 (eD ((f.volumes.map fK.name).take t.1))) (fun t=>f.volumes.length-t.1) (0,.nils,.nil) ⟨bhC _,.nil⟩ ?_ PH.nil_le ?_
 ·unfold gE
  (repeat' (first|exact PF.nil_le|refine PF.aA ?_ ?_))<;>first|(simp -implicitDefEqProofs only[go_sem,hv.a1,hv.a3,hv.a4,hv.a5,hv.a6,hv.a7,hv.a8,h67,h68,h69,pK,bjL]<;>rfl)|rfl
 rintro⟨k,v,H0⟩ ⟨hk,hO⟩
 simp only at hk hO ⊢
 simp -implicitDefEqProofs only[go_sem,γ,BW,apD,gE]
 by_cases hlt:k<f.volumes.length
 ·have hlt':(k:Int)<(f.volumes.length:Nat):=by omega
  have hr:(f.volumes.map fK.cells)[k]?=some (f.volumes[k]).cells:=by simp[hlt]
  have hsn:=sJ (f.volumes.map fK.name) (k:=k) (by simpa using hlt)
  rw[biJ] at hsn
  simp -implicitDefEqProofs only[go_sem,δ,γ,hlt',apE,hr]
  refine aQ fun o ho=>?_
  simp -implicitDefEqProofs only[go_sem,υ,δ,γ,η,θ,ζ,apF]
  refine kO hO ho (oZ (by simp; omega)) fun v' H' hO' ho'=>?_
  rw[hsn] at hO'
  have hstep:=pJ f.volumes (lS f) hlt
  have fin:∀ (c:Bool) (F':PF),c=(b0&&gA f.volumes (lS f) (k+1))→((((gE f w3 w4 w5 w6 v' c).set 195 (.sl 2 (f.volumes.map fK.cells))).set 196 (.int .i64 (f.volumes.length:Nat))).set 197 (.int .i64 (k+1:Nat))).le F' →
    fU (fun (t:Nat × PV × PH)=>(((gE f w3 w4 w5 w6 t.2.1 (b0&&gA f.volumes (lS f) t.1)).set 195 (.sl 2 (f.volumes.map fK.cells))).set 196 (.int .i64 (f.volumes.length:Nat))).set 197 (.int .i64 t.1)) (fun (t:Nat × PV × PH)=>t.2.2)  (fun (t:Nat × PV × PH)=>t.1≤f.volumes.length∧bB t.2.2 1 t.2.1 (eD ((f.volumes.map fK.name).take t.1))) (fun (t:Nat × PV × PH)=>f.volumes.length-t.1) (f.volumes.length-k) K .normal F' H':=by
   intro c F' hc hle
   refine aJ (α:=Nat × PV × PH) (k+1,v',H') ⟨hlt,hO'⟩ (by simp only; omega) ?_ PH.le_refl
   rw[hc] at hle
   exact hle
  unfold gE at fin
  rw[hstep,← Bool.and_assoc] at fin
  have hm:lS f f.volumes[k]=within (f.volumes[k]).policy 0 ((f.policies.length:Int)-1):=rfl
  cases hb:(b0&&gA f.volumes (lS f) k) with
  | false =>
   rw[hb,bhE] at fin
   simp -implicitDefEqProofs only[go_sem,γ,reduceCtorEq,QM,ho',QN,aO (show k<9223372036854775807 by omega)]
   refine fin false _ rfl ?_
   (repeat' (first|exact PF.nil_le|refine PF.aA ?_ ?_))<;>first|(simp -implicitDefEqProofs only[go_sem,γ]<;>rfl)|rfl
  | true =>
   rw[hb,bhP,hm] at fin
   simp -implicitDefEqProofs only[go_sem,δ,γ,θ,QM,ho',bgR,wZ (show f.policies.length≤1000 by omega)]
   refine aB (L.inn _ 0 _) (by simp -implicitDefEqProofs only[go_sem,γ]<;>rfl) ?_
   simp -implicitDefEqProofs only[go_sem,γ,QN,aO (show k<9223372036854775807 by omega)]
   refine fin _ _ rfl ?_
   (repeat' (first|exact PF.nil_le|refine PF.aA ?_ ?_))<;>first|(simp -implicitDefEqProofs only[go_sem,γ]<;>rfl)|rfl
 ·have hlt':¬ (k:Int)<(f.volumes.length:Nat):=by omega
  have:k=f.volumes.length:=by omega
  subst this
  rw[bhF (by simp)] at hO
  rw[rV]
  simp -implicitDefEqProofs only[go_sem,hlt']
  exact hK v _ _ ⟨by simp -implicitDefEqProofs only[go_sem,γ],by simp -implicitDefEqProofs only[go_sem,γ],by simp -implicitDefEqProofs only[go_sem,γ],by simp -implicitDefEqProofs only[go_sem,γ],by simp -implicitDefEqProofs only[go_sem,γ],by simp -implicitDefEqProofs only[go_sem,γ],by simp -implicitDefEqProofs only[go_sem,γ]⟩ hO
end Go.PM
namespace Go.PM
open Go Go.Na
theorem kX {f:aH} (h:¬ (f.laws.length≤4∧f.models.length≤4∧f.domains.length≤40∧f.drives.length≤24∧f.policies.length≤4∧f.volumes.length≤12)):mL f=false:=by
 rw[← Bool.not_eq_true]
 intro hs
 simp only[mL,bhO,decide_eq_true_eq] at hs
 omega
theorem aBA {f:aH} (h:f.laws.length≤4∧f.models.length≤4∧f.domains.length≤40∧f.drives.length≤24∧f.policies.length≤4∧f.volumes.length≤12):mL f=within f.extent 1 4:=by
 obtain⟨h1,h2,h3,h4,h5,h6⟩:=h
 simp[mL,h1,h2,h3,h4,h5,h6]
theorem fH {t:Nat} {n m:Int} {F:PF} {H:PH} (h:F t=some (.int .i64 n)) (e:n=m):aX [.tmp t] (bY (.int .i64 m)) .ret F H:=by
 subst e
 exact aW (.inr rfl) .nil (vs:=[.int .i64 n]) (by rw[jN,lO,h,nC]) PH.nil_le ⟨.refl _,rfl⟩
def FB (f:aH):Int:=if dC f then 0 else 1
theorem aNJ {f:aH} (h:dC f=false):FB f=1:=by rw[FB,h]; rfl
theorem qN {C:Ctx} {F:PF} {H:PH} {name t s:Nat} {v r:PV} {rows:List (List PV)} {d:Option Nat} {K:PF→PH→Prop} (h:aI C name [.sl s rows] .nil (aK r)) (hO:bB H s v rows) (ht:F t=some v)
  (hK:∀ (F1:PF) (H1:PH),(∀ i u,F i=some u→Pure u→F1 i=some u)→K (F1.put d r) H1):fZ C name [.tmp t] [] d K F H:=by
 rcases hO with ⟨rfl,rfl⟩ | ⟨q,rs,rfl,h1,h2,h3⟩
 ·refine aB (h.aMR (.inl ⟨rfl,rfl⟩)) (by rw[uN,TJ,ht,LO]) ?_
  exact hK F H fun i u hi _=>hi
 ·rw[← h3] at h
  refine nG (k:=rows.length) h ht h1 h2 (hK _ _ fun i u hi hp=>?_)
  rw[pU,hi,bhZ,hp q s rs]
theorem Seen.pure {s:Nat} {v:PV} {rows:List (List PV)} (h:Seen s v rows):Pure v:=by
 rcases h with ⟨_,rfl⟩ | rfl
 ·exact fun _ _ _=>rfl
 ·exact fun _ _ _=>rfl
def bI (b:Bool):Int:=if b then 0 else 1
abbrev MM (f:aH):List (List UInt8):=(f.domains.drop 1).map cK.name++f.drives.map cP.name
def rS (f:aH):Bool:=distinct (f.laws.map cL.name)&&distinct (f.models.map cT.name)&&distinct (MM f)&&distinct (f.policies.map cO.name)&&distinct (f.volumes.map fK.name)
structure Small (f:aH):Prop where
 laws:f.laws.length≤4
 models:f.models.length≤4
 domains:f.domains.length≤40
 drives:f.drives.length≤24
 policies:f.policies.length≤4
 volumes:f.volumes.length≤12
theorem wI {C:Ctx} (L:iJ C) {v:PV} {l:List (List UInt8)} (h:Seen 1 v (eD l)) (hl:l.length≤1000):aI C 110 [v] .nil (aK (.bool (distinct l))) :=
 (L.uniq l (show l.length≤9223372036854775807 by omega)).aMR h
theorem aVG {C:Ctx} (L:iJ C) (f:aH) (hs:Small f) (w3 w4 w5 w6 w7:PV) (ok:Bool) (F:PF) (H:PH) (hv:iR F f w3 w4 w5 w6 w7 ok)
  (h3:Seen 1 w3 (eD (f.laws.map cL.name))) (h4:Seen 1 w4 (eD (f.models.map cT.name))) (h5:Seen 1 w5 (eD (MM f))) (h6:Seen 1 w6 (eD (f.policies.map cO.name))) (h7:bB H 1 w7 (eD (f.volumes.map fK.name))) :
  aD.wp C (.seq (.seq (.region uU) (.cond (.tmp 243) (.seq (.region lE) .ret) .skip)) (.seq (.region BY) .ret)) (aX [.tmp 2] (bY (.int .i64 (bI (ok&&rS f))))) F H:=by
 obtain⟨s1,s2,s3,s4,s5,s6⟩:=hs
 have l3:(f.laws.map cL.name).length≤1000:=by simp; omega
 have l4:(f.models.map cT.name).length≤1000:=by simp; omega
 have l5:(MM f).length≤1000:=by simp; omega
 have l6:(f.policies.map cO.name).length≤1000:=by simp; omega
 have l7:(f.volumes.map fK.name).length≤9223372036854775807:=by simp; omega
 cases ok with
 | false =>
  simp -implicitDefEqProofs only[go_sem,γ,uU,hv.a8,lE]
  exact fH rfl rfl
 | true =>
  simp -implicitDefEqProofs only[go_sem,γ,uU,hv.a8,hv.a3]
  refine aB (wI L h3 l3) rfl ?_
  unfold rS
  cases c1:distinct (f.laws.map cL.name) with
  | false =>
   simp -implicitDefEqProofs only[go_sem,γ,reduceCtorEq,lE,bhK]
   exact fH rfl rfl
  | true =>
   simp -implicitDefEqProofs only[go_sem,γ,reduceCtorEq,hv.a4,bgZ]
   refine aB (wI L h4 l4) rfl ?_
   cases c2:distinct (f.models.map cT.name) with
   | false =>
    simp -implicitDefEqProofs only[go_sem,γ,reduceCtorEq,lE,bhK]
    exact fH rfl rfl
   | true =>
    simp -implicitDefEqProofs only[go_sem,γ,reduceCtorEq,hv.a5,bgZ]
    refine aB (wI L h5 l5) rfl ?_
    cases c3:distinct (MM f) with
    | false =>
     simp -implicitDefEqProofs only[go_sem,γ,reduceCtorEq,lE,bhK]
     exact fH rfl rfl
    | true =>
     simp -implicitDefEqProofs only[go_sem,γ,reduceCtorEq,hv.a6,bgZ]
     refine aB (wI L h6 l6) rfl ?_
     cases c4:distinct (f.policies.map cO.name) with
     | false =>
      simp -implicitDefEqProofs only[go_sem,γ,reduceCtorEq,lE,bhK]
      exact fH rfl rfl
     | true =>
      simp -implicitDefEqProofs only[go_sem,γ,reduceCtorEq,hv.a7,bgZ]
      refine qN (L.uniq _ l7) h7 rfl fun F1 H1 hp=>?_
      have g:F1 239=some (.bool false):=hp 239 _ rfl fun _ _ _=>rfl
      cases c5:distinct (f.volumes.map fK.name) with
      | false =>
       simp -implicitDefEqProofs only[go_sem,γ,reduceCtorEq,lE,bhK,g]
       exact fH rfl rfl
      | true =>
       simp -implicitDefEqProofs only[go_sem,γ,reduceCtorEq,BY,bgZ,g]
       exact fH rfl rfl
abbrev abN (b:Bool):cC:=aX [.tmp 2] (bY (.int .i64 (bI b)))
def akE:aD:=.seq (.seq (.region QL) (.block 10 (.loop BW))) (.seq (.seq (.region uU) (.cond (.tmp 243) (.seq (.region lE) .ret) .skip)) (.seq (.region BY) .ret))
def akD:aD:=.seq (.seq (.region QI) (.block 8 (.loop BV))) akE
def akC:aD:=.seq (.seq (.region QG) (.block 6 (.loop BU))) akD
def akB:aD:=.seq (.seq (.region QF) (.block 4 (.loop BT))) akC
def akA:aD:=.seq (.seq (.region QD) (.block 2 (.loop BS))) akB
def aNI:aD:=.seq (.seq (.region ZW) (.block 0 (.loop BR))) akA
theorem a0Y {C:Ctx} (L:iJ C) (f:aH) (hs:Small f) (w3 w4 w5 w6:PV) (ok:Bool) (F:PF) (H:PH) (hv:iR F f w3 w4 w5 w6 .nils ok)
  (h3:Seen 1 w3 (eD (f.laws.map cL.name))) (h4:Seen 1 w4 (eD (f.models.map cT.name))) (h5:Seen 1 w5 (eD (MM f))) (h6:bB H 1 w6 (eD (f.policies.map cO.name))) :
  aD.wp C akE (abN (ok&&f.volumes.all (lS f)&&rS f)) F H:=by
 unfold akE
 simp -implicitDefEqProofs only[go_sem,γ,QL,hv.a1,bgR]
 refine nH h6 fun v1 hv1 F1 H1 ht hp=>?_
 refine aJX L f hs.volumes hs.policies ok w3 w4 w5 v1 _ F1 H1 ⟨hp 1 _ (by simp -implicitDefEqProofs only[go_sem,γ,hv.a1]) fun _ _ _=>rfl,hp 3 _ (by simp -implicitDefEqProofs only[go_sem,γ,hv.a3]) h3.pure,hp 4 _ (by simp -implicitDefEqProofs only[go_sem,γ,hv.a4]) h4.pure,hp 5 _ (by simp -implicitDefEqProofs only[go_sem,γ,hv.a5]) h5.pure,ht 6 (by simp -implicitDefEqProofs only[go_sem,γ,hv.a6]),hp 7 _ (by simp -implicitDefEqProofs only[go_sem,γ,hv.a7]) fun _ _ _=>rfl,hp 8 _ (by simp -implicitDefEqProofs only[go_sem,γ,hv.a8]) fun _ _ _=>rfl⟩
  (hp 195 _ rfl fun _ _ _=>rfl) (hp 196 _ rfl fun _ _ _=>rfl) (hp 197 _ rfl fun _ _ _=>rfl) fun v F' H' hv' hO=>?_
 have e:=aVG L f hs w3 w4 w5 v1 v _ F' H' hv' h3 h4 h5 hv1 hO
 simp only[aD.wp,go_sem] at e
 simp -implicitDefEqProofs only[go_sem]
 exact e
theorem a0X {C:Ctx} (L:iJ C) (f:aH) (hf:f.Ok) (hs:Small f) (w3 w4 w5:PV) (ok:Bool) (F:PF) (H:PH) (hv:iR F f w3 w4 w5 .nils .nils ok)
  (h3:Seen 1 w3 (eD (f.laws.map cL.name))) (h4:Seen 1 w4 (eD (f.models.map cT.name))) (h5:bB H 1 w5 (eD (MM f))) :
  aD.wp C akD (abN (ok&&f.policies.all (iD f.models.length)&&f.volumes.all (lS f)&&rS f)) F H:=by
 unfold akD
 simp -implicitDefEqProofs only[go_sem,δ,γ,θ,QI,hv.a1,bgR]
 refine nH h5 fun v1 hv1 F1 H1 ht hp=>?_
 refine aJW L f hf hs.policies hs.models ok w3 w4 v1 .nils _ F1 H1 ⟨hp 1 _ (by simp -implicitDefEqProofs only[go_sem,γ,hv.a1]) fun _ _ _=>rfl,hp 3 _ (by simp -implicitDefEqProofs only[go_sem,γ,hv.a3]) h3.pure,hp 4 _ (by simp -implicitDefEqProofs only[go_sem,γ,hv.a4]) h4.pure,ht 5 (by simp -implicitDefEqProofs only[go_sem,γ,hv.a5]),hp 6 _ (by simp -implicitDefEqProofs only[go_sem,γ,hv.a6]) fun _ _ _=>rfl,hp 7 _ (by simp -implicitDefEqProofs only[go_sem,γ,hv.a7]) fun _ _ _=>rfl,hp 8 _ (by simp -implicitDefEqProofs only[go_sem,γ,hv.a8]) fun _ _ _=>rfl⟩
  (hp 174 _ rfl fun _ _ _=>rfl) (hp 175 _ rfl fun _ _ _=>rfl) (hp 176 _ rfl fun _ _ _=>rfl) fun v F' H' hv' hO=>?_
 simp -implicitDefEqProofs only[go_sem]
 exact a0Y L f hs w3 w4 v1 v _ F' H' hv' h3 h4 hv1 hO
theorem a0W {C:Ctx} (L:iJ C) (f:aH) (hf:f.Ok) (hs:Small f) (w3 w4 w5:PV) (ok:Bool) (F:PF) (H:PH) (hv:iR F f w3 w4 w5 .nils .nils ok)
  (h3:Seen 1 w3 (eD (f.laws.map cL.name))) (h4:Seen 1 w4 (eD (f.models.map cT.name))) (h5:bB H 1 w5 (eD ((f.domains.drop 1).map cK.name))) :
  aD.wp C akC (abN (ok&&f.drives.all (iO f)&&f.policies.all (iD f.models.length)&&f.volumes.all (lS f)&&rS f)) F H:=by
 unfold akC
 simp -implicitDefEqProofs only[go_sem,δ,γ,θ,QG,hv.a1,bgR]
 refine aJV L f ((f.domains.drop 1).map cK.name) (by have:=hs.domains; simp; omega) hs.drives hs.models hs.domains ok w3 w4 w5 .nils .nils _ _ H ⟨by simp -implicitDefEqProofs only[go_sem,γ,hv.a1],by simp -implicitDefEqProofs only[go_sem,γ,hv.a3],by simp -implicitDefEqProofs only[go_sem,γ,hv.a4],by simp -implicitDefEqProofs only[go_sem,γ,hv.a5],by simp -implicitDefEqProofs only[go_sem,γ,hv.a6],by simp -implicitDefEqProofs only[go_sem,γ,hv.a7],by simp -implicitDefEqProofs only[go_sem,γ,hv.a8]⟩ h5
  rfl rfl rfl fun v F' H' hv' hO=>?_
 simp -implicitDefEqProofs only[go_sem]
 exact a0X L f hf hs w3 w4 v _ F' H' hv' h3 h4 hO
theorem a0V {C:Ctx} (L:iJ C) (f:aH) (hf:f.Ok) (hs:Small f) (hd:0<f.domains.length) (w3 w4:PV) (ok:Bool) (F:PF) (H:PH) (hv:iR F f w3 w4 .nils .nils .nils ok)
  (h3:Seen 1 w3 (eD (f.laws.map cL.name))) (h4:bB H 1 w4 (eD (f.models.map cT.name))) :
  aD.wp C akB (abN (ok&&f.drives.all (iO f)&&f.policies.all (iD f.models.length)&&f.volumes.all (lS f)&&rS f)) F H:=by
 unfold akB
 have hsl:(1:Int)≤(f.domains.length:Nat):=by omega
 have hsd:=hs.domains
 have hdrop:((f.domains.map cK.cells).take f.domains.length).drop 1=(f.domains.drop 1).map cK.cells:=by
  rw[bhF (by simp),List.map_drop]
 simp -implicitDefEqProofs only[go_sem,κ,ν,δ,γ,θ,reduceCtorEq,QF,hv.a1,bgR,hsl,Int.toNat_natCast,hdrop]
 refine nH h4 fun v1 hv1 F1 H1 ht hp=>?_
 refine aJU L f (f.domains.drop 1) (by simp; omega) ok w3 v1 .nils .nils _ F1 H1 ⟨hp 1 _ (by simp -implicitDefEqProofs only[go_sem,γ,hv.a1]) fun _ _ _=>rfl,hp 3 _ (by simp -implicitDefEqProofs only[go_sem,γ,hv.a3]) h3.pure,ht 4 (by simp -implicitDefEqProofs only[go_sem,γ,hv.a4]),hp 5 _ (by simp -implicitDefEqProofs only[go_sem,γ,hv.a5]) fun _ _ _=>rfl,hp 6 _ (by simp -implicitDefEqProofs only[go_sem,γ,hv.a6]) fun _ _ _=>rfl,hp 7 _ (by simp -implicitDefEqProofs only[go_sem,γ,hv.a7]) fun _ _ _=>rfl,hp 8 _ (by simp -implicitDefEqProofs only[go_sem,γ,hv.a8]) fun _ _ _=>rfl⟩
  (hp 119 _ rfl fun _ _ _=>rfl) (hp 120 _ rfl fun _ _ _=>rfl) (hp 121 _ rfl fun _ _ _=>rfl) fun v F' H' hv' hO=>?_
 simp -implicitDefEqProofs only[go_sem]
 exact a0W L f hf hs w3 v1 v _ F' H' hv' h3 hv1 hO
theorem a0U {C:Ctx} (L:iJ C) (f:aH) (hf:f.Ok) (hs:Small f) (hd:0<f.domains.length) (w3:PV) (ok:Bool) (F:PF) (H:PH) (hv:iR F f w3 .nils .nils .nils .nils ok)
  (h3:bB H 1 w3 (eD (f.laws.map cL.name))) :
  aD.wp C akA (abN (ok&&f.models.all (kC f)&&f.drives.all (iO f)&&f.policies.all (iD f.models.length)&&f.volumes.all (lS f)&&rS f)) F H:=by
 unfold akA
 simp -implicitDefEqProofs only[go_sem,δ,γ,θ,QD,hv.a1,bgR]
 refine nH h3 fun v1 hv1 F1 H1 ht hp=>?_
 refine aJT L f hs.models hs.laws ok v1 .nils .nils .nils _ F1 H1 ⟨hp 1 _ (by simp -implicitDefEqProofs only[go_sem,γ,hv.a1]) fun _ _ _=>rfl,ht 3 (by simp -implicitDefEqProofs only[go_sem,γ,hv.a3]),hp 4 _ (by simp -implicitDefEqProofs only[go_sem,γ,hv.a4]) fun _ _ _=>rfl,hp 5 _ (by simp -implicitDefEqProofs only[go_sem,γ,hv.a5]) fun _ _ _=>rfl,hp 6 _ (by simp -implicitDefEqProofs only[go_sem,γ,hv.a6]) fun _ _ _=>rfl,hp 7 _ (by simp -implicitDefEqProofs only[go_sem,γ,hv.a7]) fun _ _ _=>rfl,hp 8 _ (by simp -implicitDefEqProofs only[go_sem,γ,hv.a8]) fun _ _ _=>rfl⟩
  (hp 85 _ rfl fun _ _ _=>rfl) (hp 86 _ rfl fun _ _ _=>rfl) (hp 87 _ rfl fun _ _ _=>rfl) fun v F' H' hv' hO=>?_
 simp -implicitDefEqProofs only[go_sem]
 exact a0V L f hf hs hd v1 v _ F' H' hv' hv1 hO
theorem a0T {C:Ctx} (L:iJ C) (f:aH) (hf:f.Ok) (hs:Small f) (hd:0<f.domains.length) (F:PF) (H:PH) (hv:iR F f .nils .nils .nils .nils .nils true) :
  aD.wp C aNI (abN (f.laws.all oH&&f.models.all (kC f)&&f.drives.all (iO f)&&f.policies.all (iD f.models.length)&&f.volumes.all (lS f)&&rS f)) F H:=by
 unfold aNI
 simp -implicitDefEqProofs only[go_sem,δ,γ,θ,ZW,hv.a1,bgR]
 refine aJS L f hf hs.laws .nils .nils .nils .nils _ _ H ⟨by simp -implicitDefEqProofs only[go_sem,γ,hv.a1],by simp -implicitDefEqProofs only[go_sem,γ,hv.a3],by simp -implicitDefEqProofs only[go_sem,γ,hv.a4],by simp -implicitDefEqProofs only[go_sem,γ,hv.a5],by simp -implicitDefEqProofs only[go_sem,γ,hv.a6],by simp -implicitDefEqProofs only[go_sem,γ,hv.a7],by simp -implicitDefEqProofs only[go_sem,γ,hv.a8]⟩ rfl rfl rfl fun v F' H' hv' hO=>?_
 simp -implicitDefEqProofs only[go_sem]
 exact a0U L f hf hs hd v _ F' H' hv' hO
theorem a0R {C:Ctx} (L:iJ C) (f:aH) (hf:f.Ok):HI.wp C (aX aoP.res (bY (.int .i64 (FB f)))) (PF.args [.agg f.cells]) .nil:=by
 have he:dC f=(mL f&&lY f&&(f.laws.all oH&&f.models.all (kC f)&&f.drives.all (iO f)&&f.policies.all (iD f.models.length)&&f.volumes.all (lS f))&&rS f):=rfl
 simp -implicitDefEqProofs only[go_sem,δ,γ,θ,HI,aEB,aEC,aoP]
 refine aB (L.inn f.extent 1 4) rfl ?_
 have bad:∀ (F:PF) (H:PH),dC f=false→F 2=some (.int .i64 1)→aX [.tmp 2] (bY (.int .i64 (FB f))) .ret F H:=fun F H h1 h2=>fH h2 (aNJ h1).symm
 cases e0:within f.extent 1 4 with
 | false =>
  have:mL f=false:=by simp[mL,e0]
  simp -implicitDefEqProofs only[go_sem,γ,bhK,mW]
  exact bad _ _ (by rw[he,this]; simp only[bhE]) rfl
 | true =>
  by_cases s1:f.laws.length≤4
  ·have s1':¬ ((f.laws.length:Nat):Int)>4:=by omega
   by_cases s2:f.models.length≤4
   ·have s2':¬ ((f.models.length:Nat):Int)>4:=by omega
    by_cases s3:f.domains.length≤40
    ·have s3':¬ ((f.domains.length:Nat):Int)>40:=by omega
     by_cases s4:f.drives.length≤24
     ·have s4':¬ ((f.drives.length:Nat):Int)>24:=by omega
      by_cases s5:f.policies.length≤4
      ·have s5':¬ ((f.policies.length:Nat):Int)>4:=by omega
       by_cases s6:f.volumes.length≤12
       ·have s6':¬ ((f.volumes.length:Nat):Int)>12:=by omega
        have hsz:=aBA ⟨s1,s2,s3,s4,s5,s6⟩
        rw[e0] at hsz
        simp -implicitDefEqProofs only[go_sem,δ,γ,θ,reduceCtorEq,bgZ,bgR,s1',s2',s3',s4',s5',s6']
        refine aB (L.doms f hf) rfl ?_
        cases e1:lY f with
        | false =>
         simp -implicitDefEqProofs only[go_sem,γ,reduceCtorEq,bhK,mW]
         exact bad _ _ (by rw[he,e1]; simp only[biI,bhE]) rfl
        | true =>
         have hd:0<f.domains.length:=by
          rcases biW f.domains.length with h | h
          ·have:f.domains=[]:=List.eq_nil_of_length_eq_zero h
           rw[lY,this] at e1
           cases e1
          ·exact h
         have hz:FB f=bI (f.laws.all oH&&f.models.all (kC f)&&f.drives.all (iO f)&&f.policies.all (iD f.models.length)&&f.volumes.all (lS f)&&rS f):=by
          rw[FB,he,hsz,e1]; rfl
         rw[hz]
         simp -implicitDefEqProofs only[go_sem,γ,reduceCtorEq,bgZ,aED,aEE]
         have e:=fun F H hv=>a0T L f hf ⟨s1,s2,s3,s4,s5,s6⟩ hd F H hv
         simp only[aNI,akA,akB,akC,akD,akE,aD.wp,go_sem] at e
         exact e _ _ ⟨by simp -implicitDefEqProofs only[go_sem,γ],by simp -implicitDefEqProofs only[go_sem,γ],by simp -implicitDefEqProofs only[go_sem,γ],by simp -implicitDefEqProofs only[go_sem,γ],by simp -implicitDefEqProofs only[go_sem,γ],by simp -implicitDefEqProofs only[go_sem,γ],by simp -implicitDefEqProofs only[go_sem,γ]⟩
       ·have s6':((f.volumes.length:Nat):Int)>12:=by omega
        simp -implicitDefEqProofs only[go_sem,δ,γ,θ,reduceCtorEq,bgZ,bgR,s1',s2',s3',s4',s5',s6',mW]
        exact bad _ _ (by rw[he,kX (by omega)]; simp only[bhE]) rfl
      ·have s5':((f.policies.length:Nat):Int)>4:=by omega
       simp -implicitDefEqProofs only[go_sem,δ,γ,θ,reduceCtorEq,bgZ,bgR,s1',s2',s3',s4',s5',mW]
       exact bad _ _ (by rw[he,kX (by omega)]; simp only[bhE]) rfl
     ·have s4':((f.drives.length:Nat):Int)>24:=by omega
      simp -implicitDefEqProofs only[go_sem,δ,γ,θ,reduceCtorEq,bgZ,bgR,s1',s2',s3',s4',mW]
      exact bad _ _ (by rw[he,kX (by omega)]; simp only[bhE]) rfl
    ·have s3':((f.domains.length:Nat):Int)>40:=by omega
     simp -implicitDefEqProofs only[go_sem,δ,γ,θ,reduceCtorEq,bgZ,bgR,s1',s2',s3',mW]
     exact bad _ _ (by rw[he,kX (by omega)]; simp only[bhE]) rfl
   ·have s2':((f.models.length:Nat):Int)>4:=by omega
    simp -implicitDefEqProofs only[go_sem,δ,γ,θ,reduceCtorEq,bgZ,bgR,s1',s2',mW]
    exact bad _ _ (by rw[he,kX (by omega)]; simp only[bhE]) rfl
  ·have s1':((f.laws.length:Nat):Int)>4:=by omega
   simp -implicitDefEqProofs only[go_sem,δ,γ,θ,reduceCtorEq,bgZ,bgR,s1',mW]
   exact bad _ _ (by rw[he,kX (by omega)]; simp only[bhE]) rfl
end Go.PM
namespace Go.PM
open Go Go.Na
def lvl (f:aH) (i:Nat):Int:=(f.domains.map cK.level).getD i 0
def par (f:aH) (i:Nat):Int:=(f.domains.map cK.parent).getD i 0
def SB (f:aH) (i:Nat):Nat:=(par f i).toNat
def fG (f:aH) (d:Nat):Nat:=((f.drives.map cP.machine).getD d 0).toNat
def mdl (f:aH) (d:Nat):Nat:=((f.drives.map cP.model).getD d 0).toNat
def ext (f:aH) (d:Nat):Int:=(f.models.map cT.extents).getD (mdl f d) 0
def JF (f:aH) (v:Nat):Nat:=((f.volumes.map fK.policy).getD v 0).toNat
def a7Z:cO:=⟨[],0,0,0,0,0,0,0,0,[],[],⟨false,[],[]⟩,⟨false,[],[]⟩⟩
def gC (f:aH) (v:Nat):cO:=f.policies.getD (JF f v) a7Z
def upN (f:aH):Nat→Nat→Nat
 | 0,i=>i
 | k+1,i=>SB f (upN f k i)
theorem getD_at {α β:Type} {l:List α} {g:α→β} {i:Nat} {b:β} (h:i<l.length):(l.map g).getD i b=g l[i]:=by
 simp[bhN,h]
structure VF (f:aH):Prop where
 small:Small f
 root:0<f.domains.length∧lvl f 0=0∧par f 0=-1
 dom:∀ i,0<i→i<f.domains.length→0≤par f i∧SB f i<i∧lvl f (SB f i)=lvl f i-1∧1≤lvl f i∧lvl f i≤4
 drive:∀ d (h:d<f.drives.length),0≤(f.drives[d]).model∧mdl f d<f.models.length∧0≤(f.drives[d]).machine∧fG f d<f.domains.length∧lvl f (fG f d)=4
 policy:∀ p∈f.policies,1≤p.k∧p.k≤6∧0≤p.m∧p.m≤4∧p.k+p.m≤8∧p.s0=0∧(∀ l,0≤p.spread l∧p.spread l≤8)∧∀ m∈p.models,0≤m∧m<f.models.length
 volume:∀ v (h:v<f.volumes.length),0≤(f.volumes[v]).policy∧JF f v<f.policies.length
 model:∀ m∈f.models,1≤m.extents∧m.extents≤16
theorem a2G {p:cO} {n:Nat} (h:iD n p=true):∀ m∈p.models,0≤m∧m<n:=by
 intro m hm
 simp only[iD,bhO] at h
 obtain⟨i,hi,rfl⟩:=biH hm
 have:=biC.1 h.2 i (biY.2 hi)
 rw[bhO] at this
 have h1:=within_iff.1 this.1
 simp only[bhN,bhD hi,bjK] at h1
 omega
theorem ZF {x:Int} (h1:1≤x) (h2:x≤4):IntKind.i64.wrap (x-1)=x-1:=wrap_i64 (by omega) (by omega)
theorem VF.of {f:aH} (h:dC f=true):VF f:=by
 simp only[dC,bhO] at h
 obtain⟨⟨⟨hs,hd⟩,⟨⟨⟨hlaw,hmod⟩,hdrv⟩,hpol⟩,hvol⟩,-⟩:=h
 simp only[mL,bhO,decide_eq_true_eq] at hs
 obtain⟨⟨⟨⟨⟨⟨s0,s1⟩,s2⟩,s3⟩,s4⟩,s5⟩,s6⟩:=hs
 cases hdm:f.domains with
 | nil=>rw[lY,hdm] at hd; cases hd
 | cons r t =>
  rw[lY,hdm] at hd
  simp only[LM,bhO,decide_eq_true_eq] at hd
  obtain⟨⟨⟨⟨⟨⟨r1,r2⟩,r3⟩,r4⟩,r5⟩,r6⟩,hall⟩:=hd
  have hlen:f.domains.length=t.length+1:=by rw[hdm]; rfl
  refine⟨⟨s1,s2,s3,s4,s5,s6⟩,⟨by omega,by rw[lvl,hdm]; exact r2,by rw[par,hdm]; exact r3⟩,?_,?_,?_,?_,?_⟩
  ·intro i h0 hi
   obtain⟨k,rfl⟩:∃ k,i=k+1:=⟨i-1,by omega⟩
   have hk:k<t.length:=by omega
   have:=biC.1 hall k (biY.2 hk)
   rw[bhD hk] at this
   simp only[PL,bhO,decide_eq_true_eq] at this
   obtain⟨⟨⟨⟨d1,d2⟩,d3⟩,d4⟩,d5⟩:=this
   obtain⟨p0,p1⟩:=within_iff.1 d1
   obtain⟨l1,l4⟩:=within_iff.1 d3
   have e1:par f (k+1)=(t[k]).parent:=by rw[par,hdm]; simp[bhN,hk]
   have e2:lvl f (k+1)=(t[k]).level:=by rw[lvl,hdm]; simp[bhN,hk]
   rw[ZF l1 l4] at d2
   have e3:lvl f (t[k]).parent.toNat=(t[k]).level-1:=d2
   refine⟨by rw[e1]; exact p0,?_,?_,by rw[e2]; exact l1,by rw[e2]; exact l4⟩
   ·rw[SB,e1]; omega
   ·rw[SB,e1,e2]; exact e3
  ·intro d hd
   have:=biC.1 hdrv _ (bgY hd)
   simp only[iO,bhO,decide_eq_true_eq] at this
   obtain⟨⟨d1,d2⟩,d3⟩:=this
   have a1:=within_iff.1 d1
   have a2:=within_iff.1 d2
   have e1:mdl f d=(f.drives[d]).model.toNat:=by rw[mdl,getD_at hd]
   have e2:fG f d=(f.drives[d]).machine.toNat:=by rw[fG,getD_at hd]
   refine⟨a1.1,by rw[e1]; omega,a2.1,by rw[e2]; omega,by rw[e2]; exact d3⟩
  ·intro p hp
   have h1:=biC.1 hpol p hp
   have h2:=a2G h1
   simp only[iD,RX,bhO,decide_eq_true_eq,List.all_cons,List.all_nil,bjL] at h1
   obtain⟨⟨⟨⟨⟨⟨⟨⟨k1,m1⟩,km⟩,q1⟩,z0⟩,sp⟩,-⟩,-⟩,-⟩:=h1
   obtain⟨g0,g1,g2,g3,g4⟩:=sp
   have b1:=within_iff.1 k1
   have b2:=within_iff.1 m1
   have b3:=within_iff.1 g0
   have b4:=within_iff.1 g1
   have b5:=within_iff.1 g2
   have b6:=within_iff.1 g3
   have b7:=within_iff.1 g4
   refine⟨b1.1,b1.2,b2.1,b2.2,km,z0,fun l=>?_,h2⟩
   unfold cO.spread
   split<;>omega
  ·intro v hv
   have:=biC.1 hvol _ (bgY hv)
   have a1:=within_iff.1 this
   have e1:JF f v=(f.volumes[v]).policy.toNat:=by rw[JF,getD_at hv]
   exact⟨a1.1,by rw[e1]; omega⟩
  ·intro m hm
   have:=biC.1 hmod m hm
   simp only[kC,bhO] at this
   exact within_iff.1 this.1.1
theorem YQ {f:aH} (h:VF f) {d:Nat} (hd:d<f.drives.length):∀ {k:Nat},k≤4→upN f k (fG f d)<f.domains.length∧lvl f (upN f k (fG f d))=4-(k:Int)
 | 0,_=>⟨(h.drive d hd).2.2.2.1,by rw[upN,(h.drive d hd).2.2.2.2]; rfl⟩
 | k+1,hk=>by
  obtain⟨h1,h2⟩:=YQ h hd (k:=k) (by omega)
  have hne:0<upN f k (fG f d):=by
   rcases biW (upN f k (fG f d)) with e | e
   ·rw[e,h.root.2.1] at h2; omega
   ·exact e
  obtain⟨g1,g2,g3,g4,g5⟩:=h.dom _ hne h1
  refine⟨by rw[upN]; omega,?_⟩
  rw[upN,g3,h2]; omega
def iK (f:aH) (d:Nat) (level:Int):Nat:=upN f (4-level.toNat) (fG f d)
def fS (f:aH) (v:Nat):Int:=(gC f v).k+(gC f v).m
end Go.PM
namespace Go.PM
open Go Go.Na
def aC (l:List Nat) (n a:Nat):Nat × Nat:=if l.length≤a∨n<2 then (0,a) else (l.getD a 0%n,a+1)
theorem bM (l:List Nat) {n:Nat} (h:0<n) (a:Nat):(aC l n a).1<n:=by
 unfold aC
 split
 ·exact h
 ·exact bhX _ h
theorem bC (l:List Nat) (n:Nat) {a:Nat} (h:a≤l.length):(aC l n a).2≤l.length:=by
 unfold aC
 split
 ·exact h
 ·simp only; omega
def eJ (l:List Nat) (a:Nat):RF × Nat :=
 let x:=aC l 6 a
 let y:=aC l 8 x.2
 (mkT ((1+x.1:Nat):Int) ((1+y.1:Nat):Int),y.2)
abbrev gZ:RF:=mkT 0 1
def gB (l:List Nat) (i j a:Nat):RF × Nat :=
 if j=i+1 then eJ l a
 else if j=i then (gZ,a)
 else let t:=aC l 3 a
  if t.1=0 then eJ l t.2 else (gZ,t.2)
def cS (l:List Nat) (i a:Nat):Nat→List RF × Nat
 | 0=>([],a)
 | j+1=>let s:=cS l i a j
  let z:=gB l i j s.2
  (s.1++[z.1],z.2)
structure xA where
 start:List RF
 exit:List RF
 rates:List (List RF)
 left:Nat
 a:Nat
def cR (l:List Nat) (n i:Nat) (s:xA):Nat × Nat:=if i+1<n then aC l (s.left+1) s.a else (s.left,s.a)
def dX (l:List Nat) (n i a:Nat):RF × Nat :=
 let e:=eJ l a
 if i+1<n then (let t:=aC l 3 e.2; (if t.1=0 then gZ else e.1,t.2)) else e
def eS (l:List Nat) (n a:Nat):Nat→xA
 | 0=>⟨[],[],[],8,a⟩
 | i+1=>let s:=eS l n a i
  let k:=cR l n i s
  let e:=dX l n i k.2
  let r:=cS l i e.2 n
  ⟨s.start++[mkT (k.1:Nat) 8],s.exit++[e.1],s.rates++[r.1],s.left-k.1,r.2⟩
def nJ (l:List Nat) (eA a:Nat):cL × Nat :=
 let t:=aC l eA a
 let s:=eS l (1+t.1) t.2 (1+t.1)
 (⟨[],s.start,s.rates,s.exit⟩,s.a)
def gX (l:List Nat) (a:Nat):Nat→List RF × Nat
 | 0=>([],a)
 | k+1=>let s:=gX l a k
  let z:=eJ l s.2
  (s.1++[z.1],z.2)
abbrev bO (n:Nat):List UInt8:=Lib.decDigits n
def fL (l:List Nat) (a:Nat):Nat→List cL × Nat
 | 0=>([],a)
 | k+1=>let s:=fL l a k
  let z:=nJ l 2 s.2
  (s.1++[{ z.1 with name:=[108,97,119]++bO k }],z.2)
def dK (l:List Nat) (laws a:Nat):Nat→List cT × Nat
 | 0=>([],a)
 | k+1=>let s:=dK l laws a k
  let x:=aC l 4 s.2
  let y:=aC l 8 x.2
  let z:=aC l laws y.2
  (s.1++[⟨[109]++bO k,(1+x.1:Nat),(1+y.1:Nat),(z.1:Nat)⟩],z.2)
structure GS where
 doms:List cK
 drvs:List cP
 a:Nat
def gO (l:List Nat) (mc drives domain:Nat) (s:GS):Nat→GS
 | 0=>s
 | i+1=>let s:=gO l mc drives domain s i
  if s.drvs.length<drives then
   let t:=aC l mc s.a
   { s with drvs:=s.drvs++[⟨[100]++bO s.drvs.length,(t.1:Nat),(domain:Nat)⟩],a:=t.2 }
  else s
def jD (level:Nat):UInt8:=match level with
 | 0=>45
 | 1=>115
 | 2=>114
 | 3=>107
 | _=>109
def kR (l:List Nat) (level domain:Nat) (s:GS):GS :=
 let u:=aC l 16 s.a
 let t:=aC l 3 u.2
 let k:=aC l 6 t.2
 let sh:RF × Nat:=if t.1=0 then (mkT 1 ((2+k.1:Nat):Int),k.2) else (gZ,t.2)
 { s with doms:=s.doms++[⟨[jD level]++bO s.doms.length,(level:Nat),(domain:Nat),(1+u.1:Nat),sh.1⟩],a:=sh.2 }
def mV (drives:Nat) (s:GS):Bool:=decide (drives≤s.drvs.length)||decide (35≤s.doms.length)
def fB (l:List Nat) (level drives domain:Nat) (rec:Nat→GS→GS) (s:GS):Nat→GS
 | 0=>s
 | i+1=>let s:=fB l level drives domain rec s i
  if mV drives s then s else (let s':=kR l level domain s; rec (s'.doms.length-1) s')
def dU (l:List Nat) (mc drives:Nat):Nat→Nat→GS→GS
 | 0,domain,s=>let t:=aC l 2 s.a
  gO l mc drives domain { s with a:=t.2 } (1+t.1)
 | k+1,domain,s=>let t:=aC l 2 s.a
  fB l (4-k) drives domain (dU l mc drives k) { s with a:=t.2 } (if 4-k=2 then 1 else 1+t.1)
def kE:cK:=⟨[],0,-1,0,gZ⟩
def fM (l:List Nat) (a:Nat):Int × Nat :=
 let t:=aC l 3 a
 let k:=aC l 3 t.2
 if t.1=0 then ((1+k.1:Nat),k.2) else (0,t.2)
def jW (l:List Nat) (models i a:Nat):cO × Nat :=
 let k:=aC l 2 a
 let m:=aC l 3 k.2
 let h:=aC l 4 m.2
 let q:=aC l (m.1+1) h.2
 let r:=gX l q.2 (max m.1 1)
 let g:=aC l 9 r.2
 let s1:=fM l g.2
 let s2:=fM l s1.2
 let s3:=fM l s2.2
 let s4:=fM l s3.2
 let f:=aC l models s4.2
 let b:=aC l 2 f.2
 let ms:List Int × Nat:=if 1<models then (if b.1=0 then ([(f.1:Int),1-(f.1:Int)],b.2) else ([(f.1:Int)],b.2)) else ([(f.1:Int)],f.2)
 (⟨[112]++bO i,(1+k.1:Nat),(m.1:Nat),(1+k.1+q.1:Nat),0,s1.1,s2.1,s3.1,s4.1,ms.1,r.1,mkT (g.1:Nat) 8,mkT ((1+h.1:Nat):Int) 1⟩,ms.2)
def cU (l:List Nat) (models a:Nat):Nat→List cO × Nat
 | 0=>([],a)
 | k+1=>let s:=cU l models a k
  let z:=jW l models k s.2
  (s.1++[z.1],z.2)
def dM (l:List Nat) (pols a:Nat):Nat→List fK × Nat
 | 0=>([],a)
 | k+1=>let s:=dM l pols a k
  let z:=aC l pols s.2
  (s.1++[⟨[118]++bO k,(z.1:Nat)⟩],z.2)
def fD (l:List Nat) (drives volumes a:Nat):aH × Nat :=
 let e:=aC l 2 a
 let lw:=aC l 2 e.2
 let laws:=fL l lw.2 (1+lw.1)
 let md:=aC l 2 laws.2
 let models:=dK l (1+lw.1) md.2 (1+md.1)
 let g:=dU l (1+md.1) drives 4 0 ⟨[kE],[],models.2⟩
 let pl:=aC l 2 g.a
 let pols:=cU l (1+md.1) pl.2 (1+pl.1)
 let vo:=aC l (volumes+1) pols.2
 let vols:=dM l (1+pl.1) vo.2 vo.1
 (⟨(1+e.1:Nat),laws.1,models.1,g.doms,g.drvs,pols.1,vols.1⟩,vols.2)
def kD (l:List Nat) (a:Nat):Nat→List Int × Nat
 | 0=>([],a)
 | k+1=>let s:=kD l a k
  let z:=aC l 7 s.2
  (s.1++[(z.1:Int)-1],z.2)
def jS (l:List Nat) (f:aH) (a:Nat):List Int × Nat :=
 let t:=aC l 4 a
 if t.1=0 then ([],t.2) else kD l t.2 f.drives.length
def lZ (l:List Nat) (drives at_ i a:Nat):Int × Nat :=
 if drives=0 then (-1,a) else
  let t:=aC l 6 a
  if t.1=0 then (let z:=aC l drives t.2; ((z.1:Int),z.2))
  else if t.1=1 then (let z:=aC l (drives+1) t.2; ((z.1:Int)-1,z.2))
  else (((at_+i)%drives:Nat),t.2)
def gY (l:List Nat) (drives at_ a:Nat):Nat→List Int × Nat
 | 0=>([],a)
 | i+1=>let s:=gY l drives at_ a i
  let z:=lZ l drives at_ i s.2
  (s.1++[z.1],z.2)
def cG (l:List Nat) (f:aH) (a:Nat):Nat→List (List Int) × Nat
 | 0=>([],a)
 | v+1=>let s:=cG l f a v
  let t:=aC l (f.drives.length+1) s.2
  let r:=gY l f.drives.length t.1 t.2 (fS f v).toNat
  (s.1++[r.1],r.2)
end Go.PM
namespace Go.PM
open Go Go.Na
theorem a1I (a b:Nat):mkT (a:Int) (b:Int)=⟨false,aG (a/bgS a b),aG (b/bgS a b)⟩:=by
 have h1:decide ((a:Int)<0)=false:=decide_eq_false (by omega)
 have h2:decide ((b:Int)<0)=false:=decide_eq_false (by omega)
 unfold mkT xN FV.rf
 rw[h1,h2,Int.natAbs_natCast,Int.natAbs_natCast]
 rfl
structure SmF (x:RF) (p q:Nat):Prop where
 eq:x=⟨false,aG (p/bgS p q),aG (q/bgS p q)⟩
 a:p≤64
 b:q≤64
 pos:0<q
theorem SmF.mk' {a b:Nat} (ha:a≤64) (hb:b≤64) (h:0<b):SmF (mkT (a:Int) (b:Int)) a b:=⟨a1I a b,ha,hb,h⟩
theorem SmF.num {x:RF} {a b:Nat} (h:SmF x a b):val x.num=a/bgS a b:=by rw[h.eq,aY]
theorem SmF.den {x:RF} {a b:Nat} (h:SmF x a b):val x.den=b/bgS a b:=by rw[h.eq,aY]
theorem SmF.v {x:RF} {a b:Nat} (h:SmF x a b):x.v=(false,a/bgS a b,b/bgS a b):=by
 unfold RF.v
 rw[h.num,h.den,h.eq]
theorem SmF.atT {x:RF} {a b:Nat} (_:SmF x a b):a/bgS a b≤a:=bjO ..
theorem SmF.alH {x:RF} {a b:Nat} (_:SmF x a b):b/bgS a b≤b:=bjO ..
theorem SmF.den_pos {x:RF} {a b:Nat} (h:SmF x a b):0<b/bgS a b:=Nat.div_pos (Nat.le_of_dvd h.pos (Nat.gcd_dvd_right a b)) (Nat.gcd_pos_of_pos_right a h.pos)
theorem tY {n:Nat} (h:n≤4096):cA n≤32:=(jV n 32).2 (by omega)
theorem ayP {n:Nat} (h:0<n):0<cA n:=by
 rcases biW (cA n) with e | e
 ·rw[gT] at e; omega
 ·exact e
theorem qM {a b:Nat} (ha:a≤4096) (hb:b≤4096) (h:0<b):dJ a b=true:=by
 have h1:=tY ha
 have h2:=tY hb
 have h3:=ayP h
 unfold dJ
 rw[decide_eq_true h3,decide_eq_true (show cA b≤4096 by omega),decide_eq_true (show cA a≤4096 by omega)]
 rfl
theorem aEL {n:Bool} {a b:Nat} (ha:a≤4096) (hb:b≤4096):jU n a b=.ok (n&&decide (a/bgS a b≠0),a/bgS a b,b/bgS a b):=by
 have h1:=tY (bjI (bjO a (bgS a b)) ha)
 have h2:=tY (bjI (bjO b (bgS a b)) hb)
 unfold jU
 rw[if_neg (by omega)]
theorem SmF.lim {x:RF} {a b:Nat} (h:SmF x a b):fF x=true:=by
 have h1:=h.atT
 have h2:=h.alH
 have h3:=h.den_pos
 have:=h.a
 have:=h.b
 have hn:x.neg=false:=by rw[h.eq]
 unfold fF yP
 rw[h.num,h.den,hn,qM (by omega) (by omega) h3,if_pos rfl,aEL (by omega) (by omega)]
 have e1:=bjO (a/bgS a b) (bgS (a/bgS a b) (b/bgS a b))
 have e2:=bjO (b/bgS a b) (bgS (a/bgS a b) (b/bgS a b))
 simp only[bhE,bhK,bhP,bhO,decide_eq_true_eq]
 exact⟨tY (by omega),tY (by omega)⟩
theorem SmF.lW {x:RF} {a b:Nat} (h:SmF x a b) (ha:0<a):bR x=true:=by
 unfold bR
 rw[h.num]
 exact decide_eq_true (Nat.ne_of_gt (Nat.div_pos (Nat.le_of_dvd ha (Nat.gcd_dvd_left a b)) (Nat.gcd_pos_of_pos_right a h.pos)))
theorem SmF.zero {x:RF} {b:Nat} (h:SmF x 0 b):bR x=false:=by
 unfold bR
 rw[h.num,Nat.zero_div]
 rfl
theorem SmF.one {x:RF} {a b:Nat} (h:SmF x a b) (hab:a≤b):RZ x=true:=by
 have h1:=h.atT
 have h2:=h.alH
 have h3:=h.den_pos
 have:=h.a
 have:=h.b
 have hn:x.neg=false:=by rw[h.eq]
 unfold RZ
 rw[h.num,h.den,hn,qM (by omega) (by omega) h3]
 have:a/bgS a b≤b/bgS a b:=Nat.div_le_div_right hab
 show (true&&decide (dH (a/bgS a b*1) (1*(b/bgS a b))≤0))=true
 rw[Nat.mul_one,Nat.one_mul,bhP]
 refine decide_eq_true ?_
 unfold dH
 split
 ·decide
 ·split
  ·omega
  ·decide
theorem SmF.ok {x:RF} {a b:Nat} (h:SmF x a b):x.Ok:=by
 have h1:=h.atT
 have h2:=h.alH
 have:=h.a
 have:=h.b
 have k1:nl (a/bgS a b)≤1:=(gP _ _).2 (by omega)
 have k2:nl (b/bgS a b)≤1:=(gP _ _).2 (by omega)
 rw[h.eq]
 refine⟨bD _,bD _,?_,?_⟩
 ·show (aG _).length≤_
  rw[bH]; omega
 ·show (aG _).length≤_
  rw[bH]; omega
theorem aZQ:∀ c:Fin 9,∀ k:Fin 9,c.val+k.val≤8 →
  (c.val/bgS c.val 8*(8/bgS k.val 8)+k.val/bgS k.val 8*(8/bgS c.val 8))/bgS (c.val/bgS c.val 8*(8/bgS k.val 8)+k.val/bgS k.val 8*(8/bgS c.val 8)) (8/bgS c.val 8*(8/bgS k.val 8))=(c.val+k.val)/bgS (c.val+k.val) 8 ∧
  8/bgS c.val 8*(8/bgS k.val 8)/bgS (c.val/bgS c.val 8*(8/bgS k.val 8)+k.val/bgS k.val 8*(8/bgS c.val 8)) (8/bgS c.val 8*(8/bgS k.val 8))=8/bgS (c.val+k.val) 8:=by decide +kernel
abbrev eV (c:Nat):FV:=(false,c/bgS c 8,8/bgS c 8)
theorem MY (c:Nat):0<8/bgS c 8:=Nat.div_pos (Nat.le_of_dvd (by decide) (Nat.gcd_dvd_right c 8)) (Nat.gcd_pos_of_pos_right c (by decide))
theorem akU {c k:Nat} (h:c+k≤8):iT (eV c) (eV k)=.ok (eV (c+k)):=by
 obtain⟨e1,e2⟩:=aZQ ⟨c,by omega⟩ ⟨k,by omega⟩ h
 simp only at e1 e2
 have a1:=bjO c (bgS c 8)
 have a2:=bjO k (bgS k 8)
 have a3:=bjO 8 (bgS c 8)
 have a4:=bjO 8 (bgS k 8)
 have p1:=MY c
 have p2:=MY k
 simp only[iT]
 rw[qM (by omega) (by omega) p1,qM (by omega) (by omega) p2,Bool.and_self,if_pos rfl,if_pos trivial]
 have b1:c/bgS c 8*(8/bgS k 8)≤8*8:=Nat.mul_le_mul (by omega) a4
 have b2:k/bgS k 8*(8/bgS c 8)≤8*8:=Nat.mul_le_mul (by omega) a3
 have b3:8/bgS c 8*(8/bgS k 8)≤8*8:=Nat.mul_le_mul a3 a4
 rw[aEL (by omega) (by omega),e1,e2]
 rfl
theorem JP:∀ (l:List Nat) (c:Nat),c+l.sum≤8→(l.map eV).foldlM iT (eV c)=.ok (eV (c+l.sum))
 | [],c,_=>rfl
 | k::l,c,h=>by
  rw[List.sum_cons] at h
  rw[bhY,List.foldlM_cons,akU (by omega),List.sum_cons,← biR]
  exact JP l (c+k) (by omega)
theorem aZP:eV 0=(false,0,1):=by decide +kernel
theorem aUG:eV 8=(false,1,1):=by decide +kernel
theorem a2P (l:List Nat) (h:l.sum=8):(match oK (l.map eV) with
  | .ok (n,a,b)=>decide (vD n a b false 1 1=0)
  | .error _=>false)=true:=by
 unfold oK
 rw[← aZP,JP l 0 (by omega),bhS,h,aUG]
 rfl
def dig (k:Nat):List UInt8:=if k<10 then [UInt8.ofNat (48+k)] else [UInt8.ofNat (48+k/10),UInt8.ofNat (48+k%10)]
def MS:List UInt8→Nat
 | [a]=>a.toNat-48
 | [a,b]=>(a.toNat-48)*10+(b.toNat-48)
 | _=>0
theorem HK {k:Nat} (h:k<100):bO k=dig k:=by
 unfold bO dig
 by_cases h1:k<10
 ·rw[if_pos h1]; exact Lib.decDigits_one h1
 ·rw[if_neg h1]; exact Lib.decDigits_two h1 h
theorem alJ:∀ k:Fin 100,MS (dig k.val)=k.val∧(dig k.val).length≤2∧((dig k.val).all fun c=>fX c.toNat)=true:=by decide +kernel
theorem aaM {p:List UInt8} {c:UInt8} {t:List UInt8} (e:p=c::t) (hc:fY c.toNat=true) (ht:(t.all fun c=>fX c.toNat)=true) (hl:p.length≤8) {k:Nat} (hk:k<100):isName (p++bO k)=true:=by
 obtain⟨-,h2,h3⟩:=alJ ⟨k,hk⟩
 simp only at h2 h3
 subst e
 rw[HK hk]
 show (decide ((c::t++dig k).length≤16)&&fY c.toNat&&(c::t++dig k).all fun c=>fX c.toNat)=true
 have hi:fX c.toNat=true:=by unfold fX; rw[hc]; rfl
 rw[decide_eq_true (by rw[bgU]; omega),hc,List.all_append,h3,List.all_cons,ht,hi]
 rfl
theorem MX {l:List (List UInt8)} (h1:∀ x∈l,isName x=true) (h2:l.Nodup):distinct l=true:=by
 unfold distinct
 rw[biC]
 intro i hi
 rw[biY] at hi
 have e:l.getD i []=l[i]:=by simp[bhN,hi]
 rw[e,h1 _ (bgY hi),bhP]
 have:¬ l[i]∈l.take i:=by
  intro hm
  obtain⟨j,hj,e⟩:=biH hm
  rw[bhH] at hj
  rw[List.getElem_take] at e
  have:=(List.nodup_iff_pairwise_ne.1 h2)
  rw[List.pairwise_iff_getElem] at this
  exact this j i (by omega) hi (by omega) e
 simp[this]
theorem IK {l:List (List UInt8)} {g:List UInt8→Nat} (h:∀ i (hi:i<l.length),g l[i]=i):l.Nodup:=by
 rw[List.nodup_iff_pairwise_ne,List.pairwise_iff_getElem]
 intro i j hi hj hlt e
 have h1:=h i hi
 have h2:=h j hj
 rw[e] at h1
 omega
theorem pO {l:List (List UInt8)} {p:List UInt8} {c:UInt8} {t:List UInt8} (e:p=c::t) (hc:fY c.toNat=true) (ht:(t.all fun c=>fX c.toNat)=true) (hl:p.length≤8) (hn:l.length≤100) (h:∀ i (hi:i<l.length),l[i]=p++bO i):distinct l=true:=by
 refine MX ?_ (IK (g:=fun s=>MS (s.drop p.length)) ?_)
 ·intro x hx
  obtain⟨i,hi,rfl⟩:=biH hx
  rw[h i hi]
  exact aaM e hc ht hl (by omega)
 ·intro i hi
  rw[h i hi]
  simp only[List.drop_left]
  rw[HK (by omega)]
  exact (alJ ⟨i,by omega⟩).1
end Go.PM
namespace Go.PM
open Go Go.Na
structure pF (x:RF):Prop where
 lim:fF x=true
 ok:x.Ok
theorem SmF.o {x:RF} {a b:Nat} (h:SmF x a b):pF x:=⟨h.lim,h.ok⟩
theorem mO:SmF gZ 0 1:=SmF.mk' (a:=0) (b:=1) (by decide) (by decide) (by decide)
theorem oF (l:List Nat) (a:Nat):pF (eJ l a).1∧bR (eJ l a).1=true:=by
 have h1:=bM l (show 0<6 by decide) a
 have h2:=bM l (show 0<8 by decide) (aC l 6 a).2
 have:=SmF.mk' (a:=1+(aC l 6 a).1) (b:=1+(aC l 8 (aC l 6 a).2).1) (by omega) (by omega) (by omega)
 exact⟨this.o,this.lW (by omega)⟩
theorem aTY (l:List Nat) (i j a:Nat):pF (gB l i j a).1∧(j=i→bR (gB l i j a).1=false)∧(j=i+1→bR (gB l i j a).1=true):=by
 unfold gB
 by_cases h1:j=i+1
 ·rw[if_pos h1]
  exact⟨(oF l a).1,fun h=>by omega,fun _=>(oF l a).2⟩
 ·rw[if_neg h1]
  by_cases h2:j=i
  ·rw[if_pos h2]
   exact⟨mO.o,fun _=>mO.zero,fun h=>absurd h h1⟩
  ·rw[if_neg h2]
   simp only
   split
   ·exact⟨(oF l _).1,fun h=>absurd h h2,fun h=>absurd h h1⟩
   ·exact⟨mO.o,fun h=>absurd h h2,fun h=>absurd h h1⟩
theorem aHC (l:List Nat) (i a:Nat):∀ n,(cS l i a n).1.length=n∧∀ j (hj:j<(cS l i a n).1.length),pF (cS l i a n).1[j]∧(j=i→bR (cS l i a n).1[j]=false)∧(j=i+1→bR (cS l i a n).1[j]=true)
 | 0=>⟨rfl,fun j hj=>absurd hj (by simp[cS])⟩
 | n+1=>by
  obtain⟨h1,h2⟩:=aHC l i a n
  have e:(cS l i a (n+1)).1=(cS l i a n).1++[(gB l i n (cS l i a n).2).1]:=rfl
  rw[e]
  refine⟨by simp[h1],fun j hj=>?_⟩
  by_cases hlt:j<(cS l i a n).1.length
  ·rw[List.getElem_append_left hlt]; exact h2 j hlt
  ·rw[bgU,bgX] at hj
   have:j=n:=by omega
   subst this
   rw[List.getElem_append_right (by omega)]
   simp only[List.getElem_singleton]
   exact aTY l i j _
theorem aHB (l:List Nat) (a:Nat):∀ n,(gX l a n).1.length=n∧∀ x∈(gX l a n).1,pF x∧bR x=true
 | 0=>⟨rfl,fun x hx=>by cases hx⟩
 | n+1=>by
  obtain⟨h1,h2⟩:=aHB l a n
  have e:(gX l a (n+1)).1=(gX l a n).1++[(eJ l (gX l a n).2).1]:=rfl
  rw[e]
  refine⟨by simp[h1],fun x hx=>?_⟩
  rw[biK,List.mem_singleton] at hx
  rcases hx with hx | rfl
  ·exact h2 x hx
  ·exact oF l _
theorem aUK (l:List Nat) (n i a:Nat):pF (dX l n i a).1∧(i+1=n→bR (dX l n i a).1=true):=by
 unfold dX
 by_cases h:i+1<n
 ·simp only[if_pos h]
  refine⟨?_,fun h2=>by omega⟩
  split
  ·exact mO.o
  ·exact (oF l a).1
 ·simp only[if_neg h]
  exact⟨(oF l a).1,fun _=>(oF l a).2⟩
def a4G (n:Nat) (rates:List (List RF)):Prop:=∀ i (hi:i<rates.length),rates[i].length=n∧∀ j (hj:j<rates[i].length),pF rates[i][j]∧(j=i→bR rates[i][j]=false)∧(j=i+1→bR rates[i][j]=true)
def a4E (n:Nat) (exit:List RF):Prop:=∀ i (hi:i<exit.length),pF exit[i]∧(i+1=n→bR exit[i]=true)
structure a9U (n i:Nat) (s:xA) (cs:List Nat):Prop where
 start:s.start=cs.map fun c=>mkT ((c:Nat):Int) ((8:Nat):Int)
 lens:s.exit.length=i∧s.rates.length=i∧cs.length=i
 left:cs.sum+s.left=8∧(i=n→0<n→s.left=0)
 exit:a4E n s.exit
 rates:a4G n s.rates
theorem oJ {α:Type} {P:Nat→α→Prop} {xs:List α} {x:α} (h:∀ i (hi:i<xs.length),P i xs[i]) (hx:P xs.length x):∀ i (hi:i<(xs++[x]).length),P i (xs++[x])[i]:=by
 intro i hi
 by_cases hlt:i<xs.length
 ·rw[List.getElem_append_left hlt]; exact h i hlt
 ·rw[bgU,bgX] at hi
  have:i=xs.length:=by omega
  subst this
  rw[List.getElem_append_right (by omega)]
  simpa using hx
theorem acU (l:List Nat) (n a:Nat):∀ i,i≤n→∃ cs,a9U n i (eS l n a i) cs
 | 0,_=>⟨[],rfl,⟨rfl,rfl,rfl⟩,⟨rfl,fun h h2=>by omega⟩,fun i hi=>absurd hi (by simp[eS]),fun i hi=>absurd hi (by simp[eS])⟩
 | i+1,hi=>by
  obtain⟨cs,h1,⟨h2,h3,h4⟩,⟨h5,-⟩,h6,h7⟩:=acU l n a i (by omega)
  generalize hs:eS l n a i=s at *
  have e:eS l n a (i+1)=⟨s.start++[mkT ((cR l n i s).1:Nat) 8],s.exit++[(dX l n i (cR l n i s).2).1],s.rates++[(cS l i (dX l n i (cR l n i s).2).2 n).1],s.left-(cR l n i s).1,(cS l i (dX l n i (cR l n i s).2).2 n).2⟩:=by
   simp only[eS,hs]
  rw[e]
  have hk:(cR l n i s).1≤s.left∧(i+1=n→(cR l n i s).1=s.left):=by
   unfold cR
   split
   ·exact⟨by have:=bM l (show 0<s.left+1 by omega) s.a; omega,fun h=>by omega⟩
   ·exact⟨bgV _,fun _=>rfl⟩
  refine⟨cs++[(cR l n i s).1],?_,⟨by simp[h2],by simp[h3],by simp[h4]⟩,⟨?_,fun h _=>?_⟩,?_,?_⟩
  ·simp only[h1,biN,bhY,biQ]; rfl
  ·simp only[List.sum_append,List.sum_cons,List.sum_nil]; omega
  ·have:=hk.2 h
   simp only; omega
  ·refine oJ (P:=fun i x=>pF x∧(i+1=n→bR x=true)) h6 ?_
   rw[h2]; exact aUK l n i _
  ·refine oJ (P:=fun i (r:List RF)=>r.length=n∧∀ j (hj:j<r.length),pF r[j]∧(j=i→bR r[j]=false)∧(j=i+1→bR r[j]=true)) h7 ?_
   rw[h3]; exact aHC l i _ n
theorem aUI {x:cL} {e r:RF} (h1:x.exit=[e]) (h2:x.rates=[[r]]) (h3:bR e=true):pR x=true:=by
 unfold pR
 rw[h1]
 show ((fN x 2).all id)=true
 simp only[fN,eC,jM,cY,h1,h2,bjE,biX,List.getD_cons_zero,bhY,biQ,h3]
 cases bR r<;>rfl
theorem JG {x:cL} {e0 e1 r00 r01 r10 r11:RF} (h1:x.exit=[e0,e1]) (h2:x.rates=[[r00,r01],[r10,r11]]) (h3:bR e1=true) (h4:bR r01=true) (a b:Bool) :
  ∃ c,eC x [a,b] 2=[c,true]∧(b=true→c=true)∧(a=true→c=true):=by
 have q1:jM x [a,b] 0=[((a||bR e0)||bR r00&&(a||bR e0))||b,b]:=by
  unfold jM
  rw[h1,h2]
  simp only[List.getD_cons_zero,bhY,List.set_cons_zero]
  generalize (a||bR e0)=c
  show cY [c,b] 0 [r00,r01] 2=_
  have:cY [c,b] 0 [r00,r01] 1=[c||bR r00&&c,b]:=rfl
  show (let R':=cY [c,b] 0 [r00,r01] 1; R'.set 0 (R'.getD 0 false||([r00,r01].map bR).getD 1 false&&R'.getD 1 false))=_
  rw[this]
  show [(c||bR r00&&c)||(bR r01&&b),b]=_
  rw[h4,bhP]
 have q2:∀ c,jM x [c,b] 1=[c,true]:=by
  intro c
  unfold jM
  rw[h1,h2]
  have:cY [c,true] 1 [r10,r11] 1=[c,true||bR r10&&c]:=rfl
  show cY [c,b||bR e1] 1 [r10,r11] 2=_
  rw[h3,Bool.or_true]
  show (let R':=cY [c,true] 1 [r10,r11] 1; R'.set 1 (R'.getD 1 false||([r10,r11].map bR).getD 1 false&&R'.getD 1 false))=_
  rw[this,Bool.true_or]
  show [c,true||bR r11&&true]=_
  rw[Bool.true_or]
 refine⟨_,by rw[show eC x [a,b] 2=jM x (jM x [a,b] 0) 1 from rfl,q1,q2],?_,?_⟩
 ·rintro rfl; rw[Bool.or_true]
 ·rintro rfl; simp
theorem aUJ {x:cL} {e0 e1 r00 r01 r10 r11:RF} (h1:x.exit=[e0,e1]) (h2:x.rates=[[r00,r01],[r10,r11]]) (h3:bR e1=true) (h4:bR r01=true):pR x=true:=by
 unfold pR
 rw[h1]
 show ((fN x 3).all id)=true
 have e:∀ r,fN x (r+1)=eC x (fN x r) 2:=fun r=>by rw[fN,h1]; rfl
 have e0:fN x 0=[false,false]:=by rw[fN,h1]; rfl
 obtain⟨c1,k1,-,-⟩:=JG h1 h2 h3 h4 false false
 obtain⟨c2,k2,k3,-⟩:=JG h1 h2 h3 h4 c1 true
 obtain⟨c3,k4,k5,-⟩:=JG h1 h2 h3 h4 c2 true
 rw[e,e,e,e0,k1,k2,k4,k5 rfl]
 rfl
theorem apM {c:Nat}:∀ {cs:List Nat},c∈cs→c≤cs.sum
 | k::t,h=>by
  rw[List.sum_cons]
  rcases bhB.1 h with rfl | h
  ·omega
  ·have:=apM h; omega
theorem MF {α:Type} {l:List α} (h:l.length=2):∃ a b,l=[a,b]:=by
 match l,h with
 | [a,b],_=>exact⟨a,b,rfl⟩
theorem a5N (cs:List Nat) (h:cs.sum=8):(match oK ((cs.map fun c=>mkT ((c:Nat):Int) ((8:Nat):Int)).map RF.v) with
  | .ok (n,a,b)=>decide (vD n a b false 1 1=0)
  | .error _=>false)=true:=by
 have hle:∀ c∈cs,c≤8:=fun c hc=>by
  have:=apM hc
  omega
 have e:((cs.map fun c=>mkT ((c:Nat):Int) ((8:Nat):Int)).map RF.v)=cs.map eV:=by
  rw[List.map_map]
  refine List.map_congr_left fun c hc=>?_
  have:=hle c hc
  exact (SmF.mk' (a:=c) (b:=8) (by omega) (by decide) (by decide)).v
 rw[e]
 exact a2P cs h
theorem tX {α:Type} {p:α→Bool} {l:List α} (h:∀ i (hi:i<l.length),p l[i]=true):l.all p=true:=by
 rw[biC]
 intro x hx
 obtain⟨i,hi,rfl⟩:=biH hx
 exact h i hi
theorem aKD (l:List Nat) (a:Nat) (nm:List UInt8):oH { (nJ l 2 a).1 with name:=nm }=true∧({ (nJ l 2 a).1 with name:=nm }:cL).Ok:=by
 obtain⟨n,hn⟩:∃ n,n=1+(aC l 2 a).1:=⟨_,rfl⟩
 have hn2:n=1∨n=2:=by have:=bM l (show 0<2 by decide) a; omega
 obtain⟨cs,h1,⟨h2,h3,h4⟩,⟨h5,h5'⟩,h6,h7⟩:=acU l n (aC l 2 a).2 n (bgV _)
 generalize hs:eS l n (aC l 2 a).2 n=s at *
 have e:({ (nJ l 2 a).1 with name:=nm }:cL)=⟨nm,s.start,s.rates,s.exit⟩:=by
  simp only[nJ,← hn,hs]
 rw[e]
 have hsum:cs.sum=8:=by have:=h5' rfl (by omega); omega
 have hle:∀ c∈cs,c≤8:=fun c hc=>by
  have:=apM hc
  omega
 have hstart:∀ x∈s.start,pF x:=by
  intro x hx
  rw[h1] at hx
  obtain⟨c,hc,rfl⟩:=bhW.1 hx
  have:=hle c hc
  exact (SmF.mk' (a:=c) (b:=8) (by omega) (by decide) (by decide)).o
 have hsl:s.start.length=n:=by rw[h1,bgR,h4]
 have hends:pR ⟨nm,s.start,s.rates,s.exit⟩=true:=by
  rcases hn2 with rfl | rfl
  ·obtain⟨e,he⟩:=List.length_eq_one_iff.1 h2
   obtain⟨rw_,hr⟩:=List.length_eq_one_iff.1 h3
   have hrl:=(h7 0 (by omega)).1
   obtain⟨r,hr2⟩:=List.length_eq_one_iff.1 hrl
   have hx:=(h6 0 (by omega)).2 rfl
   simp only[hr,List.getElem_cons_zero] at hr2
   simp only[he,List.getElem_cons_zero] at hx
   exact aUI he (by rw[hr,hr2]) hx
  ·obtain⟨e0,e1,he⟩:=MF h2
   obtain⟨r0,r1,hr⟩:=MF h3
   have hr0:=(h7 0 (by omega)).1
   have hr1:=(h7 1 (by omega)).1
   have hx:=(h6 1 (by omega)).2 rfl
   have hy:=((h7 0 (by omega)).2 1 (by omega)).2.2 rfl
   simp only[he,List.getElem_cons_succ,List.getElem_cons_zero] at hx
   simp only[hr,List.getElem_cons_succ,List.getElem_cons_zero] at hr0 hr1 hy
   obtain⟨r00,r01,h00⟩:=MF hr0
   obtain⟨r10,r11,h10⟩:=MF hr1
   simp only[h00,List.getElem_cons_succ,List.getElem_cons_zero] at hy
   exact aUJ he (by rw[hr,h00,h10]) hx hy
 constructor
 ·unfold oH
  simp only[bhO]
  refine⟨⟨⟨⟨⟨⟨⟨?_,?_⟩,?_⟩,?_⟩,?_⟩,?_⟩,?_⟩,hends⟩
  ·rw[within_iff]; omega
  ·exact decide_eq_true (by omega)
  ·exact decide_eq_true (by omega)
  ·exact biC.2 fun x hx=>(hstart x hx).lim
  ·exact tX fun i hi=>(h6 i hi).1.lim
  ·rw[biC]
   intro i hi
   rw[biY] at hi
   obtain⟨k1,k2⟩:=h7 i hi
   have eg:s.rates.getD i []=s.rates[i]:=by simp[bhN,hi]
   rw[eg,bhO,bhO]
   refine⟨⟨decide_eq_true (by omega),tX fun j hj=>(k2 j hj).1.lim⟩,?_⟩
   have hij:i<s.rates[i].length:=by omega
   rw[getD_at hij,(k2 i hij).2.1 rfl]
   rfl
  ·rw[h1]; exact a5N cs hsum
 ·have hf:∀ m:Nat,m≤2→m≤9223372036854775807:=fun m hm=>by omega
  have hnl:n≤2:=by omega
  refine⟨⟨?_,fun x hx=>(hstart x hx).ok⟩,⟨?_,fun x hx=>?_⟩,?_,fun r hr=>⟨?_,fun x hx=>?_⟩⟩
  ·exact hf s.start.length (by omega)
  ·exact hf s.exit.length (by omega)
  ·obtain⟨i,hi,rfl⟩:=biH hx
   exact (h6 i hi).1.ok
  ·exact hf s.rates.length (by omega)
  ·obtain⟨i,hi,rfl⟩:=biH hr
   have:=(h7 i hi).1
   exact hf (s.rates[i]'hi).length (by omega)
  ·obtain⟨i,hi,rfl⟩:=biH hr
   obtain⟨j,hj,rfl⟩:=biH hx
   exact ((h7 i hi).2 j hj).1.ok
theorem ND (l:List Nat) (a:Nat):∀ n,(fL l a n).1.length=n∧∀ i (hi:i<(fL l a n).1.length),(fL l a n).1[i].name=[108,97,119]++bO i∧oH (fL l a n).1[i]=true∧(fL l a n).1[i].Ok
 | 0=>⟨rfl,fun i hi=>absurd hi (by simp[fL])⟩
 | n+1=>by
  obtain⟨h1,h2⟩:=ND l a n
  have e:(fL l a (n+1)).1=(fL l a n).1++[{ (nJ l 2 (fL l a n).2).1 with name:=[108,97,119]++bO n }]:=rfl
  rw[e]
  refine⟨by simp[h1],oJ (P:=fun i (x:cL)=>x.name=[108,97,119]++bO i∧oH x=true∧x.Ok) h2 ?_⟩
  rw[h1]
  exact⟨rfl,aKD l _ _⟩
theorem FO (l:List Nat) (laws:Nat) (hl:0<laws) (a:Nat):∀ n,(dK l laws a n).1.length=n∧∀ i (hi:i<(dK l laws a n).1.length),(dK l laws a n).1[i].name=[109]++bO i∧∃ e p w:Nat,(dK l laws a n).1[i].extents=e∧1≤e∧e≤4∧(dK l laws a n).1[i].port=p∧1≤p∧p≤8∧(dK l laws a n).1[i].law=w∧w<laws
 | 0=>⟨rfl,fun i hi=>absurd hi (by simp[dK])⟩
 | n+1=>by
  obtain⟨h1,h2⟩:=FO l laws hl a n
  obtain⟨s,hs⟩:∃ s,s=dK l laws a n:=⟨_,rfl⟩
  have e:(dK l laws a (n+1)).1=(dK l laws a n).1++[⟨[109]++bO n,(1+(aC l 4 s.2).1:Nat),(1+(aC l 8 (aC l 4 s.2).2).1:Nat),((aC l laws (aC l 8 (aC l 4 s.2).2).2).1:Nat)⟩]:=by rw[hs]; rfl
  rw[e]
  refine⟨by simp[h1],oJ (P:=fun i (x:cT)=>x.name=[109]++bO i∧∃ e p w:Nat,x.extents=e∧1≤e∧e≤4∧x.port=p∧1≤p∧p≤8∧x.law=w∧w<laws) h2 ?_⟩
  rw[h1]
  have k1:=bM l (show 0<4 by decide) s.2
  have k2:=bM l (show 0<8 by decide) (aC l 4 s.2).2
  have k3:=bM l hl (aC l 8 (aC l 4 s.2).2).2
  exact⟨rfl,_,_,_,rfl,by omega,by omega,rfl,by omega,by omega,rfl,k3⟩
end Go.PM
namespace Go.PM
open Go Go.Na
theorem tN (l:List Nat) (a:Nat):∃ n:Nat,(fM l a).1=n∧n≤3:=by
 have h:=bM l (show 0<3 by decide) (aC l 3 a).2
 unfold fM
 simp only
 split
 ·exact⟨1+(aC l 3 (aC l 3 a).2).1,rfl,by omega⟩
 ·exact⟨0,rfl,by omega⟩
theorem dN {n lo hi:Int} (h1:lo≤n) (h2:n≤hi):within n lo hi=true:=within_iff.2 ⟨h1,h2⟩
theorem a5C {nm:List UInt8} {k m q s1 s2 s3 s4 g h:Nat} {ms:List Int} {rp:List RF} {mc:Nat} (hk1:1≤k) (hk2:k≤2) (hm:m≤2) (hq1:k≤q) (hq2:q≤k+m) (h1:s1≤3) (h2:s2≤3) (h3:s3≤3) (h4:s4≤3) (hg:g≤8) (hh:h≤4)
  (hrl:rp.length=max m 1) (hrp:∀ x∈rp,pF x∧bR x=true)
  (hmc:mc≤2) (hms:∃ f:Nat,f<mc∧(ms=[(f:Int)]∨mc=2∧ms=[(f:Int),1-(f:Int)])) :
  iD mc ⟨nm,(k:Nat),(m:Nat),(q:Nat),0,(s1:Nat),(s2:Nat),(s3:Nat),(s4:Nat),ms,rp,mkT (g:Nat) ((8:Nat):Int),mkT (h:Nat) ((1:Nat):Int)⟩=true ∧
  (⟨nm,(k:Nat),(m:Nat),(q:Nat),0,(s1:Nat),(s2:Nat),(s3:Nat),(s4:Nat),ms,rp,mkT (g:Nat) ((8:Nat):Int),mkT (h:Nat) ((1:Nat):Int)⟩:cO).Ok:=by
 have G:=SmF.mk' (a:=g) (b:=8) (by omega) (by decide) (by decide)
 have Z:=SmF.mk' (a:=h) (b:=1) (by omega) (by decide) (by decide)
 obtain⟨f,hf,hms⟩:=hms
 constructor
 ·unfold iD RX MN
  simp only[bhO,List.all_cons,List.all_nil,bjL]
  refine⟨⟨⟨⟨⟨⟨⟨⟨dN (by omega) (by omega),dN (by omega) (by omega)⟩,decide_eq_true (by omega)⟩,dN (by omega) (by omega)⟩,rfl⟩,dN (by omega) (by omega),dN (by omega) (by omega),dN (by omega) (by omega),dN (by omega) (by omega),dN (by omega) (by omega)⟩,?_⟩,⟨⟨⟨⟨decide_eq_true (by rw[hrl]; omega),?_⟩,G.lim⟩,G.one (by omega)⟩,Z.lim⟩⟩,?_⟩
  ·rcases hms with e | ⟨-,e⟩<;>rw[e]<;>rfl
  ·rw[biC]
   intro x hx
   rw[(hrp x hx).1.lim,(hrp x hx).2]
   rfl
  ·rw[biC]
   rcases hms with rfl | ⟨rfl,rfl⟩
   ·intro j hj
    simp only[bjE,biX,biY] at hj
    have:j=0:=by omega
    subst this
    rw[bhO]
    exact⟨dN (by simp) (by simp; omega),by simp⟩
   ·intro j hj
    simp only[bjE,biX,biY] at hj
    have:j=0∨j=1:=by omega
    rcases this with rfl | rfl
    ·rw[bhO]
     exact⟨dN (by simp) (by simp; omega),by simp⟩
    ·rw[bhO]
     refine⟨dN (by simp; omega) (by simp; omega),?_⟩
     have:¬ (1-(f:Int)=f):=by omega
     simp[this]
 ·refine⟨by unfold dS; constructor<;>simp only<;>omega,by unfold dS; constructor<;>simp only<;>omega,by unfold dS; constructor<;>simp only<;>omega,?_,?_,⟨?_,fun x hx=>(hrp x hx).1.ok⟩,G.ok,Z.ok⟩
  ·show ms.length≤_
   rcases hms with e | ⟨-,e⟩<;>rw[e]<;>simp
  ·show ∀ x∈ms,dS x
   unfold dS
   rcases hms with e | ⟨h2,e⟩<;>rw[e]<;>intro x hx<;>simp only[bhB,bhJ,or_false] at hx
   ·subst hx; omega
   ·rcases hx with rfl | rfl<;>omega
  ·show rp.length≤_
   rw[hrl]; omega
theorem ajN (l:List Nat) {mc:Nat} (h0:0<mc) (h2:mc≤2) (i a:Nat):(jW l mc i a).1.name=[112]++bO i∧iD mc (jW l mc i a).1=true∧(jW l mc i a).1.Ok:=by
 refine⟨rfl,?_⟩
 have hk:=bM l (show 0<2 by decide) a
 have hm:=bM l (show 0<3 by decide) (aC l 2 a).2
 have hh:=bM l (show 0<4 by decide) (aC l 3 (aC l 2 a).2).2
 unfold jW
 simp only
 generalize aC l 2 a=k at *
 generalize aC l 3 k.2=m at *
 generalize aC l 4 m.2=h at *
 have hq:=bM l (show 0<m.1+1 by omega) h.2
 generalize aC l (m.1+1) h.2=q at *
 obtain⟨r1,r2⟩:=aHB l q.2 (max m.1 1)
 generalize gX l q.2 (max m.1 1)=r at *
 have hg:=bM l (show 0<9 by decide) r.2
 generalize aC l 9 r.2=g at *
 obtain⟨n1,e1,b1⟩:=tN l g.2
 generalize fM l g.2=s1 at *
 obtain⟨n2,e2,b2⟩:=tN l s1.2
 generalize fM l s1.2=s2 at *
 obtain⟨n3,e3,b3⟩:=tN l s2.2
 generalize fM l s2.2=s3 at *
 obtain⟨n4,e4,b4⟩:=tN l s3.2
 generalize fM l s3.2=s4 at *
 have hf:=bM l h0 s4.2
 generalize aC l mc s4.2=f at *
 generalize aC l 2 f.2=b at *
 rw[e1,e2,e3,e4]
 refine a5C (by omega) (by omega) (by omega) (by omega) (by omega) b1 b2 b3 b4 (by omega) (by omega) r1 r2 h2 ⟨f.1,hf,?_⟩
 split
 ·rename_i hmc
  split
  ·exact .inr ⟨by omega,rfl⟩
  ·exact .inl rfl
 ·exact .inl rfl
theorem wG (l:List Nat) {mc:Nat} (h0:0<mc) (h2:mc≤2) (a:Nat):∀ n,(cU l mc a n).1.length=n∧∀ i (hi:i<(cU l mc a n).1.length),(cU l mc a n).1[i].name=[112]++bO i∧iD mc (cU l mc a n).1[i]=true∧(cU l mc a n).1[i].Ok
 | 0=>⟨rfl,fun i hi=>absurd hi (by simp[cU])⟩
 | n+1=>by
  obtain⟨k1,k2⟩:=wG l h0 h2 a n
  have e:(cU l mc a (n+1)).1=(cU l mc a n).1++[(jW l mc n (cU l mc a n).2).1]:=rfl
  rw[e]
  refine⟨by simp[k1],oJ (P:=fun i (x:cO)=>x.name=[112]++bO i∧iD mc x=true∧x.Ok) k2 ?_⟩
  rw[k1]
  exact ajN l h0 h2 n _
theorem AR (l:List Nat) {pc:Nat} (h0:0<pc) (a:Nat):∀ n,(dM l pc a n).1.length=n∧∀ i (hi:i<(dM l pc a n).1.length),(dM l pc a n).1[i].name=[118]++bO i∧∃ p:Nat,(dM l pc a n).1[i].policy=p∧p<pc
 | 0=>⟨rfl,fun i hi=>absurd hi (by simp[dM])⟩
 | n+1=>by
  obtain⟨k1,k2⟩:=AR l h0 a n
  have e:(dM l pc a (n+1)).1=(dM l pc a n).1++[⟨[118]++bO n,((aC l pc (dM l pc a n).2).1:Nat)⟩]:=rfl
  rw[e]
  refine⟨by simp[k1],oJ (P:=fun i (x:fK)=>x.name=[118]++bO i∧∃ p:Nat,x.policy=p∧p<pc) k2 ?_⟩
  rw[k1]
  exact⟨rfl,_,rfl,bM l h0 _⟩
abbrev lvs (ds:List cK):List Int:=ds.map cK.level
def a9T (ds:List cK) (i:Nat) (d:cK):Prop:=∃ lev p u:Nat,d.name=[jD lev]++bO (i+1)∧d.level=lev∧1≤lev∧lev≤4∧d.parent=p∧p≤i∧(lvs ds)[p]?=some ((lev:Int)-1)∧d.uplink=u∧1≤u∧u≤16∧pF d.shock
def a4D (ds:List cK) (mc i:Nat) (d:cP):Prop:=∃ m c:Nat,d.name=[100]++bO i∧d.model=m∧m<mc∧d.machine=c∧(lvs ds)[c]?=some 4
structure GV (mc drives:Nat) (s:GS):Prop where
 len:s.doms.length≤35
 drvs:s.drvs.length≤drives
 root:s.doms[0]?=some kE
 dom:∀ i (hi:i+1<s.doms.length),a9T s.doms i s.doms[i+1]
 drv:∀ i (hi:i<s.drvs.length),a4D s.doms mc i s.drvs[i]
theorem GV.a {mc drives:Nat} {s:GS} (h:GV mc drives s) (x:Nat):GV mc drives { s with a:=x }:=⟨h.len,h.drvs,h.root,h.dom,h.drv⟩
theorem aoC (l:List Nat) {mc drives dom:Nat} (hmc:0<mc) {s:GS} (h:GV mc drives s) (hd:(lvs s.doms)[dom]?=some 4):∀ n,GV mc drives (gO l mc drives dom s n)∧(gO l mc drives dom s n).doms=s.doms
 | 0=>⟨h,rfl⟩
 | n+1=>by
  obtain⟨h1,h2⟩:=aoC l hmc h hd n
  simp only[gO]
  generalize gO l mc drives dom s n=t at *
  split
  ·rename_i hlt
   refine⟨⟨h1.len,by simp only[bgU,bgX]; omega,h1.root,h1.dom,?_⟩,h2⟩
   refine oJ (P:=fun i d=>a4D t.doms mc i d) h1.drv ?_
   exact⟨_,dom,rfl,rfl,bM l hmc _,rfl,by rw[h2]; exact hd⟩
  ·exact⟨h1,h2⟩
theorem MH {ds:List cK} {p:Nat} {x:Int} {t:List cK} (h:(lvs ds)[p]?=some x):(lvs (ds++t))[p]?=some x:=by
 unfold lvs at *
 rw[biN,bjN]
 ·exact h
 ·exact (biD.1 h).1
theorem aZO (l:List Nat) {mc drives dom level:Nat} {s:GS} (h:GV mc drives s) (hl1:1≤level) (hl:level≤4) (hd:(lvs s.doms)[dom]?=some ((level:Int)-1)) (hf:mV drives s=false) :
  GV mc drives (kR l level dom s)∧(∃ t,(kR l level dom s).doms=s.doms++t)∧(kR l level dom s).doms.length=s.doms.length+1∧(lvs (kR l level dom s).doms)[s.doms.length]?=some (level:Int):=by
 unfold mV at hf
 simp only[Bool.or_eq_false_iff,decide_eq_false_iff_not] at hf
 have hdl:dom<s.doms.length:=by
  have:=(biD.1 hd).1
  rwa [bgR] at this
 have hu:=bM l (show 0<16 by decide) s.a
 have hk:=bM l (show 0<6 by decide) (aC l 3 (aC l 16 s.a).2).2
 unfold kR
 simp only
 generalize aC l 16 s.a=u at *
 generalize aC l 3 u.2=t at *
 generalize aC l 6 t.2=k at *
 have hsh:pF (if t.1=0 then (mkT 1 ((2+k.1:Nat):Int),k.2) else (gZ,t.2)).1:=by
  split
  ·exact (SmF.mk' (a:=1) (b:=2+k.1) (by omega) (by omega) (by omega)).o
  ·exact mO.o
 generalize (if t.1=0 then (mkT 1 ((2+k.1:Nat):Int),k.2) else (gZ,t.2))=sh at *
 refine⟨⟨by simp only[bgU,bgX]; omega,h.drvs,?_,?_,fun i hi=>?_⟩,⟨_,rfl⟩,by simp,?_⟩
 ·rw[bjN (by omega)]; exact h.root
 ·intro i hi
  simp only[bgU,bgX] at hi
  by_cases hlt:i+1<s.doms.length
  ·rw[List.getElem_append_left hlt]
   obtain⟨lev,p,v,h1,h2,h3,h4,h5,h6,h7,h8⟩:=h.dom i hlt
   exact⟨lev,p,v,h1,h2,h3,h4,h5,h6,MH h7,h8⟩
  ·have:i+1=s.doms.length:=by omega
   rw[List.getElem_append_right (by omega)]
   simp only[List.getElem_singleton]
   exact⟨level,dom,1+u.1,by rw[this],rfl,hl1,hl,rfl,by omega,MH hd,rfl,by omega,by omega,hsh⟩
 ·obtain⟨m,c,h1,h2,h3,h4,h5⟩:=h.drv i hi
  exact⟨m,c,h1,h2,h3,h4,MH h5⟩
 ·unfold lvs
  rw[biN,bjP (by rw[bgR]; exact bgV _),bgR,Nat.sub_self]
  rfl
theorem aoD (l:List Nat) {mc drives dom level:Nat} (hl1:1≤level) (hl:level≤4) {rec:Nat→GS→GS}
  (hrec:∀ d t,GV mc drives t→(lvs t.doms)[d]?=some (level:Int)→GV mc drives (rec d t)∧∃ u,(rec d t).doms=t.doms++u) {s:GS} (h:GV mc drives s) (hd:(lvs s.doms)[dom]?=some ((level:Int)-1)) :
  ∀ n,GV mc drives (fB l level drives dom rec s n)∧∃ u,(fB l level drives dom rec s n).doms=s.doms++u
 | 0=>⟨h,[],by simp[fB]⟩
 | n+1=>by
  obtain⟨h1,u,h2⟩:=aoD l hl1 hl hrec h hd n
  simp only[fB]
  generalize fB l level drives dom rec s n=t at *
  split
  ·exact⟨h1,u,h2⟩
  ·rename_i hf
   have hdt:(lvs t.doms)[dom]?=some ((level:Int)-1):=by rw[h2]; exact MH hd
   obtain⟨k1,⟨v,k2⟩,k3,k4⟩:=aZO l h1 hl1 hl hdt (by simpa using hf)
   obtain⟨m1,w,m2⟩:=hrec ((kR l level dom t).doms.length-1) (kR l level dom t) k1 (by rw[k3,Nat.add_sub_cancel]; exact k4)
   exact⟨m1,u++(v++w),by rw[m2,k2,h2]; simp⟩
theorem aoE (l:List Nat) {mc drives:Nat} (hmc:0<mc):∀ (k:Nat),k≤4→∀ (dom:Nat) {s:GS},GV mc drives s→(lvs s.doms)[dom]?=some (4-(k:Int))→GV mc drives (dU l mc drives k dom s)∧∃ u,(dU l mc drives k dom s).doms=s.doms++u
 | 0,_,dom,s,h,hd=>by
  simp only[dU]
  obtain⟨h1,h2⟩:=aoC l hmc (h.a (aC l 2 s.a).2) hd (1+(aC l 2 s.a).1)
  exact⟨h1,[],by rw[h2]; simp⟩
 | k+1,hk,dom,s,h,hd=>by
  simp only[dU]
  refine aoD l (by omega) (by omega) (fun d t ht hdt=>aoE l hmc k (by omega) d ht ?_) (h.a (aC l 2 s.a).2) ?_ _
  ·rw[hdt]; congr 1; omega
  ·rw[hd]; congr 1; omega
end Go.PM
namespace Go.PM
open Go Go.Na
theorem adA (lev:Nat) (h1:1≤lev) (h4:lev≤4):fY (jD lev).toNat=true∧jD lev≠100:=by
 have:lev=1∨lev=2∨lev=3∨lev=4:=by omega
 rcases this with rfl | rfl | rfl | rfl<;>decide
theorem YP (c:UInt8) {k:Nat} (hk:k<100):MS (([c]++bO k).drop 1)=k:=by
 show MS (bO k)=k
 rw[HK hk]
 exact (alJ ⟨k,hk⟩).1
theorem ayX {mc drives:Nat} {s:GS} (h:GV mc drives s) (hd:drives≤60):distinct ((s.doms.drop 1).map cK.name++s.drvs.map cP.name)=true:=by
 have hA:∀ i (hi:i<((s.doms.drop 1).map cK.name).length),∃ lev:Nat,1≤lev∧lev≤4∧((s.doms.drop 1).map cK.name)[i]=[jD lev]++bO (i+1):=by
  intro i hi
  rw[bgR,biM] at hi
  obtain⟨lev,p,u,h1,-,h3,h4,-⟩:=h.dom i (by omega)
  refine⟨lev,h3,h4,?_⟩
  rw[biJ,List.getElem_drop]
  simp only[Nat.add_comm 1 i]
  exact h1
 have hB:∀ i (hi:i<(s.drvs.map cP.name).length),(s.drvs.map cP.name)[i]=[100]++bO i:=by
  intro i hi
  rw[bgR] at hi
  obtain⟨m,c,h1,-⟩:=h.drv i hi
  rw[biJ]; exact h1
 have lA:((s.doms.drop 1).map cK.name).length≤40:=by rw[bgR,biM]; have:=h.len; omega
 have lB:(s.drvs.map cP.name).length≤60:=by rw[bgR]; have:=h.drvs; omega
 generalize (s.doms.drop 1).map cK.name=A at *
 generalize s.drvs.map cP.name=B at *
 refine MX ?_ ?_
 ·intro x hx
  rcases biK.1 hx with hx | hx
  ·obtain⟨i,hi,rfl⟩:=biH hx
   obtain⟨lev,h1,h4,e⟩:=hA i hi
   rw[e]
   exact aaM rfl (adA lev h1 h4).1 rfl (by simp) (by omega)
  ·obtain⟨i,hi,rfl⟩:=biH hx
   rw[hB i hi]
   exact aaM rfl (by decide) rfl (by simp) (by omega)
 ·rw[bjF]
  refine⟨?_,?_,?_⟩
  ·refine IK (g:=fun s=>MS (s.drop 1)-1) fun i hi=>?_
   obtain⟨lev,-,-,e⟩:=hA i hi
   rw[e,YP _ (by omega)]
   omega
  ·refine IK (g:=fun s=>MS (s.drop 1)) fun i hi=>?_
   rw[hB i hi]
   exact YP _ (by omega)
  ·intro x hx y hy e
   obtain⟨i,hi,rfl⟩:=biH hx
   obtain⟨j,hj,rfl⟩:=biH hy
   obtain⟨lev,h1,h4,e1⟩:=hA i hi
   rw[e1,hB j hj] at e
   exact (adA lev h1 h4).2 (List.cons.inj e).1
theorem aXB {mc drives a:Nat}:GV mc drives ⟨[kE],[],a⟩ :=
 ⟨by simp,bhC _,rfl,fun i hi=>absurd hi (by simp),fun i hi=>absurd hi (by simp)⟩
theorem a0Q {mc drives:Nat} {s:GS} (h:GV mc drives s) (f:aH) (hf:f.domains=s.doms):lY f=true:=by
 have hr:=h.root
 have hdom:=h.dom
 unfold lY
 rw[hf]
 cases hdm:s.doms with
 | nil=>rw[hdm] at hr; cases hr
 | cons r t =>
  rw[hdm] at hr
  have:r=kE:=by simpa using hr
  subst this
  show LM f kE t=true
  unfold LM
  simp only[bhO]
  refine⟨⟨⟨⟨⟨⟨rfl,rfl⟩,rfl⟩,rfl⟩,mO.lim⟩,by rw[show kE.shock=gZ from rfl,mO.zero]; rfl⟩,?_⟩
  rw[biC]
  intro i hi
  rw[biY] at hi
  rw[bhD hi]
  obtain⟨lev,p,u,h1,h2,h3,h4,h5,h6,h7,h8,h9,h10,h11⟩:=hdom i (by rw[hdm]; simp; omega)
  have e:s.doms[i+1]'(by rw[hdm]; simp; omega)=t[i]:=by simp[hdm]
  rw[e] at h1 h2 h5 h8 h11
  show PL f i t[i]=true
  unfold PL
  simp only[bhO]
  refine⟨⟨⟨⟨?_,?_⟩,?_⟩,?_⟩,h11.lim⟩
  ·rw[h5]; exact dN (by omega) (by omega)
  ·rw[h5,h2,hf,Int.toNat_natCast,bhN,h7,ZF (by omega) (by omega)]
   exact decide_eq_true rfl
  ·rw[h2]; exact dN (by omega) (by omega)
  ·rw[h8]; exact dN (by omega) (by omega)
theorem mI (l:List Nat) (drives volumes a:Nat) (hd:drives≤24) (hv:volumes≤12) :
  dC (fD l drives volumes a).1=true∧(fD l drives volumes a).1.Ok:=by
 unfold fD
 simp only
 have he:=bM l (show 0<2 by decide) a
 generalize aC l 2 a=e at *
 have hlw:=bM l (show 0<2 by decide) e.2
 generalize aC l 2 e.2=lw at *
 obtain⟨w1,w2⟩:=ND l lw.2 (1+lw.1)
 generalize fL l lw.2 (1+lw.1)=laws at *
 have hmd:=bM l (show 0<2 by decide) laws.2
 generalize aC l 2 laws.2=md at *
 obtain⟨m1,m2⟩:=FO l (1+lw.1) (by omega) md.2 (1+md.1)
 generalize dK l (1+lw.1) md.2 (1+md.1)=models at *
 obtain⟨G,-⟩:=aoE l (mc:=1+md.1) (drives:=drives) (by omega) 4 (by decide) 0 (s:=⟨[kE],[],models.2⟩) aXB rfl
 generalize dU l (1+md.1) drives 4 0 ⟨[kE],[],models.2⟩=g at *
 have hpl:=bM l (show 0<2 by decide) g.a
 generalize aC l 2 g.a=pl at *
 obtain⟨p1,p2⟩:=wG l (mc:=1+md.1) (by omega) (by omega) pl.2 (1+pl.1)
 generalize cU l (1+md.1) pl.2 (1+pl.1)=pols at *
 have hvo:=bM l (show 0<volumes+1 by omega) pols.2
 generalize aC l (volumes+1) pols.2=vo at *
 obtain⟨v1,v2⟩:=AR l (pc:=1+pl.1) (by omega) vo.2 vo.1
 generalize dM l (1+pl.1) vo.2 vo.1=vols at *
 have g1:=G.len
 have g2:=G.drvs
 have hdp:∀ f:aH,f.domains=g.doms→lY f=true:=fun f hf=>a0Q G f hf
 have hfit:∀ n:Nat,n≤1000→n≤9223372036854775807:=fun n h=>by omega
 have hdrv:∀ x∈g.drvs,∃ m c:Nat,x.model=m∧m<1+md.1∧x.machine=c∧c<g.doms.length∧(lvs g.doms)[c]?=some 4:=by
  intro x hx
  obtain⟨i,hi,rfl⟩:=biH hx
  obtain⟨m,c,-,h2,h3,h4,h5⟩:=G.drv i hi
  refine⟨m,c,h2,h3,h4,?_,h5⟩
  have:=(biD.1 h5).1
  rwa [bgR] at this
 constructor
 ·unfold dC
  rw[hdp _ rfl]
  simp only[bhO,bjL]
  refine⟨⟨?_,⟨⟨⟨⟨?_,?_⟩,?_⟩,?_⟩,?_⟩⟩,⟨⟨⟨?_,?_⟩,ayX G (by omega)⟩,?_⟩,?_⟩
  ·unfold mL
   simp only[bhO]
   exact⟨⟨⟨⟨⟨⟨dN (by omega) (by omega),decide_eq_true (by omega)⟩,decide_eq_true (by omega)⟩,decide_eq_true (by omega)⟩,decide_eq_true (by omega)⟩,decide_eq_true (by omega)⟩,decide_eq_true (by omega)⟩
  ·exact tX fun i hi=>(w2 i hi).2.1
  ·refine tX fun i hi=>?_
   obtain⟨-,x,y,z,e1,e2,e3,e4,e5,e6,e7,e8⟩:=m2 i hi
   unfold kC
   simp only[bhO]
   rw[e1,e4,e7,w1]
   exact⟨⟨dN (by omega) (by omega),dN (by omega) (by omega)⟩,dN (by omega) (by omega)⟩
  ·rw[biC]
   intro x hx
   obtain⟨m,c,e1,e2,e3,e4,e5⟩:=hdrv x hx
   unfold iO
   simp only[bhO]
   rw[e1,e3,m1,Int.toNat_natCast,bhN,e5]
   exact⟨⟨dN (by omega) (by omega),dN (by omega) (by omega)⟩,rfl⟩
  ·refine tX fun i hi=>?_
   rw[m1]; exact (p2 i hi).2.1
  ·refine tX fun i hi=>?_
   obtain⟨-,p,e1,e2⟩:=v2 i hi
   unfold lS
   rw[e1,p1]
   exact dN (by omega) (by omega)
  ·refine pO (p:=[108,97,119]) rfl (by decide) (by decide) (by decide) (by rw[bgR]; omega) fun i hi=>?_
   rw[biJ]; exact (w2 i (by simpa using hi)).1
  ·refine pO (p:=[109]) rfl (by decide) (by decide) (by decide) (by rw[bgR]; omega) fun i hi=>?_
   rw[biJ]; exact (m2 i (by simpa using hi)).1
  ·refine pO (p:=[112]) rfl (by decide) (by decide) (by decide) (by rw[bgR]; omega) fun i hi=>?_
   rw[biJ]; exact (p2 i (by simpa using hi)).1
  ·refine pO (p:=[118]) rfl (by decide) (by decide) (by decide) (by rw[bgR]; omega) fun i hi=>?_
   rw[biJ]; exact (v2 i (by simpa using hi)).1
 ·refine⟨hfit laws.1.length (by omega),hfit models.1.length (by omega),hfit g.doms.length (by omega),hfit g.drvs.length (by omega),hfit pols.1.length (by omega),hfit vols.1.length (by omega),?_,?_,?_,?_,?_⟩
  ·intro x hx
   obtain⟨i,hi,rfl⟩:=biH hx
   exact (w2 i hi).2.2
  ·intro x hx
   obtain⟨i,hi,rfl⟩:=biH hx
   rcases biW i with rfl | hp
   ·have:g.doms[0]=kE:=by have:=G.root; rw[bhD hi] at this; exact biU.inj this
    rw[this]
    exact⟨mO.ok,by unfold dS; decide,by unfold dS; decide⟩
   ·obtain⟨k,rfl⟩:∃ k,i=k+1:=⟨i-1,by omega⟩
    obtain⟨lev,p,u,h1,h2,h3,h4,h5,h6,h7,h8,h9,h10,h11⟩:=G.dom k hi
    have hi':k+1<g.doms.length:=hi
    rw[h2,h5]
    exact⟨h11.ok,by unfold dS; omega,by unfold dS; omega⟩
  ·intro x hx
   obtain⟨m,c,e1,e2,e3,e4,e5⟩:=hdrv x hx
   rw[e1,e3]
   unfold dS; omega
  ·intro x hx
   obtain⟨i,hi,rfl⟩:=biH hx
   exact (p2 i hi).2.2
  ·intro x hx
   obtain⟨i,hi,rfl⟩:=biH hx
   obtain⟨-,p,e1,e2⟩:=v2 i hi
   rw[e1]
   unfold dS; omega
end Go.PM
namespace Go.PM
open Go
def ahB:Rg:=[iA 1 (.box true (Tm 0)),iA 2 (.mv (.const (.bool false)))]
def ahC:Rg:=[iA 3 (.load (some 7) (Tm 1)),iA 4 (.call 96 [(Tm 3)]),iC 5 .eql 4 0,iM 2 5]
def yX:aD:=(.seq (.region ahB) (.seq (.region ahC) .ret))
def aSR:List Nat:=[1]
def KC:bE:=⟨1,6,yX,[.tmp 2]⟩
def avE:Rg:=[iA 2 (.box true (Tm 0)),iI 4 0]
def avF:Rd:=[(iF 6 5 2,false),(iL 7 6,false),(iF 8 6 2,false),(iL 9 8,false),(iM 10 1,false),(iX 11 2 9 10,false),(iF 12 1 11,false),(iL 13 12,false),(iX 14 17 7 13,false),(iA 15 (.load (some 17) (Tm 14)),false),(iA 5 (.alloc [(.str []),(.int .i64 0),(.int .i64 0),(.int .i64 0),(.int .i64 0),(.int .i64 0),(.int .i64 0),(.int .i64 0),(.int .i64 0),.nils,.nils,(.bool false),.nils,.nils,(.bool false),.nils,.nils]),true),(iS 17 5 15,true)]
def avG:Rg:=[iF 16 1 5,iL 17 16,iF 18 2 5,iL 19 18,iB 20 .add 17 19,iM 4 20]
def EG:aD:=(.seq (.region avE) (.seq (.draw avF) (.seq (.region avG) .ret)))
def aXM:List Nat:=[2]
def XV:bE:=⟨2,21,EG,[.tmp 4]⟩
def afW:Rg:=[iA 3 (.box true (Tm 0)),iI 6 0]
def afX:Rg:=[iF 8 4 3,iL 9 8,iM 10 1,iX 11 3 9 10,iF 12 2 11,iL 13 12,iM 7 13]
def afY:Rg:=[iF 14 3 3,iL 15 14,iM 16 7,iX 17 7 15 16,iF 18 1 17,iL 19 18,iM 20 2,iB 21 .gtr 19 20]
def afZ:Rg:=[iF 22 3 3,iL 23 22,iM 24 7,iX 25 7 23 24,iF 26 2 25,iL 27 26,iM 7 27]
def afV:aD:=(.seq (.seq (.region afY) (.cond (Tm 21) .skip (.exit 0))) (.block 1 (.region afZ)))
def agA:Rg:=[iM 28 7,iM 6 28]
def yS:aD:=(.seq (.region afW) (.seq (.region afX) (.seq (.block 0 (.loop afV)) (.seq (.region agA) .ret))))
def aRY:List Nat:=[3]
def JR:bE:=⟨3,29,yS,[.tmp 6]⟩
def avJ:Rg:=[iA 2 (.box true (Tm 0)),iA 4 (.mv (.const .nils))]
def avK:Rg:=[iA 7 (.load (some 7) (Tm 2)),iA 8 (.call 161 [(Tm 7)]),iA 9 (.un .not (Tm 8))]
def avL:Rg:=[iA 4 (.mv (.const .nils))]
def avM:Rg:=[iF 10 4 2,iL 11 10,iN 12 11,iA 13 (.mkslice 1 8 [(.int .i64 0)] (Tm 12) (Tm 12)),iM 5 13]
def avN:Rg:=[iM 14 5,iN 15 14,iI 16 0]
def avO:Rg:=[iB 17 .lss 16 15]
def avP:Rg:=[iM 18 16,iM 6 18]
def avQ:Rd:=[(iM 19 5,false),(iM 20 6,false),(iF 21 2 2,false),(iL 22 21,false),(iF 23 4 2,false),(iL 24 23,false),(iM 25 6,false),(iX 26 3 24 25,false),(iF 27 1 26,false),(iL 28 27,false),(iX 29 4 22 28,false),(iF 30 1 29,false),(iL 31 30,false),(iX 32 1 19 20,false),(iS 1 32 31,true)]
def avR:Rg:=[iM 33 1,iN 34 33,iM 35 5,iN 36 35,iB 37 .eql 34 36]
def avS:Rd:=[(iM 38 5,false),(iM 39 6,false),(iM 40 1,false),(iM 41 6,false),(iX 42 1 40 41,false),(iL 43 42,false),(iA 44 (.minmax true (Tm 43) (Ci 0)),false),(iM 45 5,false),(iM 46 6,false),(iX 47 1 45 46,false),(iL 48 47,false),(iA 49 (.minmax false (Tm 44) (Tm 48)),false),(iX 50 1 38 39,false),(iS 1 50 49,true)]
def JZ:Rg:=[iC 51 .add 16 1,iM 16 51]
def agS:aD:=(.seq (.region avO) (.seq (.cond (Tm 17) .skip (.exit 0)) (.seq (.block 1 (.seq (.region avP) (.seq (.draw avQ) (.seq (.region avR) (.cond (Tm 37) (.draw avS) .skip))))) (.region JZ))))
def agT:Rg:=[iM 52 5,iM 4 52]
def EJ:aD:=(.seq (.region avJ) (.seq (.seq (.region avK) (.cond (Tm 9) (.seq (.region avL) .ret) .skip)) (.seq (.region avM) (.seq (.seq (.region avN) (.block 0 (.loop agS))) (.seq (.region agT) .ret)))))
def aXO:List Nat:=[2]
def tQ:bE:=⟨2,53,EJ,[.tmp 4]⟩
def aRZ:Rg:=[iA 3 (.box true (Tm 0)),iI 6 0]
def aSA:Rg:=[iA 7 (.load (some 7) (Tm 3)),iA 8 (.call 161 [(Tm 7)]),iA 9 (.un .not (Tm 8)),iM 10 9,iG 11 (.mv (Tm 1)) 10 false,iG 12 (.bin .lss (Tm 11) (Ci 0)) 10 false,iA 13 (.pick (Tm 10) (.const (.bool true)) (Tm 12)),iM 14 13,iG 15 (.mv (Tm 1)) 14 false,iG 16 (.fieldA 4 (Tm 3)) 14 false,iG 17 (.load none (Tm 16)) 14 false,iG 18 (.len (Tm 17)) 14 false,iG 19 (.bin .geq (Tm 15) (Tm 18)) 14 false,iA 20 (.pick (Tm 14) (.const (.bool true)) (Tm 19)),iM 21 20,iG 22 (.mv (Tm 2)) 21 false,iG 23 (.bin .lss (Tm 22) (Ci 0)) 21 false,iA 24 (.pick (Tm 21) (.const (.bool true)) (Tm 23)),iM 25 24,iG 26 (.mv (Tm 2)) 25 false,iG 27 (.bin .geq (Tm 26) (Ci 5)) 25 false,iA 28 (.pick (Tm 25) (.const (.bool true)) (Tm 27))]
def AM:Rg:=[iI 6 (-1)]
def aSB:Rg:=[iA 29 (.load (some 7) (Tm 3)),iM 30 1,iM 31 2,iA 32 (.call 155 [(Tm 29),(Tm 30),(Tm 31)]),iM 6 32]
def SI:aD:=(.seq (.region aRZ) (.seq (.seq (.region aSA) (.cond (Tm 28) (.seq (.region AM) .ret) .skip)) (.seq (.region aSB) .ret)))
def a5P:List Nat:=[3]
def tat:bE:=⟨3,33,SI,[.tmp 6]⟩
def XN:Rg:=[iA 2 (.box true (Tm 0)),iA 4 (.mv (.const .nils))]
def XO:Rg:=[iA 5 (.mv (.const .nils))]
def XP:Rg:=[iA 7 (.load (some 7) (Tm 2)),iA 8 (.call 161 [(Tm 7)]),iA 9 (.un .not (Tm 8)),iM 10 9,iG 11 (.mv (Tm 1)) 10 false,iG 12 (.bin .lss (Tm 11) (Ci 0)) 10 false,iA 13 (.pick (Tm 10) (.const (.bool true)) (Tm 12)),iM 14 13,iG 15 (.mv (Tm 1)) 14 false,iG 16 (.fieldA 3 (Tm 2)) 14 false,iG 17 (.load none (Tm 16)) 14 false,iG 18 (.len (Tm 17)) 14 false,iG 19 (.bin .geq (Tm 15) (Tm 18)) 14 false,iA 20 (.pick (Tm 14) (.const (.bool true)) (Tm 19))]
def tO:Rg:=[iM 21 5,iM 4 21]
def XQ:Rg:=[iF 22 4 2,iL 23 22,iN 24 23,iI 25 0]
def XR:Rg:=[iB 26 .lss 25 24]
def XS:Rg:=[iM 27 25,iM 6 27]
def XT:Rd:=[(iA 28 (.load (some 7) (Tm 2)),false),(iM 29 6,false),(iF 30 3 2,false),(iL 31 30,false),(iM 32 1,false),(iX 33 7 31 32,false),(iF 34 1 33,false),(iL 35 34,false),(iA 36 (.call 155 [(Tm 28),(Tm 29),(Tm 35)]),true),(iM 37 1,true),(iB 38 .eql 36 37,false)]
def XU:Rg:=[iM 39 5,iM 40 6,iA 41 (.bslice true 1 1 [(.int .i64 0)] [(0,(Tm 40))]),iA 42 (.append 1 8 (Tm 39) (Tm 41)),iM 5 42]
def EF:Rg:=[iC 43 .add 25 1,iM 25 43]
def OM:aD:=(.seq (.region XR) (.seq (.cond (Tm 26) .skip (.exit 0)) (.seq (.block 1 (.seq (.region XS) (.seq (.draw XT) (.cond (Tm 38) (.region XU) .skip)))) (.region EF))))
def ON:Rg:=[iM 44 5,iM 4 44]
def vK:aD:=(.seq (.region XN) (.seq (.region XO) (.seq (.seq (.region XP) (.cond (Tm 20) (.seq (.region tO) .ret) .skip)) (.seq (.seq (.region XQ) (.block 0 (.loop OM))) (.seq (.region ON) .ret)))))
def aNA:List Nat:=[2,41]
def AN:bE:=⟨2,45,vK,[.tmp 4]⟩
def agB:Rg:=[iA 2 (.box true (Tm 0)),iA 4 (.mv (.const .nils))]
def agC:Rg:=[iA 5 (.mv (.const .nils))]
def agD:Rg:=[iA 8 (.load (some 7) (Tm 2)),iA 9 (.call 161 [(Tm 8)]),iA 10 (.un .not (Tm 9)),iM 11 10,iG 12 (.mv (Tm 1)) 11 false,iG 13 (.bin .lss (Tm 12) (Ci 0)) 11 false,iA 14 (.pick (Tm 11) (.const (.bool true)) (Tm 13))]
def JT:Rg:=[iM 15 5,iM 4 15]
def agE:Rg:=[iF 16 3 2,iL 17 16,iN 18 17,iI 19 0]
def agF:Rg:=[iB 20 .lss 19 18]
def agG:Rg:=[iM 21 19,iX 22 7 17 19,iA 23 (.load (some 7) (Tm 22)),iA 7 (.alloc [(.str []),(.int .i64 0),(.int .i64 0),(.int .i64 0),(.bool false),.nils,.nils]),iM 6 21,iS 7 7 23]
def JU:Rg:=[iF 24 2 7,iL 25 24,iM 26 1,iB 27 .eql 25 26]
def agH:Rg:=[iM 28 5,iM 29 6,iA 30 (.bslice true 1 1 [(.int .i64 0)] [(0,(Tm 29))]),iA 31 (.append 1 8 (Tm 28) (Tm 30)),iM 5 31]
def JV:Rg:=[iC 32 .add 19 1,iM 19 32]
def XL:aD:=(.seq (.region agF) (.seq (.cond (Tm 20) .skip (.exit 0)) (.seq (.block 1 (.seq (.region agG) (.seq (.region JU) (.cond (Tm 27) (.region agH) .skip)))) (.region JV))))
def XM:Rg:=[iM 33 5,iM 4 33]
def yT:aD:=(.seq (.region agB) (.seq (.region agC) (.seq (.seq (.region agD) (.cond (Tm 14) (.seq (.region JT) .ret) .skip)) (.seq (.seq (.region agE) (.block 0 (.loop XL))) (.seq (.region XM) .ret)))))
def aSD:List Nat:=[2,30]
def JS:bE:=⟨2,34,yT,[.tmp 4]⟩
def agK:Rg:=[iA 2 (.box true (Tm 0)),iA 4 (.mv (.const .nils))]
def agL:Rg:=[iF 10 4 2,iL 11 10,iN 12 11,iA 13 (.mkslice 1 8 [(.int .i64 0)] (Tm 12) (Tm 12)),iM 5 13]
def agM:Rg:=[iM 14 1,iN 15 14,iI 16 0]
def agN:Rg:=[iB 17 .lss 16 15]
def agO:Rg:=[iX 18 1 14 16,iL 19 18,iM 7 19]
def agP:Rg:=[iM 20 7,iN 21 20,iI 22 0]
def agQ:Rg:=[iB 23 .lss 22 21]
def wL:Rg:=[iX 24 1 20 22,iL 25 24,iM 9 25]
def wM:Rg:=[iM 26 9,iC 27 .geq 26 0,iM 28 27,iG 29 (.mv (Tm 9)) 28 true,iG 30 (.mv (Tm 5)) 28 true,iG 31 (.len (Tm 30)) 28 true,iG 32 (.bin .lss (Tm 29) (Tm 31)) 28 true,iA 33 (.pick (Tm 28) (Tm 32) (.const (.bool false)))]
def agR:Rg:=[iM 34 5,iM 35 9,iX 36 1 34 35,iL 37 36,iC 38 .add 37 1,iX 39 1 34 35,iS 1 39 38]
def tP:Rg:=[iC 40 .add 22 1,iM 22 40]
def XW:aD:=(.seq (.region agQ) (.seq (.cond (Tm 23) .skip (.exit 2)) (.seq (.block 3 (.seq (.region wL) (.seq (.region wM) (.cond (Tm 33) (.region agR) .skip)))) (.region tP))))
def EH:Rg:=[iC 41 .add 16 1,iM 16 41]
def XY:aD:=(.seq (.region agN) (.seq (.cond (Tm 17) .skip (.exit 0)) (.seq (.block 1 (.seq (.region agO) (.seq (.region agP) (.block 2 (.loop XW))))) (.region EH))))
def EI:Rg:=[iM 42 5,iM 4 42]
def yV:aD:=(.seq (.region agK) (.seq (.region agL) (.seq (.seq (.region agM) (.block 0 (.loop XY))) (.seq (.region EI) .ret))))
def aSI:List Nat:=[2]
def JX:bE:=⟨2,43,yV,[.tmp 4]⟩
def afR:Rg:=[iA 2 (.box true (Tm 0)),iA 4 (.mv (.const .nils))]
def afS:Rg:=[iA 5 (.load (some 7) (Tm 2)),iA 6 (.call 161 [(Tm 5)]),iA 7 (.un .not (Tm 6))]
def afT:Rg:=[iA 4 (.mv (.const .nils))]
def afU:Rg:=[iA 8 (.load (some 7) (Tm 2)),iM 9 1,iA 10 (.call 157 [(Tm 8),(Tm 9)]),iM 4 10]
def yR:aD:=(.seq (.region afR) (.seq (.seq (.region afS) (.cond (Tm 7) (.seq (.region afT) .ret) .skip)) (.seq (.region afU) .ret)))
def aRW:List Nat:=[2]
def JQ:bE:=⟨2,11,yR,[.tmp 4]⟩
def agV:Rg:=[iA 3 (.box true (Tm 0)),iA 6 (.alloc [(.int .i64 0),(.int .i64 0),(.int .i64 0)]),iA 7 (.mv (.const (.bool false)))]
def agW:Rd:=[(iM 10 1,true),(iM 11 2,true),(iX 12 1 10 11,true),(iL 13 12,true),(iN 14 13,true),(iA 15 (.load (some 7) (Tm 3)),false),(iM 16 2,false),(iA 17 (.call 156 [(Tm 15),(Tm 16)]),true),(iB 18 .neq 14 17,false)]
def agX:Rg:=[iM 19 2,iM 20 1,iM 21 2,iX 22 1 20 21,iL 23 22,iN 24 23,iA 25 (.build [(.int .i64 0),(.int .i64 0),(.int .i64 0)] [(0,1,(Ci 1)),(1,1,(Tm 19)),(2,1,(Tm 24))]),iS 3 6 25,iA 7 (.mv (.const (.bool true)))]
def agY:Rg:=[iM 26 1,iM 27 2,iX 28 1 26 27,iL 29 28,iN 30 29,iI 31 0]
def agZ:Rg:=[iB 32 .lss 31 30]
def wN:Rg:=[iM 33 31,iX 34 1 29 31,iL 35 34,iM 8 33,iM 9 35]
def wO:Rg:=[iM 36 9,iC 37 .lss 36 (-1),iM 38 37,iG 39 (.mv (Tm 9)) 38 false,iG 40 (.fieldA 4 (Tm 3)) 38 false,iG 41 (.load none (Tm 40)) 38 false,iG 42 (.len (Tm 41)) 38 false,iG 43 (.bin .geq (Tm 39) (Tm 42)) 38 false,iA 44 (.pick (Tm 38) (.const (.bool true)) (Tm 43))]
def KB:Rg:=[iM 45 2,iM 46 8,iA 47 (.build [(.int .i64 0),(.int .i64 0),(.int .i64 0)] [(0,1,(Ci 1)),(1,1,(Tm 45)),(2,1,(Tm 46))]),iS 3 6 47,iA 7 (.mv (.const (.bool true)))]
def ahA:Rg:=[iC 48 .add 31 1,iM 31 48]
def agU:aD:=(.seq (.region agZ) (.seq (.cond (Tm 32) .skip (.exit 0)) (.seq (.block 1 (.seq (.region wN) (.seq (.region wO) (.cond (Tm 44) (.seq (.region KB) .ret) .skip)))) (.region ahA))))
def YB:Rg:=[iA 49 (.build [(.int .i64 0),(.int .i64 0),(.int .i64 0)] []),iS 3 6 49,iA 7 (.mv (.const (.bool false)))]
def yW:aD:=(.seq (.region agV) (.seq (.seq (.draw agW) (.cond (Tm 18) (.seq (.region agX) .ret) .skip)) (.seq (.seq (.region agY) (.block 0 (.loop agU))) (.seq (.region YB) .ret))))
def aSP:List Nat:=[3]
def vL:bE:=⟨3,50,yW,[.cell 6 (some 3),.tmp 7]⟩
def XC:Rg:=[iA 2 (.box true (Tm 0)),iA 4 (.mv (.const (.bool false)))]
def XD:Rg:=[iA 8 (.load (some 7) (Tm 2)),iA 9 (.call 161 [(Tm 8)]),iA 10 (.un .not (Tm 9)),iM 11 10,iG 12 (.mv (Tm 1)) 11 false,iG 13 (.len (Tm 12)) 11 false,iG 14 (.fieldA 6 (Tm 2)) 11 false,iG 15 (.load none (Tm 14)) 11 false,iG 16 (.len (Tm 15)) 11 false,iG 17 (.bin .neq (Tm 13) (Tm 16)) 11 false,iA 18 (.pick (Tm 11) (.const (.bool true)) (Tm 17))]
def EC:Rg:=[iA 4 (.mv (.const (.bool false)))]
def XE:Rg:=[iM 19 1,iN 20 19,iI 21 0]
def XF:Rg:=[iB 22 .lss 21 20]
def XG:Rg:=[iM 23 21,iM 5 23]
def XH:Rg:=[iA 25 (.load (some 7) (Tm 2)),iM 26 1,iM 27 5,iA 28 (.call 160 [(Tm 25),(Tm 26),(Tm 27)]),iM 24 28,iA 29 (.extract (Tm 24) 0),iA 30 (.extract (Tm 24) 1),iA 6 (.alloc [(.int .i64 0),(.int .i64 0),(.int .i64 0)]),iS 3 6 29,iM 7 30]
def ED:Rg:=[iM 31 7]
def XI:Rg:=[iA 4 (.mv (.const (.bool false)))]
def XJ:Rg:=[iC 32 .add 21 1,iM 21 32]
def OK:aD:=(.seq (.region XF) (.seq (.cond (Tm 22) .skip (.exit 0)) (.seq (.block 1 (.seq (.region XG) (.seq (.region XH) (.seq (.region ED) (.cond (Tm 31) (.seq (.region XI) .ret) .skip))))) (.region XJ))))
def OL:Rg:=[iA 4 (.mv (.const (.bool true)))]
def vJ:aD:=(.seq (.region XC) (.seq (.seq (.region XD) (.cond (Tm 18) (.seq (.region EC) .ret) .skip)) (.seq (.seq (.region XE) (.block 0 (.loop OK))) (.seq (.region OL) .ret))))
def aMY:List Nat:=[2]
def AL:bE:=⟨2,33,vJ,[.tmp 4]⟩
def ahN:Rg:=[iA 5 (.alloc [(.int .i64 0),(.int .i64 0),(.int .i64 0)])]
def ahO:Rg:=[iM 6 0,iL 7 2,iM 8 1,iA 9 (.build [(.int .i64 0),(.int .i64 0),(.int .i64 0)] [(0,1,(Tm 6)),(1,1,(Tm 7)),(2,1,(Tm 8))]),iS 3 5 9]
def yY:aD:=(.seq (.region ahN) (.seq (.region ahO) .ret))
def aST:List Nat:=[]
def KH:bE:=⟨2,10,yY,[.cell 5 (some 3)]⟩
def awD:Rg:=[iA 3 (.box true (Tm 0)),iA 5 (.box false (Tm 2)),iA 6 (.mv (.const .nils))]
def awE:Rd:=[(iF 25 5 3,false),(iL 26 25,false),(iF 27 6 3,false),(iL 28 27,false),(iL 29 5,false),(iX 30 2 28 29,false),(iF 31 1 30,false),(iL 32 31,false),(iX 33 17 26 32,false),(iA 34 (.load (some 17) (Tm 33)),false),(iA 7 (.alloc [(.str []),(.int .i64 0),(.int .i64 0),(.int .i64 0),(.int .i64 0),(.int .i64 0),(.int .i64 0),(.int .i64 0),(.int .i64 0),.nils,.nils,(.bool false),.nils,.nils,(.bool false),.nils,.nils]),true),(iS 17 7 34,true)]
def awF:Rg:=[iF 35 2 3,iL 36 35,iN 37 36,iA 38 (.mkslice 1 1 [(.bool false)] (Tm 37) (Tm 37)),iM 8 38]
def awG:Rg:=[iF 39 9 7,iL 40 39,iN 41 40,iI 42 0]
def awH:Rg:=[iB 43 .lss 42 41]
def awI:Rg:=[iX 44 1 40 42,iL 45 44,iM 10 45]
def awJ:Rg:=[iM 46 8,iM 47 10,iX 48 1 46 47,⟨none,.store 1 (Tm 48) (.const (.bool true)),none⟩]
def awK:Rg:=[iC 49 .add 42 1,iM 42 49]
def awC:aD:=(.seq (.region awH) (.seq (.cond (Tm 43) .skip (.exit 0)) (.seq (.block 1 (.seq (.region awI) (.region awJ))) (.region awK))))
def awL:Rg:=[iA 50 (.mkfn 159 [(Tm 5)]),iM 11 50]
def ahP:Rg:=[iA 12 (.mv (.const .nils)),iA 13 (.mv (.const .nils))]
def ahQ:Rd:=[(iF 51 4 3,false),(iL 52 51,false),(iN 53 52,false),(iA 54 (.mkslice 1 8 [(.int .i64 0)] (Tm 53) (Tm 53)),true),(iF 55 3 3,false),(iL 56 55,false),(iN 57 56,false),(iA 58 (.mkslice 1 8 [(.int .i64 0)] (Tm 57) (Tm 57)),true),(iM 14 54,false),(iM 15 58,false)]
def ahR:Rg:=[iM 59 1,iL 60 5,iX 61 1 59 60,iL 62 61,iN 63 62,iI 64 0]
def sK:Rg:=[iB 65 .lss 64 63]
def wQ:Rg:=[iM 66 64,iX 67 1 62 64,iL 68 67,iM 16 66,iM 17 68]
def wR:Rg:=[iM 69 17,iC 70 .lss 69 0]
def ahS:Rg:=[iM 71 12,iM 72 11,iM 73 16,iA 74 (.callv (Tm 72) [(Ci 2),(Tm 73)]),iA 75 (.bslice true 3 1 [(.int .i64 0),(.int .i64 0),(.int .i64 0)] [(0,(Tm 74))]),iA 76 (.append 3 24 (Tm 71) (Tm 75)),iM 12 76]
def KK:Rg:=[iM 77 8,iF 78 4 3,iL 79 78,iM 80 17,iX 81 3 79 80,iF 82 1 81,iL 83 82,iX 84 1 77 83,iL 85 84,iA 86 (.un .not (Tm 85))]
def ahT:Rg:=[iM 87 13,iM 88 11,iM 89 16,iA 90 (.callv (Tm 88) [(Ci 4),(Tm 89)]),iA 91 (.bslice true 3 1 [(.int .i64 0),(.int .i64 0),(.int .i64 0)] [(0,(Tm 90))]),iA 92 (.append 3 24 (Tm 87) (Tm 91)),iM 13 92]
def KL:Rg:=[iM 93 14,iM 94 17,iX 95 1 93 94,iL 96 95,iC 97 .add 96 1,iX 98 1 93 94,iS 1 98 97]
def KM:Rg:=[iF 99 4 3,iL 100 99,iM 101 17,iX 102 3 100 101,iF 103 2 102,iL 104 103,iM 18 104]
def ahU:Rg:=[iM 105 18,iC 106 .gtr 105 0]
def ahV:Rg:=[iM 113 15,iM 114 18,iX 115 1 113 114,iL 116 115,iC 117 .add 116 1,iX 118 1 113 114,iS 1 118 117]
def ahW:Rg:=[iF 107 3 3,iL 108 107,iM 109 18,iX 110 7 108 109,iF 111 2 110,iL 112 111,iM 18 112]
def wP:aD:=(.seq (.seq (.region ahU) (.cond (Tm 106) .skip (.exit 4))) (.seq (.block 5 (.region ahV)) (.region ahW)))
def wS:Rg:=[iC 119 .add 64 1,iM 64 119]
def pA:aD:=(.seq (.region sK) (.seq (.cond (Tm 65) .skip (.exit 2)) (.seq (.block 3 (.seq (.region wQ) (.seq (.seq (.region wR) (.cond (Tm 70) (.seq (.region ahS) (.exit 3)) .skip)) (.seq (.seq (.region KK) (.cond (Tm 86) (.region ahT) .skip)) (.seq (.region KL) (.seq (.region KM) (.block 4 (.loop wP)))))))) (.region wS))))
def ahX:Rg:=[iM 120 12,iM 19 120]
def ahY:Rg:=[iM 121 14,iN 122 121,iI 123 0]
def ahZ:Rg:=[iB 124 .lss 123 122]
def aiA:Rg:=[iM 125 123,iX 126 1 121 123,iL 127 126,iM 20 125,iM 21 127]
def aiB:Rg:=[iM 128 21,iC 129 .gtr 128 1]
def aiC:Rg:=[iM 130 19,iM 131 11,iM 132 20,iA 133 (.callv (Tm 131) [(Ci 3),(Tm 132)]),iA 134 (.bslice true 3 1 [(.int .i64 0),(.int .i64 0),(.int .i64 0)] [(0,(Tm 133))]),iA 135 (.append 3 24 (Tm 130) (Tm 134)),iM 19 135]
def KN:Rg:=[iC 136 .add 123 1,iM 123 136]
def KI:aD:=(.seq (.region ahZ) (.seq (.cond (Tm 124) .skip (.exit 6)) (.seq (.block 7 (.seq (.region aiA) (.seq (.region aiB) (.cond (Tm 129) (.region aiC) .skip)))) (.region KN))))
def aiD:Rg:=[iM 137 19,iM 138 13,iA 139 (.append 3 24 (Tm 137) (Tm 138)),iM 19 139]
def aiE:Rg:=[iM 140 15,iN 141 140,iI 142 0]
def aiF:Rg:=[iB 143 .lss 142 141]
def aiG:Rg:=[iM 144 142,iX 145 1 140 142,iL 146 145,iM 22 144,iM 23 146]
def KO:Rg:=[iF 147 3 3,iL 148 147,iM 149 22,iX 150 7 148 149,iF 151 1 150,iL 152 151,iF 153 4 7,iA 154 (.idxA 5 1 (Tm 153) (Tm 152)),iL 155 154,iM 24 155]
def wT:Rg:=[iM 156 24,iC 157 .gtr 156 0,iM 158 157,iG 159 (.mv (Tm 23)) 158 true,iG 160 (.mv (Tm 24)) 158 true,iG 161 (.bin .gtr (Tm 159) (Tm 160)) 158 true,iA 162 (.pick (Tm 158) (Tm 161) (.const (.bool false)))]
def aiH:Rg:=[iM 163 19,iM 164 11,iM 165 22,iA 166 (.callv (Tm 164) [(Ci 5),(Tm 165)]),iA 167 (.bslice true 3 1 [(.int .i64 0),(.int .i64 0),(.int .i64 0)] [(0,(Tm 166))]),iA 168 (.append 3 24 (Tm 163) (Tm 167)),iM 19 168]
def wU:Rg:=[iC 169 .add 142 1,iM 142 169]
def KJ:aD:=(.seq (.region aiF) (.seq (.cond (Tm 143) .skip (.exit 8)) (.seq (.block 9 (.seq (.region aiG) (.seq (.region KO) (.seq (.region wT) (.cond (Tm 162) (.region aiH) .skip))))) (.region wU))))
def aiI:Rg:=[iM 170 19,iM 6 170]
def EL:aD:=(.seq (.region awD) (.seq (.draw awE) (.seq (.region awF) (.seq (.seq (.region awG) (.block 0 (.loop awC))) (.seq (.region awL) (.seq (.region ahP) (.seq (.draw ahQ) (.seq (.seq (.region ahR) (.block 2 (.loop pA))) (.seq (.region ahX) (.seq (.seq (.region ahY) (.block 6 (.loop KI))) (.seq (.region aiD) (.seq (.seq (.region aiE) (.block 8 (.loop KJ))) (.seq (.region aiI) .ret)))))))))))))
def aXT:List Nat:=[3,75,91,134,167]
def ajZ:bE:=⟨3,171,EL,[.tmp 6]⟩
def avT:Rg:=[iA 3 (.box true (Tm 0)),iA 6 (.mv (.const .nils))]
def avU:Rg:=[iA 15 (.load (some 7) (Tm 3)),iA 16 (.call 161 [(Tm 15)]),iA 17 (.un .not (Tm 16)),iM 14 17]
def avV:Rg:=[iA 6 (.mv (.const .nils))]
def SJ:Rg:=[iM 19 1,iN 20 19,iF 21 6 3,iL 22 21,iN 23 22,iB 24 .neq 20 23,iM 18 24]
def avW:Rg:=[iM 25 1,iN 26 25,iA 27 (.build [(.int .i64 0),(.int .i64 0),(.int .i64 0)] [(0,1,(Ci 1)),(1,1,(Ci (-1))),(2,1,(Tm 26))]),iA 28 (.bslice true 3 1 [(.int .i64 0),(.int .i64 0),(.int .i64 0)] [(0,(Tm 27))]),iM 6 28]
def avX:Rg:=[iA 7 (.mv (.const .nils))]
def avY:Rg:=[iM 29 1,iN 30 29,iI 31 0]
def avZ:Rg:=[iB 32 .lss 31 30]
def awA:Rg:=[iM 33 31,iM 8 33]
def awB:Rg:=[iA 35 (.load (some 7) (Tm 3)),iM 36 1,iM 37 8,iA 38 (.call 160 [(Tm 35),(Tm 36),(Tm 37)]),iM 34 38,iA 39 (.extract (Tm 34) 0),iA 40 (.extract (Tm 34) 1),iA 9 (.alloc [(.int .i64 0),(.int .i64 0),(.int .i64 0)]),iS 3 9 39,iM 10 40]
def KE:Rg:=[iM 41 10]
def ahE:Rg:=[iM 42 7,iA 43 (.load (some 3) (Tm 9)),iA 44 (.bslice true 3 1 [(.int .i64 0),(.int .i64 0),(.int .i64 0)] [(0,(Tm 43))]),iA 45 (.append 3 24 (Tm 42) (Tm 44)),iM 7 45]
def ahF:Rg:=[iM 46 7,iA 47 (.load (some 7) (Tm 3)),iM 48 1,iM 49 8,iA 50 (.call 158 [(Tm 47),(Tm 48),(Tm 49)]),iA 51 (.append 3 24 (Tm 46) (Tm 50)),iM 7 51]
def KF:Rg:=[iC 52 .add 31 1,iM 31 52]
def ahD:aD:=(.seq (.region avZ) (.seq (.cond (Tm 32) .skip (.exit 1)) (.seq (.block 2 (.seq (.region awA) (.seq (.seq (.region awB) (.seq (.region KE) (.cond (Tm 41) (.seq (.region ahE) (.exit 2)) .skip))) (.region ahF)))) (.region KF))))
def ahG:Rg:=[iA 53 (.load (some 7) (Tm 3)),iM 54 2,iA 55 (.call 152 [(Tm 53),(Tm 54)]),iM 11 55]
def ahH:Rg:=[iA 56 (.load (some 7) (Tm 3)),iM 57 1,iA 58 (.call 157 [(Tm 56),(Tm 57)]),iN 59 58,iI 60 0]
def ahI:Rg:=[iB 61 .lss 60 59]
def ahJ:Rg:=[iM 62 60,iX 63 1 58 60,iL 64 63,iM 12 62,iM 13 64]
def ahK:Rg:=[iM 65 13,iM 66 11,iM 67 12,iX 68 1 66 67,iL 69 68,iB 70 .gtr 65 69]
def ahL:Rg:=[iM 71 7,iM 72 12,iA 73 (.build [(.int .i64 0),(.int .i64 0),(.int .i64 0)] [(0,1,(Ci 6)),(1,1,(Ci (-1))),(2,1,(Tm 72))]),iA 74 (.bslice true 3 1 [(.int .i64 0),(.int .i64 0),(.int .i64 0)] [(0,(Tm 73))]),iA 75 (.append 3 24 (Tm 71) (Tm 74)),iM 7 75]
def KG:Rg:=[iC 76 .add 60 1,iM 60 76]
def KD:aD:=(.seq (.region ahI) (.seq (.cond (Tm 61) .skip (.exit 3)) (.seq (.block 4 (.seq (.region ahJ) (.seq (.region ahK) (.cond (Tm 70) (.region ahL) .skip)))) (.region KG))))
def ahM:Rg:=[iM 77 7,iM 6 77]
def EK:aD:=(.seq (.region avT) (.seq (.block 0 (.seq (.region avU) (.cond (Tm 14) (.seq (.region avV) .ret) (.seq (.region SJ) (.cond (Tm 18) (.seq (.region avW) .ret) .skip))))) (.seq (.region avX) (.seq (.seq (.region avY) (.block 1 (.loop ahD))) (.seq (.region ahG) (.seq (.seq (.region ahH) (.block 3 (.loop KD))) (.seq (.region ahM) .ret)))))))
def aXR:List Nat:=[3,28,44,74]
def YC:bE:=⟨3,78,EK,[.tmp 6]⟩
def agI:Rg:=[iA 3 (.box true (Tm 0)),iA 6 (.mv (.const (.bool false)))]
def agJ:Rg:=[iA 7 (.load (some 7) (Tm 3)),iA 8 (.call 161 [(Tm 7)]),iM 9 8,iG 10 (.load (some 7) (Tm 3)) 9 true,iG 11 (.mv (Tm 1)) 9 true,iG 12 (.mv (Tm 2)) 9 true,iG 13 (.call 154 [(Tm 10),(Tm 11),(Tm 12)]) 9 true,iG 14 (.len (Tm 13)) 9 true,iG 15 (.bin .eql (Tm 14) (Ci 0)) 9 true,iA 16 (.pick (Tm 9) (Tm 15) (.const (.bool false))),iM 6 16]
def yU:aD:=(.seq (.region agI) (.seq (.region agJ) .ret))
def aSG:List Nat:=[3]
def JW:bE:=⟨3,17,yU,[.tmp 6]⟩
end Go.PM
namespace Go.PM
open Go Go.Na
theorem aSQ {C:Ctx} (h:∀ f:aH,f.Ok→aI C 96 [.agg f.cells] .nil (aK (.int .i64 (FB f)))) (f:aH) (hf:f.Ok) :
  yX.wp C (aX KC.res (bY (.bool (dC f)))) (PF.args [.agg f.cells]) .nil:=by
 simp -implicitDefEqProofs only[go_sem,δ,γ,yX,ahB,ahC,KC]
 refine aB (h f hf) rfl ?_
 simp -implicitDefEqProofs only[go_sem,γ]
 refine aU rfl ?_
 unfold FB
 cases dC f<;>rfl
theorem oN {f:aH} {d:Nat} (h:d<f.drives.length):(f.drives.map cP.cells)[d]?=some (f.drives[d]).cells:=by simp[h]
theorem mS {f:aH} {d:Nat} (h:d<f.domains.length):(f.domains.map cK.cells)[d]?=some (f.domains[d]).cells:=by simp[h]
theorem FG {f:aH} {d:Nat} (h:d<f.volumes.length):(f.volumes.map fK.cells)[d]?=some (f.volumes[d]).cells:=by simp[h]
theorem yO {f:aH} {d:Nat} (h:d<f.policies.length):(f.policies.map cO.cells)[d]?=some (f.policies[d]).cells:=by simp[h]
theorem aeJ {f:aH} {d:Nat} (h:d<f.models.length):(f.models.map cT.cells)[d]?=some (f.models[d]).cells:=by simp[h]
theorem aqB {f:aH} {d:Nat} (h:d<f.domains.length):(f.domains[d]).level=lvl f d:=by rw[lvl,getD_at h]
theorem WV {f:aH} {d:Nat} (h:d<f.domains.length):(f.domains[d]).parent=par f d:=by rw[par,getD_at h]
theorem VF.aEN {f:aH} (h:VF f) {d:Nat} (hd:d<f.drives.length):(f.drives[d]).machine=((fG f d:Nat):Int):=by
 have:=(h.drive d hd).2.2.1
 rw[fG,getD_at hd]; omega
theorem VF.UW {f:aH} (h:VF f) {d:Nat} (hd:d<f.drives.length):(f.drives[d]).model=((mdl f d:Nat):Int):=by
 have:=(h.drive d hd).1
 rw[mdl,getD_at hd]; omega
theorem VF.auG {f:aH} (h:VF f) {v:Nat} (hv:v<f.volumes.length):(f.volumes[v]).policy=((JF f v:Nat):Int):=by
 have:=(h.volume v hv).1
 rw[JF,getD_at hv]; omega
theorem VF.aGZ {f:aH} (h:VF f) {i:Nat} (h0:0<i) (hi:i<f.domains.length):par f i=((SB f i:Nat):Int):=by
 have:=(h.dom i h0 hi).1
 rw[SB]; omega
theorem qY {f:aH} (h:VF f) {v:Nat} (hv:v<f.volumes.length):∃ hp:JF f v<f.policies.length,f.policies[JF f v]=gC f v:=by
 have hp:=(h.volume v hv).2
 exact⟨hp,by simp[gC,bhN,hp]⟩
theorem aXL {C:Ctx} (f:aH) (hv:VF f) (v:Nat) (h:v<f.volumes.length) :
  EG.wp C (aX XV.res (bY (.int .i64 (fS f v)))) (PF.args [.agg f.cells,.int .i64 v]) .nil:=by
 obtain⟨hp,he⟩:=qY hv h
 have hpol:=hv.policy _ (bgY hp)
 rw[he] at hpol
 have hw:IntKind.i64.wrap ((gC f v).k+(gC f v).m)=(gC f v).k+(gC f v).m:=wrap_i64 (by omega) (by omega)
 simp -implicitDefEqProofs only[go_sem,EG,avE,XV]
 refine cD .nil dV PH.nil_le ?_
 simp -implicitDefEqProofs only[go_sem,δ,γ,θ,avF,FG h,hv.auG h,yO hp,he]
 refine aQ fun o ho=>?_
 simp -implicitDefEqProofs only[go_sem,δ,γ,θ,avG,hw]
 refine⟨PH.nil_le,?_⟩
 exact fH (n:=(gC f v).k+(gC f v).m) rfl rfl
def abF (f:aH) (level:Int) (i:Nat):PF:=(((PF.nil.set 3 (.rptr f.cells)).set 2 (.int .i64 level)).set 7 (.int .i64 i))
theorem aRX {C:Ctx} (f:aH) (hv:VF f) (d:Nat) (h:d<f.drives.length) (level:Int) (h0:0≤level) (h4:level≤4) :
  yS.wp C (aX JR.res (bY (.int .i64 (iK f d level:Nat)))) (PF.args [.agg f.cells,.int .i64 d,.int .i64 level]) .nil:=by
 simp -implicitDefEqProofs only[go_sem,δ,γ,θ,yS,afW,afX,JR,oN h,hv.aEN h]
 refine wp_loop (α:=Nat) (fun k=>abF f level (upN f k (fG f d))) (fun _=>.nil) (fun k=>k≤4-level.toNat) (fun k=>4-level.toNat-k) 0 (bhC _) ?_ PH.nil_le ?_
 ·unfold abF
  (repeat' (first|exact PF.nil_le|refine PF.aA ?_ ?_))<;>first|(simp -implicitDefEqProofs only[go_sem,γ,upN]<;>rfl)|rfl
 intro k hk
 obtain⟨u1,u2⟩:=YQ hv h (k:=k) (by omega)
 simp -implicitDefEqProofs only[go_sem,δ,γ,θ,afV,afY,abF,mS u1,aqB u1]
 by_cases hlt:k<4-level.toNat
 ·have hc:lvl f (upN f k (fG f d))>level:=by rw[u2]; omega
  have hne:0<upN f k (fG f d):=by
   rcases biW (upN f k (fG f d)) with e | e
   ·rw[e,hv.root.2.1] at u2; omega
   ·exact e
  simp -implicitDefEqProofs only[go_sem,δ,γ,θ,hc,afZ,mS u1,WV u1,hv.aGZ hne u1]
  refine aJ (k+1) hlt (by omega) ?_ PH.nil_le
  (repeat' (first|exact PF.nil_le|refine PF.aA ?_ ?_))<;>first|(simp -implicitDefEqProofs only[go_sem,γ,upN]<;>rfl)|rfl
 ·have hc:¬ lvl f (upN f k (fG f d))>level:=by rw[u2]; omega
  have:k=4-level.toNat:=by omega
  subst this
  simp -implicitDefEqProofs only[go_sem,γ,hc,agA]
  exact fH rfl rfl
structure LK (C:Ctx):Prop where
 valid:∀ f:aH,f.Ok→aI C 161 [.agg f.cells] .nil (aK (.bool (dC f)))
 lW:∀ (f:aH) (d:Nat) (level:Int),VF f→d<f.drives.length→0≤level→level≤4→aI C 155 [.agg f.cells,.int .i64 d,.int .i64 level] .nil (aK (.int .i64 (iK f d level:Nat)))
 frag:∀ (f:aH) (v:Nat),VF f→v<f.volumes.length→aI C 156 [.agg f.cells,.int .i64 v] .nil (aK (.int .i64 (fS f v)))
def atP (f:aH) (d level:Int):Int:=if dC f∧0≤d∧d<f.drives.length∧0≤level∧level<5 then (iK f d.toNat level:Nat) else -1
theorem a5O {C:Ctx} (L:LK C) (f:aH) (hf:f.Ok) (d level:Int) :
  SI.wp C (aX tat.res (bY (.int .i64 (atP f d level)))) (PF.args [.agg f.cells,.int .i64 d,.int .i64 level]) .nil:=by
 simp -implicitDefEqProofs only[go_sem,δ,γ,SI,aRZ,aSA,tat]
 refine aB (L.valid f hf) rfl ?_
 unfold atP
 cases hv:dC f with
 | false =>
  simp -implicitDefEqProofs only[go_sem,ο,γ,reduceCtorEq,bhK,AM]
  exact fH rfl (by simp)
 | true =>
  have hV:=VF.of hv
  by_cases c1:d<0
  ·simp -implicitDefEqProofs only[go_sem,ο,γ,reduceCtorEq,bgZ,c1,AM]
   exact fH rfl (by rw[if_neg (by omega)])
  ·by_cases c2:d≥(f.drives.length:Nat)
   ·simp -implicitDefEqProofs only[go_sem,ο,δ,γ,θ,reduceCtorEq,bgZ,c1,bgR,c2,AM]
    exact fH rfl (by rw[if_neg (by omega)])
   ·by_cases c3:level<0
    ·simp -implicitDefEqProofs only[go_sem,ο,δ,γ,θ,reduceCtorEq,bgZ,c1,bgR,c2,c3,AM]
     exact fH rfl (by rw[if_neg (by omega)])
    ·by_cases c4:level≥5
     ·simp -implicitDefEqProofs only[go_sem,ο,δ,γ,θ,reduceCtorEq,bgZ,c1,bgR,c2,c3,c4,AM]
      exact fH rfl (by rw[if_neg (by omega)])
     ·simp -implicitDefEqProofs only[go_sem,ο,δ,γ,θ,reduceCtorEq,bgZ,c1,bgR,c2,c3,c4,aSB]
      have hc:=L.lW f d.toNat level hV (by omega) (by omega) (by omega)
      rw[Int.toNat_of_nonneg (by omega)] at hc
      refine aB hc rfl ?_
      simp -implicitDefEqProofs only[go_sem,ο,γ]
      exact fH rfl (by rw[if_pos (by omega)])
end Go.PM
