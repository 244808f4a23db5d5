/-
  Texts of ours, joined: FrW3 FrW4 FlCode Pm33 FlW1 FlPlain FlW2 Pm34 R1W1 R1W2 R1W3 R1W4 FlW3 FlW4 FlW5 FlW6 FlW7 FlW8 FlW9 ToPlain MkPlain Mv1 Mv2 Mv3 Mv4 ToCode ToW1. No condition.
-/
import Derived.Test.YtelckcmlobadkaaGreatDoorK1
import Derived.Test.YtelckcmlobadkaaGreatDoorK2
import Derived.Lib.ItoaNum
set_option linter.unusedSimpArgs false
set_option linter.unusedVariables false
open Nat renaming reduceEqDiff → γ, reduceAdd → δ, reduceSub → ε, reduceMul → ζ, reduceLT → η, reduceLeDiff → θ, reduceBEq → τ
open Int renaming reduceLT → ι, reduceLE → κ, reduceEq → μ, reduceToNat → ν, reduceAdd → ξ, reduceNeg → ο, reduceBEq → ρ, reduceBNe → σ
open List renaming reduceReplicate → υ
open List renaming length_map → bgT, replicate → bgV, length_append → bgW, getElem_mem → bgY, length_singleton → bhA, range → bhB, mem_cons → bhF, getElem?_eq_getElem → bhH, take_of_length_le → bhI, length_take → bhJ, not_mem_nil → bhM, getD_eq_getElem?_getD → bhQ, drop_zero → bhV, all_eq_true → bhW, append_assoc → bhY, take_length → bhZ, mem_map → biA, map_cons → biC, getElem?_eq_none → biE, getElem?_eq_some_iff → biG, getElem?_map → biH, getElem_map → biI, getElem_of_mem → biL, mem_range → biM, append_nil → biN, mem_append → biO, drop_eq_getElem_cons → biQ, length_drop → biR, map_append → biS, Sublist → biU, map_nil → biV, take_succ_eq_append_getElem → biZ, length_nil → bjB, length_set → bjC, take_append_drop → bjE, ext_getElem → bjH, mem_of_getElem? → bjI, length_cons → bjJ, nodup_append → bjK, getElem?_take → bjO, getElem?_append_left → bjQ, set_append_right → bjR, getElem?_append_right → bjU, drop_of_length_le → bkA
open Nat renaming gcd → bgU, le_refl → bgX, mul_add → bhD, zero_le → bhE, lt_or_ge → bhK, mul_assoc → bhL, mul_comm → bhR, zero_add → bhS, add_mul → bhT, mul_le_mul_right → bhU, mod_eq_of_lt → bhX, mod_lt → biB, pow_succ → biJ, add_zero → biP, min_eq_left → biT, add_assoc → biW, mul_le_mul_left → biX, eq_zero_or_pos → bjA, pos_of_ne_zero → bjF, pow_pos → bjG, div_lt_iff_lt_mul → bjL, le_trans → bjM, div_le_self → bjS, div_add_mod → bjV, div_eq_of_lt → bjW
open Option renaming map_eq_some_iff → bgZ, map_some → biD, some → biY, getD_some → bjP, bind_eq_some_iff → bjX, bind_some → bkB
open Bool renaming not_true → bhC, false_and → bhG, not_false → bhN, and_eq_true → bhO, true_and → bhP, and_false → biF, and_true → bjD, false_eq_true → bjZ
open Array renaming replicate → biK, length_toList → bjN, getElem?_eq_getElem → bjY, getElem?_eq_some_iff → bkC
open Int renaming toNat_natCast → bjT
namespace Go.PM
open Go Go.Na
structure BU (C:Ctx):Prop extends pP C where
 times:∀ a b,Lim a→Lim b→a.length≤16777216→b.length≤16777216→nl (val a)≤256→nl (val b)≤256→aJ C 121 [aF a,aF b] .nil (aL (aF (aH (val a*val b))))
 zero:∀ neg a b,Lim a→a.length≤16777216→aJ C 122 [.agg (eW neg a b)] .nil (aL (.bool (decide (val a=0))))
 valid:∀ neg a b,Lim a→Lim b→a.length≤16777216→b.length≤16777216→aJ C 118 [.agg (eW neg a b)] .nil (aL (.bool (dH (val a) (val b))))
 abs:∀ v:Int,-9223372036854775808≤v→v≤9223372036854775807→aJ C 119 [.int .i64 v] .nil (aL (aF (aH v.natAbs)))
 lowest:∀ neg a b,Lim a→Lim b→a.length≤16777216→b.length≤16777216→nl (val a)≤512→nl (val b)≤512→val b≠0→aJ C 120 [.bool neg,aF a,aF b] .nil (aL (DJ neg (val a) (val b)))
def WN (n d:Int):PV:=if d=0 then wL 3 else DJ (decide (n<0) != decide (d<0)) n.natAbs d.natAbs
theorem mL {n k:Nat} (h:n<4294967296 ^ k):nl n≤k:=(gQ _ _).2 h
theorem arJ (neg:Bool) (a b:Nat):∃ neg' x y e,DJ neg a b=.tup [.agg (eW neg' x y),.int .i64 e]:=by
 unfold DJ
 split
 ·exact⟨_,_,_,_,rfl⟩
 ·exact⟨_,_,_,_,rfl⟩
theorem aUC {C:Ctx} (L:BU C) (n d:Int) (h1:-9223372036854775808≤n) (h2:n≤9223372036854775807) (h3:-9223372036854775808≤d) (h4:d≤9223372036854775807) :
  CH.wp C (aY MP.res (bY (WN n d))) (PF.args [.int .i64 n,.int .i64 d]) .nil:=by
 simp -implicitDefEqProofs only[go_sem,δ,CH,anH,anI]
 refine aQ fun o ho=>?_
 unfold WN
 by_cases c:d=0
 ·subst c
  simp -implicitDefEqProofs only[go_sem,ρ,δ,γ,anJ]
  refine lD ?_
  simp -implicitDefEqProofs only[go_sem,δ,γ,MP]
 ·rw[if_neg c]
  simp -implicitDefEqProofs only[go_sem,γ,reduceCtorEq,bF c,anK]
  refine aB (L.abs n h1 h2) rfl ?_
  simp -implicitDefEqProofs only[go_sem,γ]
  refine aB (L.abs d h3 h4) rfl ?_
  simp -implicitDefEqProofs only[go_sem]
  have n1:nl n.natAbs≤2:=mL (by omega)
  have n2:nl d.natAbs≤2:=mL (by omega)
  have low:=L.lowest (decide (n<0) != decide (d<0)) (aH n.natAbs) (aH d.natAbs) (bD _) (bD _) (by rw[bH]; omega) (by rw[bH]; omega)
  rw[aX,aX] at low
  have low:=low (by omega) (by omega) (by omega)
  refine aB low rfl ?_
  obtain⟨neg',x,y,e,hl⟩:=arJ (decide (n<0) != decide (d<0)) n.natAbs d.natAbs
  rw[hl]
  simp -implicitDefEqProofs only[go_sem,δ,γ]
  exact aW (.inr rfl) .nil (vs:=[.agg (eW neg' x y),.int .i64 e]) (by simp -implicitDefEqProofs only[go_sem,δ,γ,MP]) PH.nil_le ⟨.refl _,rfl⟩
theorem lG {a b:Nat}:dH a b=true↔b≠0∧nl b≤128∧nl a≤128:=by
 have h1:=uL b 128
 have h2:=uL a 128
 have h3:=@gU b
 simp only[dH,bhO,decide_eq_true_eq]
 omega
def NG (neg:Bool) (a b:Nat):PV:=if dH a b then DJ neg a b else wL 1
theorem aJG {C:Ctx} (L:BU C) (neg:Bool) (a b:List Nat) (ha:Lim a) (hb:Lim b) (la:a.length≤16777216) (lb:b.length≤16777216) :
  vD.wp C (aY uN.res (bY (NG neg (val a) (val b)))) (PF.args [.agg (eW neg a b)]) .nil:=by
 simp -implicitDefEqProofs only[go_sem,δ,vD,VI,VJ]
 refine aQ fun o ho=>?_
 simp -implicitDefEqProofs only[go_sem,δ,γ]
 refine aB (L.valid neg a b ha hb la lb) rfl ?_
 unfold NG
 cases hv:dH (val a) (val b) with
 | false =>
  simp -implicitDefEqProofs only[go_sem,δ,γ,reduceCtorEq,VK,bhN]
  refine lD ?_
  simp -implicitDefEqProofs only[go_sem,δ,γ,uN]
 | true =>
  obtain⟨v1,v2,v3⟩:=lG.1 hv
  simp -implicitDefEqProofs only[go_sem,δ,γ,θ,VL,bhC]
  refine aB (L.lowest neg a b ha hb la lb (by omega) (by omega) v1) rfl ?_
  obtain⟨neg',x,y,e,hl⟩:=arJ neg (val a) (val b)
  rw[hl]
  simp -implicitDefEqProofs only[go_sem,δ,γ]
  exact aW (.inr rfl) .nil (vs:=[.agg (eW neg' x y),.int .i64 e]) (by simp -implicitDefEqProofs only[go_sem,δ,γ,uN]) PH.nil_le ⟨.refl _,rfl⟩
def vQ (n1:Bool) (a1 b1:Nat) (n2:Bool) (a2 b2:Nat):Int :=
 match n1&&decide (a1≠0),n2&&decide (a2≠0) with
 | true,true=>- dE (a1*b2) (a2*b1)
 | true,false=>-1
 | false,true=>1
 | false,false=>dE (a1*b2) (a2*b1)
def wK (n1:Bool) (a1 b1:Nat) (n2:Bool) (a2 b2:Nat):PV :=
 if dH a1 b1&&dH a2 b2 then .tup [.int .i64 (vQ n1 a1 b1 n2 a2 b2),.int .i64 0] else .tup [.int .i64 0,.int .i64 1]
def fr1:PV→List Nat
 | .agg [_,a,_]=>jG a
 | _=>[]
def frS:Spec:=fun name vs=>match name,vs with
 | 121,[x,y]=>some ([],fun _=>aL (aF (aH (val (jG x)*val (jG y)))))
 | 129,[x,y]=>some ([],fun _=>aL (.int .i64 (dE (val (jG x)) (val (jG y)))))
 | 122,[x]=>some ([],fun _=>aL (.bool (decide (val (fr1 x)=0))))
 | _,_=>none
theorem sO (a b:List Nat):frS 121 [aF a,aF b]=some ([],fun _=>aL (aF (aH (val a*val b)))):=by
 show some _=_; rw[eK,eK]
theorem aZY (a b:List Nat):frS 129 [aF a,aF b]=some ([],fun _=>aL (.int .i64 (dE (val a) (val b)))):=by
 show some _=_; rw[eK,eK]
theorem RH (neg:Bool) (a b:List Nat):frS 122 [.agg (eW neg a b)]=some ([],fun _=>aL (.bool (decide (val a=0)))):=by
 show some _=_; rw[fr1,eK]
theorem aTO (a b:Nat):IntKind.i64.wrap (0-dE a b)=- dE a b:=by
 unfold dE; split
 ·rfl
 ·split<;>rfl
theorem aZU {C:Ctx} (L:BU C) (n1 n2:Bool) (a1 b1 a2 b2:List Nat) (ha1:Lim a1) (hb1:Lim b1) (ha2:Lim a2) (hb2:Lim b2)
  (la1:a1.length≤16777216) (lb1:b1.length≤16777216) (la2:a2.length≤16777216) (lb2:b2.length≤16777216) :
  HM.wp C (aY anD.res (bY (wK n1 (val a1) (val b1) n2 (val a2) (val b2)))) (PF.args [.agg (eW n1 a1 b1),.agg (eW n2 a2 b2)]) .nil:=by
 simp -implicitDefEqProofs only[go_sem,δ,γ,HM,aCA,aCB]
 refine aB (L.valid n1 a1 b1 ha1 hb1 la1 lb1) rfl ?_
 unfold wK
 cases hv:dH (val a1) (val b1) with
 | false =>
  simp -implicitDefEqProofs only[go_sem,γ,reduceCtorEq,bhN,abG,bhG]
  exact aW (.inr rfl) .nil (vs:=[.int .i64 0,.int .i64 1]) rfl PH.nil_le ⟨.refl _,rfl⟩
 | true =>
  obtain⟨v1,v2,v3⟩:=lG.1 hv
  simp -implicitDefEqProofs only[go_sem,δ,γ,bhC]
  refine aB (L.valid n2 a2 b2 ha2 hb2 la2 lb2) rfl ?_
  cases hw:dH (val a2) (val b2) with
  | false =>
   simp -implicitDefEqProofs only[go_sem,γ,reduceCtorEq,bhN,abG,biF]
   exact aW (.inr rfl) .nil (vs:=[.int .i64 0,.int .i64 1]) rfl PH.nil_le ⟨.refl _,rfl⟩
  | true =>
   obtain⟨w1,w2,w3⟩:=lG.1 hw
   simp -implicitDefEqProofs only[go_sem,γ,reduceCtorEq,bhC,bjD]
   refine cA .nil frS PH.nil_le ?_
   simp -implicitDefEqProofs only[go_sem,δ,γ,θ,aCC]
   refine cO (sO a1 b2) (L.times a1 b2 ha1 hb2 la1 lb2 (by omega) (by omega)) rfl PH.nil_le ?_
   simp -implicitDefEqProofs only[go_sem,δ,γ,θ]
   refine cO (sO a2 b1) (L.times a2 b1 ha2 hb1 la2 lb1 (by omega) (by omega)) rfl PH.nil_le ?_
   simp -implicitDefEqProofs only[go_sem]
   have m1:=sT v3 w2
   have m2:=sT w3 v2
   have hc:=L.cmp (aH (val a1*val b2)) (aH (val a2*val b1)) (bD _) (bD _) (by rw[bH]; omega) (by rw[bH]; omega)
   have hs:=aZY (aH (val a1*val b2)) (aH (val a2*val b1))
   rw[aX,aX] at hc hs
   refine cO hs hc rfl PH.nil_le ?_
   simp -implicitDefEqProofs only[go_sem,γ]
   refine cA .nil frS PH.nil_le ?_
   have z1:(!decide (val a1=0))=decide (val a1≠0):=by by_cases h:val a1=0<;>simp[h]
   have z2:(!decide (val a2=0))=decide (val a2≠0):=by by_cases h:val a2=0<;>simp[h]
   have fin:∀ (F:PF) (A B:Bool),F 6=some (.int .i64 (dE (val a1*val b2) (val a2*val b1)))→F 7=some (.bool A)→F 8=some (.bool B)→A=(n1&&decide (val a1≠0))→B=(n2&&decide (val a2≠0)) →
     aD.wp C (.seq (.block 0 (.seq (.region uM) (.cond (.tmp 42) (.seq (.region abH) .ret) (.seq (.region AV) (.cond (.tmp 49) (.seq (.region abI) .ret) (.seq (.region MN) (.cond (.tmp 51) (.seq (.region RD) .ret) .skip))))))) (.seq (.region RE) .ret)) (aY anD.res (bY (.tup [.int .i64 (vQ n1 (val a1) (val b1) n2 (val a2) (val b2)),.int .i64 0]))) F .nil:=by
    intro F A B f6 f7 f8 hA hB
    rw[vQ,← hA,← hB]
    cases A<;>cases B
    ·simp -implicitDefEqProofs only[go_sem,γ,reduceCtorEq,uM,AV,MN,RE,f6,f7,f8]
     exact aW (.inr rfl) .nil rfl PH.nil_le ⟨.refl _,rfl⟩
    ·simp -implicitDefEqProofs only[go_sem,γ,reduceCtorEq,uM,AV,MN,RD,f6,f7,f8]
     exact aW (.inr rfl) .nil rfl PH.nil_le ⟨.refl _,rfl⟩
    ·simp -implicitDefEqProofs only[go_sem,ο,γ,uM,AV,abI,f6,f7,f8]
     exact aW (.inr rfl) .nil rfl PH.nil_le ⟨.refl _,rfl⟩
    ·simp -implicitDefEqProofs only[go_sem,γ,uM,abH,f6,f7,f8,aTO]
     exact aW (.inr rfl) .nil rfl PH.nil_le ⟨.refl _,rfl⟩
   simp only[aD.wp,go_sem] at fin
   simp -implicitDefEqProofs only[go_sem,δ,γ,θ,aCD]
   cases n1 with
   | false =>
    simp -implicitDefEqProofs only[go_sem,δ,γ,θ,reduceCtorEq]
    cases n2 with
    | false =>
     simp -implicitDefEqProofs only[go_sem,γ,reduceCtorEq]
     exact fin _ false false rfl rfl rfl rfl rfl
    | true =>
     simp -implicitDefEqProofs only[go_sem,δ,γ]
     refine cO (RH true a2 b2) (L.zero true a2 b2 ha2 la2) rfl PH.nil_le ?_
     simp -implicitDefEqProofs only[go_sem,γ,z2]
     exact fin _ false (decide (val a2≠0)) rfl rfl rfl rfl (by rw[bhP])
   | true =>
    simp -implicitDefEqProofs only[go_sem,δ,γ]
    refine cO (RH true a1 b1) (L.zero true a1 b1 ha1 la1) rfl PH.nil_le ?_
    simp -implicitDefEqProofs only[go_sem,δ,γ,θ,z1]
    cases n2 with
    | false =>
     simp -implicitDefEqProofs only[go_sem,γ,reduceCtorEq]
     exact fin _ (decide (val a1≠0)) false rfl rfl rfl (by rw[bhP]) rfl
    | true =>
     simp -implicitDefEqProofs only[go_sem,δ,γ]
     refine cO (RH true a2 b2) (L.zero true a2 b2 ha2 la2) rfl PH.nil_le ?_
     simp -implicitDefEqProofs only[go_sem,γ,z2]
     exact fin _ (decide (val a1≠0)) (decide (val a2≠0)) rfl rfl rfl (by rw[bhP]) (by rw[bhP])
end Go.PM
namespace Go.PM
open Go Go.Na
abbrev FV:=Bool × Nat × Nat
abbrev FR:=Except Int FV
def jT (neg:Bool) (a b:Nat):FR :=
 if cB (a/bgU a b)>4096∨cB (b/bgU a b)>4096 then .error 2 else .ok (neg&&decide (a/bgU a b≠0),a/bgU a b,b/bgU a b)
def frV:FR→PV
 | .ok (n,a,b)=>aJI n a b
 | .error e=>wL e
theorem abW (neg:Bool) (a b:Nat):DJ neg a b=frV (jT neg a b):=by
 unfold DJ jT
 split<;>rfl
def iT:FV→FV→FR
 | (n1,a1,b1),(n2,a2,b2)=>if dH a1 b1&&dH a2 b2 then
   (if n1=n2 then jT n1 (a1*b2+a2*b1) (b1*b2) else if a2*b1≤a1*b2 then jT n1 (a1*b2-a2*b1) (b1*b2) else jT n2 (a2*b1-a1*b2) (b1*b2))
  else .error 1
theorem a4X {a b m:Nat} (ha:nl a≤m) (hb:nl b≤m):nl (a+b)≤m+1:=by
 rw[gQ] at ha hb ⊢
 rw[biJ]; omega
theorem aBF (a b:Nat):(dE a b≥0)↔b≤a:=by
 unfold dE
 split
 ·constructor
  ·intro h; exact absurd h (by decide)
  ·intro h; omega
 ·split
  ·constructor
   ·intro h; omega
   ·intro h; decide
  ·constructor
   ·intro h; omega
   ·intro h; decide
theorem MR (r:FR):∃ neg' x y e,frV r=.tup [.agg (eW neg' x y),.int .i64 e]:=by
 rcases r with e | ⟨n,a,b⟩
 ·exact⟨_,_,_,_,rfl⟩
 ·exact⟨_,_,_,_,rfl⟩
theorem aZS {C:Ctx} (L:BU C) (n1 n2:Bool) (a1 b1 a2 b2:List Nat) (ha1:Lim a1) (hb1:Lim b1) (ha2:Lim a2) (hb2:Lim b2)
  (la1:a1.length≤16777216) (lb1:b1.length≤16777216) (la2:a2.length≤16777216) (lb2:b2.length≤16777216) :
  HL.wp C (aY HK.res (bY (frV (iT (n1,val a1,val b1) (n2,val a2,val b2))))) (PF.args [.agg (eW n1 a1 b1),.agg (eW n2 a2 b2)]) .nil:=by
 simp -implicitDefEqProofs only[go_sem,δ,γ,HL,aBR]
 refine aQ fun o ho=>?_
 simp -implicitDefEqProofs only[go_sem,δ,γ,aBS]
 refine aB (L.valid n1 a1 b1 ha1 hb1 la1 lb1) rfl ?_
 simp only[iT]
 cases hv:dH (val a1) (val b1) with
 | false =>
  simp -implicitDefEqProofs only[go_sem,δ,γ,reduceCtorEq,bhN,abE,bhG]
  refine lD ?_
  simp -implicitDefEqProofs only[go_sem,δ,γ,HK]
 | true =>
  obtain⟨v1,v2,v3⟩:=lG.1 hv
  simp -implicitDefEqProofs only[go_sem,δ,γ,bhC]
  refine aB (L.valid n2 a2 b2 ha2 hb2 la2 lb2) rfl ?_
  cases hw:dH (val a2) (val b2) with
  | false =>
   simp -implicitDefEqProofs only[go_sem,δ,γ,reduceCtorEq,bhN,abE,biF]
   refine lD ?_
   simp -implicitDefEqProofs only[go_sem,δ,γ,HK]
  | true =>
   obtain⟨w1,w2,w3⟩:=lG.1 hw
   simp -implicitDefEqProofs only[go_sem,γ,reduceCtorEq,bhC,bjD]
   refine cA .nil frS PH.nil_le ?_
   simp -implicitDefEqProofs only[go_sem,δ,γ,θ,aBT]
   refine cO (sO a1 b2) (L.times a1 b2 ha1 hb2 la1 lb2 (by omega) (by omega)) rfl PH.nil_le ?_
   simp -implicitDefEqProofs only[go_sem,δ,γ,θ]
   refine cO (sO a2 b1) (L.times a2 b1 ha2 hb1 la2 lb1 (by omega) (by omega)) rfl PH.nil_le ?_
   simp -implicitDefEqProofs only[go_sem,γ]
   refine cO (sO b1 b2) (L.times b1 b2 hb1 hb2 lb1 lb2 (by omega) (by omega)) rfl PH.nil_le ?_
   simp -implicitDefEqProofs only[go_sem,γ]
   have m1:=sT v3 w2
   have m2:=sT w3 v2
   have m3:=sT v2 w2
   have d0:val b1*val b2≠0:=Nat.mul_ne_zero v1 w1
   generalize hA:val a1*val b2=A at *
   generalize hB:val a2*val b1=B at *
   generalize hD:val b1*val b2=D at *
   have fin:∀ (F:PF) (H:PH) (r:FR),(∃ neg' x y e,frV r=.tup [.agg (eW neg' x y),.int .i64 e]∧F 4=some (.ptr o 3 0 0)∧F 5=some (.int .i64 e)∧H o=some (.rows 3 [eW neg' x y]))→aY HK.res (bY (frV r)) .ret F H:=by
    rintro F H r ⟨neg',x,y,e,he,f4,f5,hH⟩
    rw[he]
    exact aW (.inr rfl) .nil (vs:=[.agg (eW neg' x y),.int .i64 e]) (by simp -implicitDefEqProofs only[go_sem,δ,HK,f4,f5,hH]) PH.nil_le ⟨.refl _,rfl⟩
   have eb:(n1==n2)=decide (n1=n2):=by cases n1<;>cases n2<;>rfl
   have low:∀ neg x,nl x≤257→aJ C 120 [.bool neg,aF (aH x),aF (aH D)] .nil (aL (frV (jT neg x D))):=by
    intro neg x hx
    have h1:(aH x).length≤16777216:=by rw[bH]; omega
    have h2:(aH D).length≤16777216:=by rw[bH]; omega
    have:=L.lowest neg (aH x) (aH D) (bD _) (bD _) h1 h2
    rw[aX,aX,abW] at this
    exact this (by omega) (by omega) d0
   have lA:(aH A).length≤16777216:=by rw[bH]; omega
   have lB:(aH B).length≤16777216:=by rw[bH]; omega
   simp -implicitDefEqProofs only[go_sem,δ,γ,θ,aBU]
   by_cases c:n1=n2
   ·rw[if_pos c]
    have c':(n1==n2)=true:=by rw[eb,decide_eq_true c]
    simp -implicitDefEqProofs only[go_sem,γ,c',aBV]
    have hadd:=L.add (aH A) (aH B) (bD _) (bD _) lA lB
    have nab:=a4X m1 m2
    rw[aX,aX,iU (by omega) (by omega),opV,awM (by omega)] at hadd
    refine aB hadd rfl ?_
    simp -implicitDefEqProofs only[go_sem,δ,γ,θ,reduceCtorEq,aBW]
    refine aB (low n1 _ (by omega)) rfl ?_
    obtain⟨neg',x,y,e,hl⟩:=MR (jT n1 (A+B) D)
    rw[hl]
    simp -implicitDefEqProofs only[go_sem,δ,γ]
    rw[← hl]
    exact fin _ _ _ ⟨neg',x,y,e,hl,by simp -implicitDefEqProofs only[go_sem,γ],by simp -implicitDefEqProofs only[go_sem,γ],by simp -implicitDefEqProofs only[go_sem]⟩
   ·rw[if_neg c]
    have c':(n1==n2)=false:=by rw[eb,decide_eq_false c]
    simp -implicitDefEqProofs only[go_sem,γ,c',aBX]
    have hc:=L.cmp (aH A) (aH B) (bD _) (bD _) lA lB
    rw[aX,aX] at hc
    refine aB hc rfl ?_
    have hsub:∀ X Y:Nat,nl X≤256→nl Y≤256→Y≤X→aJ C 134 [aF (aH X),aF (aH Y)] .nil (aL (.tup [aF (aH (X-Y)),.int .i64 0])):=by
     intro X Y h1 h2 h
     have:=L.sub (aH X) (aH Y) (bD _) (bD _) (by rw[bH]; omega) (by rw[bH]; omega)
     have h3:=gN (show X-Y≤X by omega)
     rw[aX,aX,vZ,iU (by omega) (by omega),if_neg (by decide),if_neg (by omega),awM (by omega)] at this
     exact this
    by_cases g:B≤A
    ·have g':dE A B≥0:=(aBF A B).2 g
     rw[if_pos g]
     simp -implicitDefEqProofs only[go_sem,γ,g',aBY]
     refine aB (hsub A B (by omega) (by omega) g) rfl ?_
     simp -implicitDefEqProofs only[go_sem,δ,γ,θ,aBZ]
     have h3:=gN (show A-B≤A by omega)
     refine aB (low n1 (A-B) (by omega)) rfl ?_
     obtain⟨neg',x,y,e,hl⟩:=MR (jT n1 (A-B) D)
     rw[hl]
     simp -implicitDefEqProofs only[go_sem,δ,γ]
     rw[← hl]
     exact fin _ _ _ ⟨neg',x,y,e,hl,by simp -implicitDefEqProofs only[go_sem,γ],by simp -implicitDefEqProofs only[go_sem,γ],by simp -implicitDefEqProofs only[go_sem]⟩
    ·have g':¬ dE A B≥0:=fun h=>g ((aBF A B).1 h)
     rw[if_neg g]
     simp -implicitDefEqProofs only[go_sem,γ,g',anB]
     refine aB (hsub B A (by omega) (by omega) (by omega)) rfl ?_
     simp -implicitDefEqProofs only[go_sem,δ,γ,θ,anC]
     have h3:=gN (show B-A≤B by omega)
     refine aB (low n2 (B-A) (by omega)) rfl ?_
     obtain⟨neg',x,y,e,hl⟩:=MR (jT n2 (B-A) D)
     rw[hl]
     simp -implicitDefEqProofs only[go_sem,δ,γ]
     rw[← hl]
     exact fin _ _ _ ⟨neg',x,y,e,hl,by simp -implicitDefEqProofs only[go_sem,γ],by simp -implicitDefEqProofs only[go_sem,γ],by simp -implicitDefEqProofs only[go_sem]⟩
structure RF where
 neg:Bool
 num:List Nat
 den:List Nat
abbrev RF.cells (x:RF):List PV:=eW x.neg x.num x.den
def RF.Ok (x:RF):Prop:=Lim x.num∧Lim x.den∧x.num.length≤16777216∧x.den.length≤16777216
def RF.v (x:RF):FV:=(x.neg,val x.num,val x.den)
abbrev frs (l:List RF):PV:=.sl 3 (l.map RF.cells)
def FV.rf:FV→RF
 | (n,a,b)=>⟨n,aH a,aH b⟩
def FV.Small:FV→Prop
 | (_,a,b)=>nl a≤900000∧nl b≤900000
theorem FV.bfE (x:FV):x.rf.v=x:=by
 obtain⟨n,a,b⟩:=x
 show (n,val (aH a),val (aH b))=_
 rw[aX,aX]
def oS (l:List FV):FR:=l.foldlM iT (false,0,1)
theorem qI {neg:Bool} {a b:Nat} {r:FV} (h:jT neg a b=.ok r):r.Small∧r.rf.Ok:=by
 unfold jT at h
 split at h
 ·cases h
 ·rename_i hc
  have h1:=(uL (a/bgU a b) 128).1 (by omega)
  have h2:=(uL (b/bgU a b) 128).1 (by omega)
  injection h with h
  subst h
  refine⟨⟨by omega,by omega⟩,bD _,bD _,?_,?_⟩
  ·show (aH _).length≤_
   rw[bH]; omega
  ·show (aH _).length≤_
   rw[bH]; omega
theorem aBA {x y r:FV} (h:iT x y=.ok r):r.rf.Ok:=by
 obtain⟨n1,a1,b1⟩:=x
 obtain⟨n2,a2,b2⟩:=y
 simp only[iT] at h
 split at h
 ·split at h
  ·exact (qI h).2
  ·split at h
   ·exact (qI h).2
   ·exact (qI h).2
 ·cases h
theorem aAD {α β:Type} {f:β→α→Except Int β} (l:List α) (b:β) {k:Nat} (h:k<l.length):(l.take (k+1)).foldlM f b=((l.take k).foldlM f b).bind fun x=>f x l[k]:=by
 rw[biZ h,List.foldlM_append]
 cases (l.take k).foldlM f b with
 | error e=>rfl
 | ok x =>
  show ([l[k]]:List α).foldlM f x=f x l[k]
  rw[List.foldlM_cons]
  cases f x l[k]<;>rfl
theorem aJE {α β:Type} {f:β→α→Except Int β} (l:List α) (b:β) {k:Nat} {e:Int} (h:(l.take k).foldlM f b=.error e):l.foldlM f b=.error e:=by
 conv=>lhs; rw[← bjE k l,List.foldlM_append,h]
 rfl
def aXA (l:List RF) (o2 o4:Nat) (k:Nat):PF:=((((((PF.nil.set 2 (.ptr o2 3 0 0)).set 3 (.int .i64 0)).set 4 (.ptr o4 3 0 0)).set 11 (frs l)).set 12 (.int .i64 (l.length:Nat))).set 13 (.int .i64 k))
def TV (o2 o4:Nat) (c:List PV):PH:=(PH.nil.set o2 (.rows 3 [[.bool false,.nils,.nils]])).set o4 (.rows 3 [c])
theorem a0A {C:Ctx} (L:BU C) (hadd:∀ x y:RF,x.Ok→y.Ok→aJ C 113 [.agg x.cells,.agg y.cells] .nil (aL (frV (iT x.v y.v)))) (l:List RF) (hl:∀ x∈l,x.Ok) (hlen:l.length≤9223372036854775807) :
  HS.wp C (aY RJ.res (bY (frV (oS (l.map RF.v))))) (PF.args [frs l]) .nil:=by
 simp -implicitDefEqProofs only[go_sem,δ,HS,aCF]
 refine aQ fun o2 ho2=>?_
 simp -implicitDefEqProofs only[go_sem,aCG]
 refine aB (L.make 1 (by decide)) rfl ?_
 simp -implicitDefEqProofs only[go_sem,δ,γ]
 refine aQ fun o4 ho4=>?_
 have hne:o4≠o2:=by rintro rfl; simp only[aV,if_true] at ho4; cases ho4
 have hne':o2≠o4:=Ne.symm hne
 simp -implicitDefEqProofs only[go_sem,δ,γ,reduceCtorEq,aCH]
 refine wp_loop (α:=Nat × FV × PV) (fun t=>aXA l o2 o4 t.1) (fun t=>TV o2 o4 [.bool t.2.1.1,t.2.2,aF (aH t.2.1.2.2)]) (fun t=>t.1≤l.length∧((l.map RF.v).take t.1).foldlM iT (false,0,1)=.ok t.2.1∧(t.2.2=.nils∧t.2.1.2.1=0∨t.2.2=aF (aH t.2.1.2.1))∧(FV.rf t.2.1).Ok) (fun t=>l.length-t.1)
  (0,(false,0,1),.nils) ⟨bhE _,rfl,.inl ⟨rfl,rfl⟩,⟨bD _,bD _,?_,?_⟩⟩ ?_ ?_ ?_
 ·show (aH 0).length≤_
  rw[eY]; simp
 ·show (aH 1).length≤_
  rw[lM (by decide) (by decide)]; simp
 ·unfold aXA
  (repeat' (first|exact PF.nil_le|refine PF.aA ?_ ?_))<;>first|(simp -implicitDefEqProofs only[go_sem,γ,bgT]<;>rfl)|rfl
 ·unfold TV
  exact PH.aA (PH.aA PH.nil_le (by simp -implicitDefEqProofs only[go_sem,hne',hne])) (by simp -implicitDefEqProofs only[go_sem,hne',hne])
 rintro⟨k,⟨an,aa,ab⟩,cy⟩ ⟨hk,hf,hco,hacc⟩
 simp only at hk hf hco hacc ⊢
 have hco':CoL [.bool an,cy,aF (aH ab)] (FV.rf (an,aa,ab)).cells:=by
  refine .cons (.refl _) (.cons ?_ (.cons (.refl _) .nil))
  rcases hco with ⟨rfl,rfl⟩ | rfl
  ·show Co .nils (aF (aH 0))
   rw[eY]; exact .nil 1
  ·exact .refl _
 simp -implicitDefEqProofs only[go_sem,γ,anM,aCI,aXA]
 by_cases hlt:k<l.length
 ·have hlt':(k:Int)<(l.length:Nat):=by omega
  have hr:(l.map RF.cells)[k]?=some (l[k]).cells:=by simp[hlt]
  simp -implicitDefEqProofs only[go_sem,δ,γ,hlt',aCJ,hr]
  refine aQ fun o6 ho6=>?_
  have n64:o4≠o6:=by rintro rfl; simp only[TV,aV,if_true] at ho6; cases ho6
  have n62:o2≠o6:=by rintro rfl; simp only[TV,aV,if_true,if_neg hne'] at ho6; cases ho6
  simp -implicitDefEqProofs only[go_sem,δ,γ,aCK,TV,n64,n62,hne,hne']
  refine aB ((hadd (FV.rf (an,aa,ab)) l[k] hacc (hl _ (bgY hlt))).args (.cons (CoL.agg hco') (.cons (.refl _) .nil))) rfl ?_
  rw[FV.bfE]
  have hstep:=aAD (f:=iT) (l.map RF.v) (false,0,1) (k:=k) (by simpa using hlt)
  rw[hf] at hstep
  simp only[Except.bind,biI] at hstep
  cases he:iT (an,aa,ab) (l[k]).v with
  | error e =>
   simp -implicitDefEqProofs only[go_sem,δ,γ,frV]
   refine aQ fun o7 ho7=>?_
   have he0:e≠0:=by
    revert he
    obtain⟨n2,a2,b2⟩:=(l[k]).v
    simp only[iT,jT]
    repeat' split
    all_goals (intro h; first | (injection h with h; subst h; decide) | cases h)
   have n72:o2≠o7:=by rintro rfl; simp only[aV,n62,hne',if_true,if_false] at ho7; cases ho7
   simp -implicitDefEqProofs only[go_sem,δ,γ,abK,eC he0,aCL,n72,n62,hne']
   rw[he] at hstep
   rw[oS,aJE _ _ hstep]
   refine lD ?_
   simp -implicitDefEqProofs only[go_sem,δ,γ,RJ]
  | ok r =>
   obtain⟨rn,ra,rb⟩:=r
   simp -implicitDefEqProofs only[go_sem,δ,γ,frV]
   refine aQ fun o7 ho7=>?_
   have n74:o4≠o7:=by rintro rfl; simp only[aV,n64,if_true,if_false] at ho7; cases ho7
   have n72:o2≠o7:=by rintro rfl; simp only[aV,n62,hne',if_true,if_false] at ho7; cases ho7
   simp -implicitDefEqProofs only[go_sem,σ,δ,γ,abK,aCM,n74,n72,n64,n62,hne,hne',Ne.symm n74,aCN,aK (show k<9223372036854775807 by omega)]
   rw[he] at hstep
   refine aI (k+1,(rn,ra,rb),aF (aH ra)) ⟨hlt,hstep,.inr rfl,aBA he⟩ (by simp only; omega) ?_ ?_
   ·(repeat' (first|exact PF.nil_le|refine PF.aA ?_ ?_))<;>first|(simp -implicitDefEqProofs only[go_sem,γ]<;>rfl)|rfl
   ·refine PH.aA (PH.aA PH.nil_le ?_) ?_
    ·simp -implicitDefEqProofs only[go_sem,hne',hne,n74,n72,n64,n62]
    ·simp -implicitDefEqProofs only[go_sem,hne',hne,n74,n72,n64,n62]
 ·have hlt':¬ (k:Int)<(l.length:Nat):=by omega
  have:k=l.length:=by omega
  subst this
  rw[bhI (by simp)] at hf
  rw[oS,hf]
  have hfin:bY (frV (.ok (an,aa,ab))) (cN [.agg [.bool an,cy,aF (aH ab)],.int .i64 0]) .nil:=⟨CoL.tup (.cons (CoL.agg hco') (.cons (.refl _) .nil)),rfl⟩
  rcases hco with ⟨rfl,rfl⟩ | rfl
  ·simp -implicitDefEqProofs only[go_sem,δ,γ,hlt',RK,TV,hne,hne']
   refine aW (.inr rfl) .nil ?_ PH.nil_le hfin
   simp -implicitDefEqProofs only[go_sem,δ,γ,RJ,hne,hne']
  ·simp -implicitDefEqProofs only[go_sem,δ,γ,hlt',RK,TV,hne,hne']
   refine aW (.inr rfl) .nil ?_ PH.nil_le hfin
   simp -implicitDefEqProofs only[go_sem,δ,γ,RJ,hne,hne']
end Go.PM
namespace Go.PM
open Go
def nB:Rg:=[iA 2 (.mv (.const (.bool false)))]
def nC:Rg:=[iM 3 0,iA 4 (.bin .geq (Tm 3) (.const (.int .u8 97))),iM 5 4,iG 6 (.mv (Tm 0)) 5 true,iG 7 (.bin .leq (Tm 6) (.const (.int .u8 122))) 5 true,iA 8 (.pick (Tm 5) (Tm 7) (.const (.bool false))),iM 9 8,iG 10 (.mv (Tm 0)) 9 false,iG 11 (.bin .geq (Tm 10) (.const (.int .u8 65))) 9 false,iG 12 (.mv (Tm 11)) 9 false,iG 13 (.mv (Tm 0)) 12 true,iG 14 (.bin .leq (Tm 13) (.const (.int .u8 90))) 12 true,iG 15 (.pick (Tm 12) (Tm 14) (.const (.bool false))) 9 false,iA 16 (.pick (Tm 9) (.const (.bool true)) (Tm 15)),iM 2 16]
def jL:aD:=(.seq (.region nB) (.seq (.region nC) .ret))
def aKE:List Nat:=[]
def uS:bG:=⟨1,17,jL,[.tmp 2]⟩
def wR:Rg:=[iA 2 (.mv (.const (.bool false)))]
def wS:Rg:=[iM 3 0,iA 4 (.bin .geq (Tm 3) (.const (.int .u8 48))),iM 5 4,iG 6 (.mv (Tm 0)) 5 true,iG 7 (.bin .leq (Tm 6) (.const (.int .u8 57))) 5 true,iA 8 (.pick (Tm 5) (Tm 7) (.const (.bool false))),iM 2 8]
def nZ:aD:=(.seq (.region wR) (.seq (.region wS) .ret))
def aON:List Nat:=[]
def BB:bG:=⟨1,9,nZ,[.tmp 2]⟩
def aeU:Rg:=[iA 2 (.mv (.const (.bool false)))]
def aeV:Rg:=[iM 3 0,iA 4 (.call 126 [(Tm 3)]),iM 5 4,iG 6 (.mv (Tm 0)) 5 false,iG 7 (.call 124 [(Tm 6)]) 5 false,iA 8 (.pick (Tm 5) (.const (.bool true)) (Tm 7)),iM 9 8,iG 10 (.mv (Tm 0)) 9 false,iG 11 (.bin .eql (Tm 10) (.const (.int .u8 45))) 9 false,iA 12 (.pick (Tm 9) (.const (.bool true)) (Tm 11)),iM 13 12,iG 14 (.mv (Tm 0)) 13 false,iG 15 (.bin .eql (Tm 14) (.const (.int .u8 46))) 13 false,iA 16 (.pick (Tm 13) (.const (.bool true)) (Tm 15)),iM 2 16]
def yN:aD:=(.seq (.region aeU) (.seq (.region aeV) .ret))
def aOR:List Nat:=[]
def BC:bG:=⟨1,17,yN,[.tmp 2]⟩
def DE:Rg:=[iA 2 (.mv (.const (.bool false)))]
def DF:Rg:=[iM 4 0,iA 5 (.bin .eql (Tm 4) (.const (.str []))),iM 6 5,iG 7 (.mv (Tm 0)) 6 false,iG 8 (.lenStr (Tm 7)) 6 false,iG 9 (.bin .gtr (Tm 8) (Ci 16)) 6 false,iA 10 (.pick (Tm 6) (.const (.bool true)) (Tm 9)),iM 11 10,iG 12 (.mv (Tm 0)) 11 false,iG 13 (.idxStr (Tm 12) (Ci 0)) 11 false,iG 14 (.call 126 [(Tm 13)]) 11 false,iG 15 (.un .not (Tm 14)) 11 false,iA 16 (.pick (Tm 11) (.const (.bool true)) (Tm 15))]
def DG:Rg:=[iA 2 (.mv (.const (.bool false)))]
def aqZ:Rg:=[iI 3 0]
def arA:Rg:=[iM 17 3,iM 18 0,iA 19 (.lenStr (Tm 18)),iB 20 .lss 17 19]
def arB:Rg:=[iM 23 0,iM 24 3,iA 25 (.idxStr (Tm 23) (Tm 24)),iA 26 (.call 125 [(Tm 25)]),iA 27 (.un .not (Tm 26))]
def arC:Rg:=[iA 2 (.mv (.const (.bool false)))]
def arD:Rg:=[iM 21 3,iC 22 .add 21 1,iM 3 22]
def aqY:aD:=(.seq (.seq (.region arA) (.cond (Tm 20) .skip (.exit 0))) (.seq (.block 1 (.seq (.region arB) (.cond (Tm 27) (.seq (.region arC) .ret) .skip))) (.region arD)))
def arE:Rg:=[iA 2 (.mv (.const (.bool true)))]
def qH:aD:=(.seq (.region DE) (.seq (.seq (.region DF) (.cond (Tm 16) (.seq (.region DG) .ret) .skip)) (.seq (.seq (.region aqZ) (.block 0 (.loop aqY))) (.seq (.region arE) .ret))))
def aVI:List Nat:=[]
def MY:bG:=⟨1,28,qH,[.tmp 2]⟩
def VT:Rg:=[iA 6 (.mv (.const (.bool false)))]
def VU:Rg:=[iM 7 0,iM 8 1,iB 9 .geq 7 8,iM 10 9,iG 11 (.mv (Tm 0)) 10 true,iG 12 (.mv (Tm 2)) 10 true,iG 13 (.bin .leq (Tm 11) (Tm 12)) 10 true,iA 14 (.pick (Tm 10) (Tm 13) (.const (.bool false))),iM 6 14]
def vE:aD:=(.seq (.region VT) (.seq (.region VU) .ret))
def a4Q:List Nat:=[]
def gin:bG:=⟨3,15,vE,[.tmp 6]⟩
def adU:Rg:=[iA 1 (.box true (Tm 0)),iA 2 (.mv (.const (.bool false)))]
def adV:Rg:=[iF 3 1 1,iL 4 3,iA 5 (.call 128 [(Tm 4)]),iC 6 .gtr 5 0,iM 2 6]
def xT:aD:=(.seq (.region adU) (.seq (.region adV) .ret))
def aNZ:List Nat:=[1]
def HV:bG:=⟨1,7,xT,[.tmp 2]⟩
def aDC:Rg:=[iA 1 (.box true (Tm 0)),iA 2 (.mv (.const (.bool false)))]
def aDD:Rg:=[iA 6 (.load (some 3) (Tm 1)),iA 7 (.call 116 [(Tm 6)]),iM 5 7,iA 8 (.extract (Tm 5) 0),iA 9 (.extract (Tm 5) 1),iA 3 (.alloc [(.bool false),.nils,.nils]),iS 3 3 8,iM 4 9]
def MT:Rg:=[iM 10 4,iC 11 .eql 10 0,iM 12 11,iG 13 (.fieldA 0 (Tm 3)) 12 true,iG 14 (.load none (Tm 13)) 12 true,iG 15 (.un .not (Tm 14)) 12 true,iA 16 (.pick (Tm 12) (Tm 15) (.const (.bool false))),iM 17 16,iG 18 (.fieldA 1 (Tm 3)) 17 true,iG 19 (.load none (Tm 18)) 17 true,iG 20 (.call 128 [(Tm 19)]) 17 true,iG 21 (.bin .leq (Tm 20) (Ci 32)) 17 true,iA 22 (.pick (Tm 17) (Tm 21) (.const (.bool false))),iM 23 22,iG 24 (.fieldA 2 (Tm 3)) 23 true,iG 25 (.load none (Tm 24)) 23 true,iG 26 (.call 128 [(Tm 25)]) 23 true,iG 27 (.bin .leq (Tm 26) (Ci 32)) 23 true,iA 28 (.pick (Tm 23) (Tm 27) (.const (.bool false))),iM 2 28]
def IA:aD:=(.seq (.region aDC) (.seq (.region aDD) (.seq (.region MT) .ret)))
def a0H:List Nat:=[1]
def apC:bG:=⟨1,29,IA,[.tmp 2]⟩
def aDH:Rg:=[iA 1 (.box true (Tm 0)),iA 2 (.mv (.const (.bool false)))]
def aDI:Rg:=[iA 8 (.call 115 [(Ci 1),(Ci 1)]),iM 7 8,iA 9 (.extract (Tm 7) 0),iA 10 (.extract (Tm 7) 1),iA 3 (.alloc [(.bool false),.nils,.nils]),iS 3 3 9,iM 4 10]
def aDJ:Rg:=[iA 12 (.load (some 3) (Tm 1)),iA 13 (.load (some 3) (Tm 3)),iA 14 (.call 114 [(Tm 12),(Tm 13)]),iM 11 14,iA 15 (.extract (Tm 11) 0),iA 16 (.extract (Tm 11) 1),iM 5 15,iM 6 16]
def abO:Rg:=[iM 17 6,iC 18 .eql 17 0,iM 19 18,iG 20 (.mv (Tm 5)) 19 true,iG 21 (.bin .leq (Tm 20) (Ci 0)) 19 true,iA 22 (.pick (Tm 19) (Tm 21) (.const (.bool false))),iM 2 22]
def IC:aD:=(.seq (.region aDH) (.seq (.region aDI) (.seq (.region aDJ) (.seq (.region abO) .ret))))
def a0L:List Nat:=[1]
def gone:bG:=⟨1,23,IC,[.tmp 2]⟩
def anZ:Rg:=[iA 4 (.mv (.const (.bool false)))]
def aoA:Rg:=[iM 7 0,iN 8 7,iI 9 0]
def aoB:Rg:=[iB 10 .lss 9 8]
def aoC:Rg:=[iX 11 3 7 9,iA 12 (.load (some 3) (Tm 11)),iA 6 (.alloc [(.bool false),.nils,.nils]),iS 3 6 12]
def aoD:Rg:=[iM 13 1,iA 14 (.load (some 3) (Tm 6)),iA 15 (.callv (Tm 13) [(Tm 14)]),iA 16 (.un .not (Tm 15))]
def aoE:Rg:=[iA 4 (.mv (.const (.bool false)))]
def aoF:Rg:=[iC 17 .add 9 1,iM 9 17]
def anY:aD:=(.seq (.region aoB) (.seq (.cond (Tm 10) .skip (.exit 0)) (.seq (.block 1 (.seq (.region aoC) (.seq (.region aoD) (.cond (Tm 16) (.seq (.region aoE) .ret) .skip)))) (.region aoF))))
def aoG:Rg:=[iA 4 (.mv (.const (.bool true)))]
def CL:aD:=(.seq (.region anZ) (.seq (.seq (.region aoA) (.block 0 (.loop anY))) (.seq (.region aoG) .ret)))
def aUJ:List Nat:=[]
def VQ:bG:=⟨2,18,CL,[.tmp 4]⟩
def aoI:Rg:=[iA 4 (.mv (.const (.bool false)))]
def aoJ:Rg:=[iM 7 0,iN 8 7,iI 9 0]
def aoK:Rg:=[iB 10 .lss 9 8]
def aoL:Rg:=[iX 11 1 7 9,iL 12 11,iM 6 12]
def aoM:Rg:=[iM 13 1,iM 14 6,iA 15 (.callv (Tm 13) [(Tm 14)]),iA 16 (.un .not (Tm 15))]
def aoN:Rg:=[iA 4 (.mv (.const (.bool false)))]
def aoO:Rg:=[iC 17 .add 9 1,iM 9 17]
def aoH:aD:=(.seq (.region aoK) (.seq (.cond (Tm 10) .skip (.exit 0)) (.seq (.block 1 (.seq (.region aoL) (.seq (.region aoM) (.cond (Tm 16) (.seq (.region aoN) .ret) .skip)))) (.region aoO))))
def aoP:Rg:=[iA 4 (.mv (.const (.bool true)))]
def CM:aD:=(.seq (.region aoI) (.seq (.seq (.region aoJ) (.block 0 (.loop aoH))) (.seq (.region aoP) .ret)))
def aUL:List Nat:=[]
def VR:bG:=⟨2,18,CM,[.tmp 4]⟩
def anQ:Rg:=[iA 4 (.mv (.const (.bool false)))]
def anR:Rg:=[iM 7 0,iN 8 7,iI 9 0]
def anS:Rg:=[iB 10 .lss 9 8]
def anT:Rg:=[iX 11 1 7 9,iL 12 11,iM 6 12]
def anU:Rg:=[iM 13 1,iM 14 6,iA 15 (.callv (Tm 13) [(Tm 14)]),iA 16 (.un .not (Tm 15))]
def anV:Rg:=[iA 4 (.mv (.const (.bool false)))]
def anW:Rg:=[iC 17 .add 9 1,iM 9 17]
def anP:aD:=(.seq (.region anS) (.seq (.cond (Tm 10) .skip (.exit 0)) (.seq (.block 1 (.seq (.region anT) (.seq (.region anU) (.cond (Tm 16) (.seq (.region anV) .ret) .skip)))) (.region anW))))
def anX:Rg:=[iA 4 (.mv (.const (.bool true)))]
def CK:aD:=(.seq (.region anQ) (.seq (.seq (.region anR) (.block 0 (.loop anP))) (.seq (.region anX) .ret)))
def aUH:List Nat:=[]
def VP:bG:=⟨2,18,CK,[.tmp 4]⟩
def adW:Rg:=[iA 2 (.mv (.const (.bool false)))]
def adX:Rg:=[iM 3 0,iM 2 3]
def xU:aD:=(.seq (.region adW) (.seq (.region adX) .ret))
def aOB:List Nat:=[]
def HW:bG:=⟨1,4,xU,[.tmp 2]⟩
def aoT:Rg:=[iA 1 (.box true (Tm 0)),iA 2 (.mv (.const (.bool false)))]
def aoU:Rg:=[iF 8 3 1,iL 9 8,iN 10 9,iA 11 (.mkslice 1 1 [(.bool false)] (Tm 10) (Tm 10)),iM 3 11]
def aoV:Rg:=[iI 4 0]
def aoW:Rg:=[iM 12 4,iM 13 3,iN 14 13,iB 15 .leq 12 14]
def aoX:Rg:=[iM 18 3,iN 19 18,iI 20 0]
def RL:Rg:=[iB 21 .lss 20 19]
def aoY:Rg:=[iM 22 20,iM 5 22]
def RM:Rg:=[iM 23 3,iM 24 5,iM 25 3,iM 26 5,iX 27 1 25 26,iL 28 27,iM 29 28,iG 30 (.fieldA 3 (Tm 1)) 29 false,iG 31 (.load none (Tm 30)) 29 false,iG 32 (.mv (Tm 5)) 29 false,iG 33 (.idxS 3 (Tm 31) (Tm 32)) 29 false,iG 34 (.load (some 3) (Tm 33)) 29 false,iG 35 (.call 97 [(Tm 34)]) 29 false,iA 36 (.pick (Tm 29) (.const (.bool true)) (Tm 35)),iX 37 1 23 24,iS 1 37 36]
def RN:Rg:=[iF 38 2 1,iL 39 38,iM 40 5,iX 41 1 39 40,iL 42 41,iN 43 42,iI 44 0]
def aoZ:Rg:=[iB 45 .lss 44 43]
def adZ:Rg:=[iM 46 44,iX 47 3 42 44,iA 48 (.load (some 3) (Tm 47)),iA 7 (.alloc [(.bool false),.nils,.nils]),iM 6 46,iS 3 7 48]
def HX:Rg:=[iM 49 3,iM 50 5,iM 51 3,iM 52 5,iX 53 1 51 52,iL 54 53,iM 55 54,iG 56 (.load (some 3) (Tm 7)) 55 false,iG 57 (.call 97 [(Tm 56)]) 55 false,iG 58 (.mv (Tm 57)) 55 false,iG 59 (.mv (Tm 3)) 58 true,iG 60 (.mv (Tm 6)) 58 true,iG 61 (.idxS 1 (Tm 59) (Tm 60)) 58 true,iG 62 (.load none (Tm 61)) 58 true,iG 63 (.pick (Tm 58) (Tm 62) (.const (.bool false))) 55 false,iA 64 (.pick (Tm 55) (.const (.bool true)) (Tm 63)),iX 65 1 49 50,iS 1 65 64]
def wQ:Rg:=[iC 66 .add 44 1,iM 44 66]
def wO:aD:=(.seq (.region aoZ) (.seq (.cond (Tm 45) .skip (.exit 4)) (.seq (.block 5 (.seq (.region adZ) (.region HX))) (.region wQ))))
def HY:Rg:=[iC 67 .add 20 1,iM 20 67]
def wP:aD:=(.seq (.region RL) (.seq (.cond (Tm 21) .skip (.exit 2)) (.seq (.block 3 (.seq (.region aoY) (.seq (.region RM) (.seq (.region RN) (.block 4 (.loop wO)))))) (.region HY))))
def aeA:Rg:=[iM 16 4,iC 17 .add 16 1,iM 4 17]
def adY:aD:=(.seq (.seq (.region aoW) (.cond (Tm 15) .skip (.exit 0))) (.seq (.block 1 (.seq (.region aoX) (.block 2 (.loop wP)))) (.region aeA)))
def aeB:Rg:=[iM 68 3,iA 69 (.call 98 [(Tm 68),(.const (.fn 103 []))]),iM 2 69]
def CN:aD:=(.seq (.region aoT) (.seq (.region aoU) (.seq (.seq (.region aoV) (.block 0 (.loop adY))) (.seq (.region aeB) .ret))))
def aUO:List Nat:=[1]
def VS:bG:=⟨1,70,CN,[.tmp 2]⟩
def aCU:Rg:=[iA 1 (.box true (Tm 0)),iA 2 (.mv (.const (.bool false)))]
def aCV:Rg:=[iF 12 1 1,iL 13 12,iN 14 13,iM 3 14]
def aCW:Rg:=[iM 15 3,iA 16 (.call 104 [(Tm 15),(Ci 1),(Ci 4)]),iA 17 (.un .not (Tm 16)),iM 18 17,iG 19 (.fieldA 3 (Tm 1)) 18 false,iG 20 (.load none (Tm 19)) 18 false,iG 21 (.len (Tm 20)) 18 false,iG 22 (.mv (Tm 3)) 18 false,iG 23 (.bin .neq (Tm 21) (Tm 22)) 18 false,iA 24 (.pick (Tm 18) (.const (.bool true)) (Tm 23)),iM 25 24,iG 26 (.fieldA 2 (Tm 1)) 25 false,iG 27 (.load none (Tm 26)) 25 false,iG 28 (.len (Tm 27)) 25 false,iG 29 (.mv (Tm 3)) 25 false,iG 30 (.bin .neq (Tm 28) (Tm 29)) 25 false,iA 31 (.pick (Tm 25) (.const (.bool true)) (Tm 30)),iM 32 31,iG 33 (.fieldA 1 (Tm 1)) 32 false,iG 34 (.load none (Tm 33)) 32 false,iG 35 (.call 99 [(Tm 34),(.const (.fn 105 []))]) 32 false,iG 36 (.un .not (Tm 35)) 32 false,iA 37 (.pick (Tm 32) (.const (.bool true)) (Tm 36)),iM 38 37,iG 39 (.fieldA 3 (Tm 1)) 38 false,iG 40 (.load none (Tm 39)) 38 false,iG 41 (.call 99 [(Tm 40),(.const (.fn 105 []))]) 38 false,iG 42 (.un .not (Tm 41)) 38 false,iA 43 (.pick (Tm 38) (.const (.bool true)) (Tm 42))]
def uP:Rg:=[iA 2 (.mv (.const (.bool false)))]
def aCX:Rg:=[iF 44 2 1,iL 45 44,iN 46 45,iI 47 0]
def aCY:Rg:=[iB 48 .lss 47 46]
def aCZ:Rg:=[iM 49 47,iX 50 1 45 47,iL 51 50,iM 4 49,iM 5 51]
def aDA:Rg:=[iM 52 5,iN 53 52,iM 54 3,iB 55 .neq 53 54,iM 56 55,iG 57 (.mv (Tm 5)) 56 false,iG 58 (.call 99 [(Tm 57),(.const (.fn 105 []))]) 56 false,iG 59 (.un .not (Tm 58)) 56 false,iA 60 (.pick (Tm 56) (.const (.bool true)) (Tm 59)),iM 61 60,iG 62 (.mv (Tm 5)) 61 false,iG 63 (.mv (Tm 4)) 61 false,iG 64 (.idxS 3 (Tm 62) (Tm 63)) 61 false,iG 65 (.load (some 3) (Tm 64)) 61 false,iG 66 (.call 97 [(Tm 65)]) 61 false,iA 67 (.pick (Tm 61) (.const (.bool true)) (Tm 66))]
def MS:Rg:=[iA 2 (.mv (.const (.bool false)))]
def aDB:Rg:=[iC 68 .add 47 1,iM 47 68]
def apB:aD:=(.seq (.region aCY) (.seq (.cond (Tm 48) .skip (.exit 0)) (.seq (.block 1 (.seq (.region aCZ) (.seq (.region aDA) (.cond (Tm 67) (.seq (.region MS) .ret) .skip)))) (.region aDB))))
def RO:Rg:=[iF 70 1 1,iL 71 70,iA 72 (.call 117 [(Tm 71)]),iM 69 72,iA 73 (.extract (Tm 69) 0),iA 74 (.extract (Tm 69) 1),iA 6 (.alloc [(.bool false),.nils,.nils]),iS 3 6 73,iM 7 74]
def CO:Rg:=[iA 76 (.call 115 [(Ci 1),(Ci 1)]),iM 75 76,iA 77 (.extract (Tm 75) 0),iA 78 (.extract (Tm 75) 1),iA 8 (.alloc [(.bool false),.nils,.nils]),iS 3 8 77,iM 9 78]
def CP:Rg:=[iA 80 (.load (some 3) (Tm 6)),iA 81 (.load (some 3) (Tm 8)),iA 82 (.call 114 [(Tm 80),(Tm 81)]),iM 79 82,iA 83 (.extract (Tm 79) 0),iA 84 (.extract (Tm 79) 1),iM 10 83,iM 11 84]
def rD:Rg:=[iM 85 7,iC 86 .eql 85 0,iM 87 86,iG 88 (.mv (Tm 10)) 87 true,iG 89 (.bin .eql (Tm 88) (Ci 0)) 87 true,iA 90 (.pick (Tm 87) (Tm 89) (.const (.bool false))),iM 91 90,iG 92 (.load (some 4) (Tm 1)) 91 true,iG 93 (.call 102 [(Tm 92)]) 91 true,iA 94 (.pick (Tm 91) (Tm 93) (.const (.bool false))),iM 2 94]
def HZ:aD:=(.seq (.region aCU) (.seq (.region aCV) (.seq (.seq (.region aCW) (.cond (Tm 43) (.seq (.region uP) .ret) .skip)) (.seq (.seq (.region aCX) (.block 0 (.loop apB))) (.seq (.region RO) (.seq (.region CO) (.seq (.region CP) (.seq (.region rD) .ret))))))))
def a0F:List Nat:=[1]
def apA:bG:=⟨1,95,HZ,[.tmp 2]⟩
def apR:Rg:=[iA 2 (.mv (.const (.bool false)))]
def apS:Rg:=[iA 6 (.mkmap (false,[.str])),iM 3 6]
def apT:Rg:=[iM 7 0,iN 8 7,iI 9 0]
def apU:Rg:=[iB 10 .lss 9 8]
def apV:Rg:=[iX 11 1 7 9,iL 12 11,iM 5 12]
def apW:Rg:=[iM 13 5,iA 14 (.call 123 [(Tm 13)]),iA 15 (.un .not (Tm 14)),iM 16 15,iG 17 (.mv (Tm 3)) 16 false,iG 18 (.mv (Tm 5)) 16 false,iG 19 (.lookup (false,[.str]) (.bool false) (Tm 17) (Tm 18) false) 16 false,iA 20 (.pick (Tm 16) (.const (.bool true)) (Tm 19))]
def RR:Rg:=[iA 2 (.mv (.const (.bool false)))]
def apX:Rg:=[iM 21 3,iM 22 5,⟨none,.mapset (false,[.str]) (Tm 21) (Tm 22) (.const (.bool true)),none⟩]
def apY:Rg:=[iC 23 .add 9 1,iM 9 23]
def apQ:aD:=(.seq (.region apU) (.seq (.cond (Tm 10) .skip (.exit 0)) (.seq (.block 1 (.seq (.region apV) (.seq (.seq (.region apW) (.cond (Tm 20) (.seq (.region RR) .ret) .skip)) (.region apX)))) (.region apY))))
def aeE:Rg:=[iA 2 (.mv (.const (.bool true)))]
def CU:aD:=(.seq (.region apR) (.seq (.region apS) (.seq (.seq (.region apT) (.block 0 (.loop apQ))) (.seq (.region aeE) .ret))))
def aUV:List Nat:=[]
def VX:bG:=⟨1,24,CU,[.tmp 2]⟩
def abM:Rg:=[iA 1 (.box true (Tm 0)),iA 2 (.mv (.const (.bool false)))]
def abN:Rg:=[iF 6 3 1,iL 7 6,iN 8 7,iC 9 .eql 8 0]
def aCO:Rg:=[iA 2 (.mv (.const (.bool false)))]
def aCP:Rg:=[iF 10 3 1,iL 11 10,iA 12 (.idxS 7 (Tm 11) (Ci 0)),iA 13 (.load (some 7) (Tm 12)),iA 3 (.alloc [(.str []),(.int .i64 0),(.int .i64 0),(.int .i64 0),(.bool false),.nils,.nils]),iS 7 3 13]
def uO:Rg:=[iF 14 0 3,iL 15 14,iA 16 (.bin .neq (Tm 15) (.const (.str []))),iM 17 16,iG 18 (.fieldA 1 (Tm 3)) 17 false,iG 19 (.load none (Tm 18)) 17 false,iG 20 (.bin .neq (Tm 19) (Ci 0)) 17 false,iA 21 (.pick (Tm 17) (.const (.bool true)) (Tm 20)),iM 22 21,iG 23 (.fieldA 2 (Tm 3)) 22 false,iG 24 (.load none (Tm 23)) 22 false,iG 25 (.bin .neq (Tm 24) (Ci (-1))) 22 false,iA 26 (.pick (Tm 22) (.const (.bool true)) (Tm 25)),iM 27 26,iG 28 (.fieldA 3 (Tm 3)) 27 false,iG 29 (.load none (Tm 28)) 27 false,iG 30 (.bin .neq (Tm 29) (Ci 0)) 27 false,iA 31 (.pick (Tm 27) (.const (.bool true)) (Tm 30)),iM 32 31,iG 33 (.fieldA 4 (Tm 3)) 32 false,iG 34 (.load (some 3) (Tm 33)) 32 false,iG 35 (.call 105 [(Tm 34)]) 32 false,iG 36 (.un .not (Tm 35)) 32 false,iA 37 (.pick (Tm 32) (.const (.bool true)) (Tm 36)),iM 38 37,iG 39 (.fieldA 4 (Tm 3)) 38 false,iG 40 (.load (some 3) (Tm 39)) 38 false,iG 41 (.call 97 [(Tm 40)]) 38 false,iA 42 (.pick (Tm 38) (.const (.bool true)) (Tm 41))]
def rC:Rg:=[iA 2 (.mv (.const (.bool false)))]
def aCQ:Rg:=[iF 43 3 1,iL 44 43,iA 45 (.slice 7 (Tm 44) (some (Ci 1)) none none),iN 46 45,iI 47 0]
def aCR:Rg:=[iB 48 .lss 47 46]
def aCS:Rg:=[iM 49 47,iX 50 7 45 47,iA 51 (.load (some 7) (Tm 50)),iA 5 (.alloc [(.str []),(.int .i64 0),(.int .i64 0),(.int .i64 0),(.bool false),.nils,.nils]),iM 4 49,iS 7 5 51]
def aCT:Rd:=[(iF 52 2 5,false),(iL 53 52,false),(iM 54 4,false),(iA 55 (.call 104 [(Tm 53),(Ci 0),(Tm 54)]),true),(iA 56 (.un .not (Tm 55)),false),(iM 57 56,false),(iG 58 (.fieldA 3 (Tm 1)) 57 false,false),(iG 59 (.load none (Tm 58)) 57 false,false),(iG 60 (.fieldA 2 (Tm 5)) 57 false,false),(iG 61 (.load none (Tm 60)) 57 false,false),(iG 62 (.idxS 7 (Tm 59) (Tm 61)) 57 false,false),(iG 63 (.fieldA 1 (Tm 62)) 57 false,false),(iG 64 (.load none (Tm 63)) 57 false,false),(iG 65 (.fieldA 1 (Tm 5)) 57 false,false),(iG 66 (.load none (Tm 65)) 57 false,false),(iG 67 (.bin .sub (Tm 66) (Ci 1)) 57 false,false),(iG 68 (.bin .neq (Tm 64) (Tm 67)) 57 false,false),(iA 69 (.pick (Tm 57) (.const (.bool true)) (Tm 68)),false),(iM 70 69,false),(iG 71 (.fieldA 1 (Tm 5)) 70 false,false),(iG 72 (.load none (Tm 71)) 70 false,false),(iG 73 (.call 104 [(Tm 72),(Ci 1),(Ci 4)]) 70 false,true),(iG 74 (.un .not (Tm 73)) 70 false,false),(iA 75 (.pick (Tm 70) (.const (.bool true)) (Tm 74)),false),(iM 76 75,false),(iG 77 (.fieldA 3 (Tm 5)) 76 false,false),(iG 78 (.load none (Tm 77)) 76 false,false),(iG 79 (.call 104 [(Tm 78),(Ci 1),(Ci 64)]) 76 false,true),(iG 80 (.un .not (Tm 79)) 76 false,false),(iA 81 (.pick (Tm 76) (.const (.bool true)) (Tm 80)),false),(iM 82 81,false),(iG 83 (.fieldA 4 (Tm 5)) 82 false,false),(iG 84 (.load (some 3) (Tm 83)) 82 false,false),(iG 85 (.call 105 [(Tm 84)]) 82 false,true),(iG 86 (.un .not (Tm 85)) 82 false,false),(iA 87 (.pick (Tm 82) (.const (.bool true)) (Tm 86)),false)]
def rB:Rg:=[iA 2 (.mv (.const (.bool false)))]
def aoR:Rg:=[iC 88 .add 47 1,iM 47 88]
def aoQ:aD:=(.seq (.region aCR) (.seq (.cond (Tm 48) .skip (.exit 0)) (.seq (.block 1 (.seq (.region aCS) (.seq (.draw aCT) (.cond (Tm 87) (.seq (.region rB) .ret) .skip)))) (.region aoR))))
def aoS:Rg:=[iA 2 (.mv (.const (.bool true)))]
def wN:aD:=(.seq (.region abM) (.seq (.seq (.region abN) (.cond (Tm 9) (.seq (.region aCO) .ret) .skip)) (.seq (.region aCP) (.seq (.seq (.region uO) (.cond (Tm 42) (.seq (.region rC) .ret) .skip)) (.seq (.seq (.region aCQ) (.block 0 (.loop aoQ))) (.seq (.region aoS) .ret))))))
def a0D:List Nat:=[1]
def abL:bG:=⟨1,89,wN,[.tmp 2]⟩
def apE:Rg:=[iA 2 (.mv (.const (.bool false)))]
def apF:Rg:=[iM 3 0,iA 4 (.call 104 [(Tm 3),(Ci 0),(Ci 8)]),iM 2 4]
def CQ:aD:=(.seq (.region apE) (.seq (.region apF) .ret))
def aUQ:List Nat:=[]
def VV:bG:=⟨1,5,CQ,[.tmp 2]⟩
def aDE:Rg:=[iA 7 (.box true (Tm 3)),iA 8 (.mv (.const (.bool false)))]
def aDF:Rg:=[iM 9 0,iA 10 (.call 104 [(Tm 9),(Ci 1),(Ci 6)]),iA 11 (.un .not (Tm 10)),iM 12 11,iG 13 (.mv (Tm 1)) 12 false,iG 14 (.call 104 [(Tm 13),(Ci 0),(Ci 4)]) 12 false,iG 15 (.un .not (Tm 14)) 12 false,iA 16 (.pick (Tm 12) (.const (.bool true)) (Tm 15)),iM 17 16,iG 18 (.mv (Tm 0)) 17 false,iG 19 (.mv (Tm 1)) 17 false,iG 20 (.bin .add (Tm 18) (Tm 19)) 17 false,iG 21 (.bin .gtr (Tm 20) (Ci 8)) 17 false,iA 22 (.pick (Tm 17) (.const (.bool true)) (Tm 21)),iM 23 22,iG 24 (.mv (Tm 2)) 23 false,iG 25 (.mv (Tm 0)) 23 false,iG 26 (.mv (Tm 0)) 23 false,iG 27 (.mv (Tm 1)) 23 false,iG 28 (.bin .add (Tm 26) (Tm 27)) 23 false,iG 29 (.call 104 [(Tm 24),(Tm 25),(Tm 28)]) 23 false,iG 30 (.un .not (Tm 29)) 23 false,iA 31 (.pick (Tm 23) (.const (.bool true)) (Tm 30)),iM 32 31,iG 33 (.idxA 5 1 (Tm 7) (Ci 0)) 32 false,iG 34 (.load none (Tm 33)) 32 false,iG 35 (.bin .neq (Tm 34) (Ci 0)) 32 false,iA 36 (.pick (Tm 32) (.const (.bool true)) (Tm 35))]
def uQ:Rg:=[iA 8 (.mv (.const (.bool false)))]
def aDG:Rg:=[iA 37 (.sliceA 5 1 (Tm 7) none none none),iA 38 (.call 100 [(Tm 37),(.const (.fn 107 []))]),iM 8 38]
def IB:aD:=(.seq (.region aDE) (.seq (.seq (.region aDF) (.cond (Tm 36) (.seq (.region uQ) .ret) .skip)) (.seq (.region aDG) .ret)))
def a0J:List Nat:=[7]
def apD:bG:=⟨4,39,IB,[.tmp 8]⟩
def aeC:Rg:=[iA 1 (.box true (Tm 0)),iA 2 (.mv (.const (.bool false)))]
def aeD:Rg:=[iA 3 (.load (some 3) (Tm 1)),iA 4 (.call 105 [(Tm 3)]),iM 5 4,iG 6 (.load (some 3) (Tm 1)) 5 true,iG 7 (.call 97 [(Tm 6)]) 5 true,iA 8 (.pick (Tm 5) (Tm 7) (.const (.bool false))),iM 2 8]
def xV:aD:=(.seq (.region aeC) (.seq (.region aeD) .ret))
def aOE:List Nat:=[1]
def IE:bG:=⟨1,9,xV,[.tmp 2]⟩
def apK:Rg:=[iA 6 (.box true (Tm 2)),iA 7 (.box true (Tm 3)),iA 8 (.mv (.const (.bool false)))]
def apL:Rg:=[iM 9 1,iN 10 9,iM 11 0,iA 12 (.minmax true (Tm 11) (Ci 1)),iB 13 .eql 10 12,iM 14 13,iG 15 (.mv (Tm 1)) 14 true,iG 16 (.call 99 [(Tm 15),(.const (.fn 109 []))]) 14 true,iA 17 (.pick (Tm 14) (Tm 16) (.const (.bool false))),iM 18 17,iG 19 (.load (some 3) (Tm 6)) 18 true,iG 20 (.call 105 [(Tm 19)]) 18 true,iA 21 (.pick (Tm 18) (Tm 20) (.const (.bool false))),iM 22 21,iG 23 (.load (some 3) (Tm 6)) 22 true,iG 24 (.call 101 [(Tm 23)]) 22 true,iA 25 (.pick (Tm 22) (Tm 24) (.const (.bool false))),iM 26 25,iG 27 (.load (some 3) (Tm 7)) 26 true,iG 28 (.call 105 [(Tm 27)]) 26 true,iA 29 (.pick (Tm 26) (Tm 28) (.const (.bool false))),iM 8 29]
def CR:aD:=(.seq (.region apK) (.seq (.region apL) .ret))
def aUS:List Nat:=[6,7]
def VW:bG:=⟨4,30,CR,[.tmp 8]⟩
def aDK:Rg:=[iA 2 (.box true (Tm 0)),iA 4 (.mv (.const (.bool false)))]
def aDL:Rg:=[iF 8 1 2,iL 9 8,iF 10 2 2,iL 11 10,iF 12 3 2,iL 13 12,iF 14 4 2,iA 15 (.load (some 5) (Tm 14)),iA 16 (.call 106 [(Tm 9),(Tm 11),(Tm 13),(Tm 15)]),iA 17 (.un .not (Tm 16)),iM 18 17,iG 19 (.fieldA 9 (Tm 2)) 18 false,iG 20 (.load none (Tm 19)) 18 false,iG 21 (.len (Tm 20)) 18 false,iG 22 (.bin .eql (Tm 21) (Ci 0)) 18 false,iA 23 (.pick (Tm 18) (.const (.bool true)) (Tm 22)),iM 24 23,iG 25 (.fieldA 2 (Tm 2)) 24 false,iG 26 (.load none (Tm 25)) 24 false,iG 27 (.fieldA 10 (Tm 2)) 24 false,iG 28 (.load none (Tm 27)) 24 false,iG 29 (.fieldA 11 (Tm 2)) 24 false,iG 30 (.load (some 3) (Tm 29)) 24 false,iG 31 (.fieldA 14 (Tm 2)) 24 false,iG 32 (.load (some 3) (Tm 31)) 24 false,iG 33 (.call 108 [(Tm 26),(Tm 28),(Tm 30),(Tm 32)]) 24 false,iG 34 (.un .not (Tm 33)) 24 false,iA 35 (.pick (Tm 24) (.const (.bool true)) (Tm 34))]
def MU:Rg:=[iA 4 (.mv (.const (.bool false)))]
def aDM:Rg:=[iM 36 1,iA 37 (.mkslice 1 1 [(.bool false)] (Tm 36) (Tm 36)),iM 5 37]
def aDN:Rg:=[iF 38 9 2,iL 39 38,iN 40 39,iI 41 0]
def aDO:Rg:=[iB 42 .lss 41 40]
def aDP:Rg:=[iX 43 1 39 41,iL 44 43,iM 7 44]
def aDQ:Rg:=[iM 45 7,iM 46 1,iC 47 .sub 46 1,iA 48 (.call 104 [(Tm 45),(Ci 0),(Tm 47)]),iA 49 (.un .not (Tm 48)),iM 50 49,iG 51 (.mv (Tm 5)) 50 false,iG 52 (.mv (Tm 7)) 50 false,iG 53 (.idxS 1 (Tm 51) (Tm 52)) 50 false,iG 54 (.load none (Tm 53)) 50 false,iA 55 (.pick (Tm 50) (.const (.bool true)) (Tm 54))]
def abP:Rg:=[iA 4 (.mv (.const (.bool false)))]
def aDR:Rg:=[iM 56 5,iM 57 7,iX 58 1 56 57,⟨none,.store 1 (Tm 58) (.const (.bool true)),none⟩]
def apI:Rg:=[iC 59 .add 41 1,iM 41 59]
def apH:aD:=(.seq (.region aDO) (.seq (.cond (Tm 42) .skip (.exit 0)) (.seq (.block 1 (.seq (.region aDP) (.seq (.seq (.region aDQ) (.cond (Tm 55) (.seq (.region abP) .ret) .skip)) (.region aDR)))) (.region apI))))
def apJ:Rg:=[iA 4 (.mv (.const (.bool true)))]
def ID:aD:=(.seq (.region aDK) (.seq (.seq (.region aDL) (.cond (Tm 35) (.seq (.region MU) .ret) .skip)) (.seq (.region aDM) (.seq (.seq (.region aDN) (.block 0 (.loop apH))) (.seq (.region apJ) .ret)))))
def a0N:List Nat:=[2]
def apG:bG:=⟨2,60,ID,[.tmp 4]⟩
def aDS:Rg:=[iA 1 (.box true (Tm 0)),iI 2 0]
def aDT:Rg:=[iF 21 0 1,iL 22 21,iA 23 (.call 104 [(Tm 22),(Ci 1),(Ci 4)]),iA 24 (.un .not (Tm 23)),iM 25 24,iG 26 (.fieldA 1 (Tm 1)) 25 false,iG 27 (.load none (Tm 26)) 25 false,iG 28 (.len (Tm 27)) 25 false,iG 29 (.bin .gtr (Tm 28) (Ci 4)) 25 false,iA 30 (.pick (Tm 25) (.const (.bool true)) (Tm 29)),iM 31 30,iG 32 (.fieldA 2 (Tm 1)) 31 false,iG 33 (.load none (Tm 32)) 31 false,iG 34 (.len (Tm 33)) 31 false,iG 35 (.bin .gtr (Tm 34) (Ci 4)) 31 false,iA 36 (.pick (Tm 31) (.const (.bool true)) (Tm 35)),iM 37 36,iG 38 (.fieldA 3 (Tm 1)) 37 false,iG 39 (.load none (Tm 38)) 37 false,iG 40 (.len (Tm 39)) 37 false,iG 41 (.bin .gtr (Tm 40) (Ci 40)) 37 false,iA 42 (.pick (Tm 37) (.const (.bool true)) (Tm 41)),iM 43 42,iG 44 (.fieldA 4 (Tm 1)) 43 false,iG 45 (.load none (Tm 44)) 43 false,iG 46 (.len (Tm 45)) 43 false,iG 47 (.bin .gtr (Tm 46) (Ci 24)) 43 false,iA 48 (.pick (Tm 43) (.const (.bool true)) (Tm 47)),iM 49 48,iG 50 (.fieldA 5 (Tm 1)) 49 false,iG 51 (.load none (Tm 50)) 49 false,iG 52 (.len (Tm 51)) 49 false,iG 53 (.bin .gtr (Tm 52) (Ci 4)) 49 false,iA 54 (.pick (Tm 49) (.const (.bool true)) (Tm 53)),iM 55 54,iG 56 (.fieldA 6 (Tm 1)) 55 false,iG 57 (.load none (Tm 56)) 55 false,iG 58 (.len (Tm 57)) 55 false,iG 59 (.bin .gtr (Tm 58) (Ci 12)) 55 false,iA 60 (.pick (Tm 55) (.const (.bool true)) (Tm 59)),iM 61 60,iG 62 (.load (some 7) (Tm 1)) 61 false,iG 63 (.call 111 [(Tm 62)]) 61 false,iG 64 (.un .not (Tm 63)) 61 false,iA 65 (.pick (Tm 61) (.const (.bool true)) (Tm 64))]
def nA:Rg:=[iI 2 1]
def aDU:Rg:=[iA 3 (.mv (.const .nils)),iA 4 (.mv (.const .nils)),iA 5 (.mv (.const .nils)),iA 6 (.mv (.const .nils)),iA 7 (.mv (.const .nils))]
def aDV:Rg:=[iA 8 (.mv (.const (.bool true)))]
def abQ:Rg:=[iF 66 1 1,iL 67 66,iN 68 67,iI 69 0]
def aDW:Rg:=[iB 70 .lss 69 68]
def aDX:Rg:=[iX 71 4 67 69,iA 72 (.load (some 4) (Tm 71)),iA 10 (.alloc [(.str []),.nils,.nils,.nils]),iS 4 10 72]
def aDY:Rg:=[iM 73 3,iF 74 0 10,iL 75 74,iA 76 (.bslice true 1 1 [(.str [])] [(0,(Tm 75))]),iA 77 (.append 1 16 (Tm 73) (Tm 76)),iM 3 77]
def abR:Rg:=[iM 78 8,iM 79 78,iG 80 (.load (some 4) (Tm 10)) 79 true,iG 81 (.call 95 [(Tm 80)]) 79 true,iA 82 (.pick (Tm 79) (Tm 81) (.const (.bool false))),iM 8 82]
def RS:Rg:=[iC 83 .add 69 1,iM 69 83]
def CV:aD:=(.seq (.region aDW) (.seq (.cond (Tm 70) .skip (.exit 0)) (.seq (.block 1 (.seq (.region aDX) (.seq (.region aDY) (.region abR)))) (.region RS))))
def RT:Rg:=[iF 84 2 1,iL 85 84,iN 86 85,iI 87 0]
def aqA:Rg:=[iB 88 .lss 87 86]
def aqB:Rg:=[iX 89 4 85 87,iA 90 (.load (some 4) (Tm 89)),iA 12 (.alloc [(.str []),(.int .i64 0),(.int .i64 0),(.int .i64 0)]),iS 4 12 90]
def aqC:Rg:=[iM 91 4,iF 92 0 12,iL 93 92,iA 94 (.bslice true 1 1 [(.str [])] [(0,(Tm 93))]),iA 95 (.append 1 16 (Tm 91) (Tm 94)),iM 4 95]
def RU:Rg:=[iM 96 8,iM 97 96,iG 98 (.fieldA 1 (Tm 12)) 97 true,iG 99 (.load none (Tm 98)) 97 true,iG 100 (.call 104 [(Tm 99),(Ci 1),(Ci 16)]) 97 true,iA 101 (.pick (Tm 97) (Tm 100) (.const (.bool false))),iM 102 101,iG 103 (.fieldA 2 (Tm 12)) 102 true,iG 104 (.load none (Tm 103)) 102 true,iG 105 (.call 104 [(Tm 104),(Ci 1),(Ci 64)]) 102 true,iA 106 (.pick (Tm 102) (Tm 105) (.const (.bool false))),iM 107 106,iG 108 (.fieldA 3 (Tm 12)) 107 true,iG 109 (.load none (Tm 108)) 107 true,iG 110 (.fieldA 1 (Tm 1)) 107 true,iG 111 (.load none (Tm 110)) 107 true,iG 112 (.len (Tm 111)) 107 true,iG 113 (.bin .sub (Tm 112) (Ci 1)) 107 true,iG 114 (.call 104 [(Tm 109),(Ci 0),(Tm 113)]) 107 true,iA 115 (.pick (Tm 107) (Tm 114) (.const (.bool false))),iM 8 115]
def vH:Rg:=[iC 116 .add 87 1,iM 87 116]
def CW:aD:=(.seq (.region aqA) (.seq (.cond (Tm 88) .skip (.exit 2)) (.seq (.block 3 (.seq (.region aqB) (.seq (.region aqC) (.region RU)))) (.region vH))))
def RV:Rg:=[iF 117 3 1,iL 118 117,iA 119 (.slice 7 (Tm 118) (some (Ci 1)) none none),iN 120 119,iI 121 0]
def aqD:Rg:=[iB 122 .lss 121 120]
def aqE:Rg:=[iX 123 7 119 121,iA 124 (.load (some 7) (Tm 123)),iA 14 (.alloc [(.str []),(.int .i64 0),(.int .i64 0),(.int .i64 0),(.bool false),.nils,.nils]),iS 7 14 124]
def aqF:Rg:=[iM 125 5,iF 126 0 14,iL 127 126,iA 128 (.bslice true 1 1 [(.str [])] [(0,(Tm 127))]),iA 129 (.append 1 16 (Tm 125) (Tm 128)),iM 5 129]
def aqG:Rg:=[iC 130 .add 121 1,iM 121 130]
def CX:aD:=(.seq (.region aqD) (.seq (.cond (Tm 122) .skip (.exit 4)) (.seq (.block 5 (.seq (.region aqE) (.region aqF))) (.region aqG))))
def RW:Rg:=[iF 131 4 1,iL 132 131,iN 133 132,iI 134 0]
def aqH:Rg:=[iB 135 .lss 134 133]
def aqI:Rg:=[iX 136 3 132 134,iA 137 (.load (some 3) (Tm 136)),iA 16 (.alloc [(.str []),(.int .i64 0),(.int .i64 0)]),iS 3 16 137]
def aqJ:Rg:=[iM 138 5,iF 139 0 16,iL 140 139,iA 141 (.bslice true 1 1 [(.str [])] [(0,(Tm 140))]),iA 142 (.append 1 16 (Tm 138) (Tm 141)),iM 5 142]
def RX:Rg:=[iM 143 8,iM 144 143,iG 145 (.fieldA 1 (Tm 16)) 144 true,iG 146 (.load none (Tm 145)) 144 true,iG 147 (.fieldA 2 (Tm 1)) 144 true,iG 148 (.load none (Tm 147)) 144 true,iG 149 (.len (Tm 148)) 144 true,iG 150 (.bin .sub (Tm 149) (Ci 1)) 144 true,iG 151 (.call 104 [(Tm 146),(Ci 0),(Tm 150)]) 144 true,iA 152 (.pick (Tm 144) (Tm 151) (.const (.bool false))),iM 153 152,iG 154 (.fieldA 2 (Tm 16)) 153 true,iG 155 (.load none (Tm 154)) 153 true,iG 156 (.fieldA 3 (Tm 1)) 153 true,iG 157 (.load none (Tm 156)) 153 true,iG 158 (.len (Tm 157)) 153 true,iG 159 (.bin .sub (Tm 158) (Ci 1)) 153 true,iG 160 (.call 104 [(Tm 155),(Ci 0),(Tm 159)]) 153 true,iA 161 (.pick (Tm 153) (Tm 160) (.const (.bool false))),iM 162 161,iG 163 (.fieldA 3 (Tm 1)) 162 true,iG 164 (.load none (Tm 163)) 162 true,iG 165 (.fieldA 2 (Tm 16)) 162 true,iG 166 (.load none (Tm 165)) 162 true,iG 167 (.idxS 7 (Tm 164) (Tm 166)) 162 true,iG 168 (.fieldA 1 (Tm 167)) 162 true,iG 169 (.load none (Tm 168)) 162 true,iG 170 (.bin .eql (Tm 169) (Ci 4)) 162 true,iA 171 (.pick (Tm 162) (Tm 170) (.const (.bool false))),iM 8 171]
def rE:Rg:=[iC 172 .add 134 1,iM 134 172]
def CY:aD:=(.seq (.region aqH) (.seq (.cond (Tm 135) .skip (.exit 6)) (.seq (.block 7 (.seq (.region aqI) (.seq (.region aqJ) (.region RX)))) (.region rE))))
def RY:Rg:=[iF 173 5 1,iL 174 173,iN 175 174,iI 176 0]
def aqK:Rg:=[iB 177 .lss 176 175]
def aqL:Rg:=[iX 178 17 174 176,iA 179 (.load (some 17) (Tm 178)),iA 18 (.alloc [(.str []),(.int .i64 0),(.int .i64 0),(.int .i64 0),(.int .i64 0),(.int .i64 0),(.int .i64 0),(.int .i64 0),(.int .i64 0),.nils,.nils,(.bool false),.nils,.nils,(.bool false),.nils,.nils]),iS 17 18 179]
def aqM:Rg:=[iM 180 6,iF 181 0 18,iL 182 181,iA 183 (.bslice true 1 1 [(.str [])] [(0,(Tm 182))]),iA 184 (.append 1 16 (Tm 180) (Tm 183)),iM 6 184]
def RZ:Rg:=[iM 185 8,iM 186 185,iG 187 (.load (some 17) (Tm 18)) 186 true,iG 188 (.fieldA 2 (Tm 1)) 186 true,iG 189 (.load none (Tm 188)) 186 true,iG 190 (.len (Tm 189)) 186 true,iG 191 (.call 112 [(Tm 187),(Tm 190)]) 186 true,iA 192 (.pick (Tm 186) (Tm 191) (.const (.bool false))),iM 8 192]
def SA:Rg:=[iC 193 .add 176 1,iM 176 193]
def CZ:aD:=(.seq (.region aqK) (.seq (.cond (Tm 177) .skip (.exit 8)) (.seq (.block 9 (.seq (.region aqL) (.seq (.region aqM) (.region RZ)))) (.region SA))))
def SB:Rg:=[iF 194 6 1,iL 195 194,iN 196 195,iI 197 0]
def aqN:Rg:=[iB 198 .lss 197 196]
def aqO:Rg:=[iX 199 2 195 197,iA 200 (.load (some 2) (Tm 199)),iA 20 (.alloc [(.str []),(.int .i64 0)]),iS 2 20 200]
def aqP:Rg:=[iM 201 7,iF 202 0 20,iL 203 202,iA 204 (.bslice true 1 1 [(.str [])] [(0,(Tm 203))]),iA 205 (.append 1 16 (Tm 201) (Tm 204)),iM 7 205]
def SC:Rg:=[iM 206 8,iM 207 206,iG 208 (.fieldA 1 (Tm 20)) 207 true,iG 209 (.load none (Tm 208)) 207 true,iG 210 (.fieldA 5 (Tm 1)) 207 true,iG 211 (.load none (Tm 210)) 207 true,iG 212 (.len (Tm 211)) 207 true,iG 213 (.bin .sub (Tm 212) (Ci 1)) 207 true,iG 214 (.call 104 [(Tm 209),(Ci 0),(Tm 213)]) 207 true,iA 215 (.pick (Tm 207) (Tm 214) (.const (.bool false))),iM 8 215]
def SD:Rg:=[iC 216 .add 197 1,iM 197 216]
def DA:aD:=(.seq (.region aqN) (.seq (.cond (Tm 198) .skip (.exit 10)) (.seq (.block 11 (.seq (.region aqO) (.seq (.region aqP) (.region SC)))) (.region SD))))
def vI:Rg:=[iM 217 8,iA 218 (.un .not (Tm 217)),iM 219 218,iG 220 (.mv (Tm 3)) 219 false,iG 221 (.call 110 [(Tm 220)]) 219 false,iG 222 (.un .not (Tm 221)) 219 false,iA 223 (.pick (Tm 219) (.const (.bool true)) (Tm 222)),iM 224 223,iG 225 (.mv (Tm 4)) 224 false,iG 226 (.call 110 [(Tm 225)]) 224 false,iG 227 (.un .not (Tm 226)) 224 false,iA 228 (.pick (Tm 224) (.const (.bool true)) (Tm 227)),iM 229 228,iG 230 (.mv (Tm 5)) 229 false,iG 231 (.call 110 [(Tm 230)]) 229 false,iG 232 (.un .not (Tm 231)) 229 false,iA 233 (.pick (Tm 229) (.const (.bool true)) (Tm 232)),iM 234 233,iG 235 (.mv (Tm 6)) 234 false,iG 236 (.call 110 [(Tm 235)]) 234 false,iG 237 (.un .not (Tm 236)) 234 false,iA 238 (.pick (Tm 234) (.const (.bool true)) (Tm 237)),iM 239 238,iG 240 (.mv (Tm 7)) 239 false,iG 241 (.call 110 [(Tm 240)]) 239 false,iG 242 (.un .not (Tm 241)) 239 false,iA 243 (.pick (Tm 239) (.const (.bool true)) (Tm 242))]
def lE:Rg:=[iI 2 1]
def DB:Rg:=[iI 2 0]
def IF:aD:=(.seq (.region aDS) (.seq (.seq (.region aDT) (.cond (Tm 65) (.seq (.region nA) .ret) .skip)) (.seq (.region aDU) (.seq (.region aDV) (.seq (.seq (.region abQ) (.block 0 (.loop CV))) (.seq (.seq (.region RT) (.block 2 (.loop CW))) (.seq (.seq (.region RV) (.block 4 (.loop CX))) (.seq (.seq (.region RW) (.block 6 (.loop CY))) (.seq (.seq (.region RY) (.block 8 (.loop CZ))) (.seq (.seq (.region SB) (.block 10 (.loop DA))) (.seq (.seq (.region vI) (.cond (Tm 243) (.seq (.region lE) .ret) .skip)) (.seq (.region DB) .ret))))))))))))
def a0Q:List Nat:=[1,76,94,128,141,183,204]
def apZ:bG:=⟨1,244,IF,[.tmp 2]⟩
end Go.PM
namespace Go.PM
open Go
@[go_sem] theorem a7E (a b:List UInt8):HA .eql a b=some (.bool (a==b)):=rfl
@[go_sem] theorem a7F (a b:List UInt8):HA .neq a b=some (.bool !(a==b)):=rfl
@[go_sem] theorem aIM (a b:List UInt8):HA .add a b=if ((a.length+b.length:Nat):Int)>9223372036854775807 then none else some (.str (a++b)):=rfl
@[go_sem] theorem a4A:(([]:List UInt8)==[])=true:=rfl
@[go_sem] theorem aZD (c:UInt8) (t:List UInt8):((c::t)==[])=false:=rfl
theorem mU {a b:List UInt8} (h:a=b):(a==b)=true:=by simp[h]
theorem UR {a b:List UInt8} (h:a≠b):(a==b)=false:=by simp[h]
section
variable {C:Ctx} {F:PF} {H:PH}
theorem oE {name o s:Nat} {rs:List (List PV)} {vs:List PV} {v:PV} {args:List aN} {d:Option Nat} {K:PF→PH→Prop} (h:aJ C name vs .nil (aL v)) (ho:H o=some (.rows s rs))
  (ha:aN.evs (F.frz o s rs) args=some vs) (hK:K ((F.frz o s rs).put d v) (H.frz o s rs)):gC C name args [] d K F H:=by
 refine .inr ⟨_,_,.step o ho (.refl _ _),vs,.nil,aL v,?_,PH.nil_le,h,?_⟩
 ·rw[ha]; simp
 ·rintro r H' ⟨rfl,rfl⟩ -
  rw[PH.vS]
  exact hK
theorem gS.trans {F1 F2 F3:PF} {H1 H2 H3:PH} (h:gS F1 H1 F2 H2) (k:gS F2 H2 F3 H3):gS F1 H1 F3 H3:=by
 induction h with
 | refl=>exact k
 | step o ho h ih=>exact .step o ho (ih k)
theorem nM {c:aD} {K:bZ} {s:Nat} {v:PV} {rows:List (List PV)} (ho:bB H s v rows)
  (h:∀ v1,Seen s v1 rows→∀ F1 H1,(∀ t,F t=some v→F1 t=some v1)→(∀ i u,F i=some u→Pure u→F1 i=some u)→aD.wp C (.loop c) K F1 H1):aD.wp C (.loop c) K F H:=by
 obtain⟨v1,hs,hf⟩:=ho.frz
 obtain⟨F1,H1,hz,h1,h2⟩:=hf F
 obtain⟨α,Fs,Hs,Pr,m,a0,F2,H2,hz2,rest⟩:=h v1 hs F1 H1 h1 h2
 exact⟨α,Fs,Hs,Pr,m,a0,F2,H2,hz.trans hz2,rest⟩
theorem aJ.aMB {name s:Nat} {v:PV} {rows:List (List PV)} {H0:PH} {R:PV→PH→Prop} (h:aJ C name [.sl s rows] H0 R) (hs:Seen s v rows):aJ C name [v] H0 R:=by
 rcases hs with ⟨rfl,rfl⟩ | rfl
 ·refine h.args ⟨rfl,fun j p q hp hq=>?_⟩
  cases j with
  | zero=>simp at hp hq; subst hp; subst hq; exact .nil s
  | succ j=>simp at hp
 ·exact h
theorem bB.fresh {s:Nat} {v:PV} {rows:List (List PV)} {o:Nat} (h:bB H s v rows) (ho:H o=none) (x:bV):bB (H.set o x) s v rows∧∀ l,v≠.osl o s 0 l:=by
 refine⟨h.ext fun q y hq=>?_,fun l e=>?_⟩
 ·have:q≠o:=by rintro rfl; rw[ho] at hq; cases hq
  simp only[aV,if_neg this,hq]
 ·rcases h with ⟨_,h2⟩ | ⟨q,rs,h1,h2,_⟩
  ·rw[h2] at e; cases e
  ·rw[h1] at e
   injection e with e1
   subst e1
   rw[ho] at h2; cases h2
theorem kO {s b:Nat} {v:PV} {rows:List (List PV)} {r:List PV} {o:Nat} {x:bV} {K:PV→PH→Prop} (h:bB H s v rows) (ho:H o=none) (hr:roomFor rows.length 1 b)
  (hk:∀ v' H',bB H' s v' (rows++[r])→H' o=some x→K v' H'):mQ (H.set o x) s b v (.sl s [r]) K:=by
 obtain⟨h1,h2⟩:=h.fresh ho x
 refine fC (src:=[r]) h1 (by simp[dK]) hr fun v' H' hO hp=>hk v' H' hO (hp o x (by simp only[aV,if_true]) h2)
theorem AY {o s k:Nat} {rs:List (List PV)} (hk:k≤rs.length):PV.frz o s rs (.osl o s 0 k)=.sl s (rs.take k):=by
 have:0+k≤rs.length:=by omega
 simp only[PV.frz,PV.qA,PV.cX,if_true,true_and,if_pos this,bhV]
end
end Go.PM
namespace Go.PM
open Go Go.Na
def gB (n:Nat):Bool:=decide (97≤n)&&decide (n≤122)||decide (65≤n)&&decide (n≤90)
def pV (n:Nat):Bool:=decide (48≤n)&&decide (n≤57)
def gA (n:Nat):Bool:=gB n||pV n||decide (n=45)||decide (n=46)
theorem aKD {C:Ctx} (n:Nat):jL.wp C (aY uS.res (aL (.bool (gB n)))) (PF.args [.int .u8 n]) .nil:=by
 have fin:∀ (F:PF) (b:Bool),F 2=some (.bool b)→b=gB n→aY uS.res (aL (.bool (gB n))) .ret F .nil:=by
  intro F b h e
  subst e
  refine cC (.inr rfl) (vs:=[.bool (gB n)]) (by simp -implicitDefEqProofs only[go_sem,uS,h]) rfl
 unfold gB at *
 by_cases a:97≤n
 ·have a':(n:Int)≥97:=by omega
  by_cases b:n≤122
  ·have b':(n:Int)≤122:=by omega
   simp -implicitDefEqProofs only[go_sem,γ,reduceCtorEq,jL,nB,nC,a',b']
   exact fin _ _ rfl (by simp[a,b])
  ·have b':¬ (n:Int)≤122:=by omega
   by_cases c:65≤n
   ·have c':(n:Int)≥65:=by omega
    have d:¬ (n:Int)≤90:=by omega
    simp -implicitDefEqProofs only[go_sem,γ,reduceCtorEq,jL,nB,nC,a',b',c',d]
    exact fin _ _ rfl (by simp[a,b,c]; omega)
   ·omega
 ·have a':¬ (n:Int)≥97:=by omega
  by_cases c:65≤n
  ·have c':(n:Int)≥65:=by omega
   by_cases d:n≤90
   ·have d':(n:Int)≤90:=by omega
    simp -implicitDefEqProofs only[go_sem,γ,reduceCtorEq,jL,nB,nC,a',c',d']
    exact fin _ _ rfl (by simp[a,c,d])
   ·have d':¬ (n:Int)≤90:=by omega
    simp -implicitDefEqProofs only[go_sem,γ,reduceCtorEq,jL,nB,nC,a',c',d']
    exact fin _ _ rfl (by simp[a,c,d])
  ·have c':¬ (n:Int)≥65:=by omega
   simp -implicitDefEqProofs only[go_sem,γ,reduceCtorEq,jL,nB,nC,a',c']
   exact fin _ _ rfl (by simp[a,c])
theorem aOM {C:Ctx} (n:Nat):nZ.wp C (aY BB.res (aL (.bool (pV n)))) (PF.args [.int .u8 n]) .nil:=by
 have fin:∀ (F:PF) (b:Bool),F 2=some (.bool b)→b=pV n→aY BB.res (aL (.bool (pV n))) .ret F .nil:=by
  intro F b h e
  subst e
  refine cC (.inr rfl) (vs:=[.bool (pV n)]) (by simp -implicitDefEqProofs only[go_sem,BB,h]) rfl
 unfold pV at *
 by_cases a:48≤n
 ·have a':(n:Int)≥48:=by omega
  by_cases b:n≤57
  ·have b':(n:Int)≤57:=by omega
   simp -implicitDefEqProofs only[go_sem,γ,reduceCtorEq,nZ,wR,wS,a',b']
   exact fin _ _ rfl (by simp[a,b])
  ·have b':¬ (n:Int)≤57:=by omega
   simp -implicitDefEqProofs only[go_sem,γ,reduceCtorEq,nZ,wR,wS,a',b']
   exact fin _ _ rfl (by simp[a,b])
 ·have a':¬ (n:Int)≥48:=by omega
  simp -implicitDefEqProofs only[go_sem,γ,reduceCtorEq,nZ,wR,wS,a']
  exact fin _ _ rfl (by simp[a])
theorem aOQ {C:Ctx} (h1:∀ n:Nat,aJ C 126 [.int .u8 n] .nil (aL (.bool (gB n)))) (h2:∀ n:Nat,aJ C 124 [.int .u8 n] .nil (aL (.bool (pV n)))) (n:Nat) :
  yN.wp C (aY BC.res (aL (.bool (gA n)))) (PF.args [.int .u8 n]) .nil:=by
 have fin:∀ (F:PF) (b:Bool),F 2=some (.bool b)→b=gA n→aY BC.res (aL (.bool (gA n))) .ret F .nil:=by
  intro F b h e
  subst e
  refine cC (.inr rfl) (vs:=[.bool (gA n)]) (by simp -implicitDefEqProofs only[go_sem,BC,h]) rfl
 simp -implicitDefEqProofs only[go_sem,reduceCtorEq,yN,aeU,aeV]
 refine aB (h1 n) rfl ?_
 cases hl:gB n with
 | true =>
  simp -implicitDefEqProofs only[go_sem,γ]
  exact fin _ _ rfl (by simp[gA,hl])
 | false =>
  simp -implicitDefEqProofs only[go_sem,γ,reduceCtorEq]
  refine aB (h2 n) rfl ?_
  cases hd:pV n with
  | true =>
   simp -implicitDefEqProofs only[go_sem,γ,reduceCtorEq]
   exact fin _ _ rfl (by simp[gA,hd])
  | false =>
   by_cases c:n=45
   ·simp -implicitDefEqProofs only[go_sem,γ,reduceCtorEq,bS (show (n:Int)=45 by omega)]
    exact fin _ _ rfl (by simp[gA,c])
   ·by_cases d:n=46
    ·simp -implicitDefEqProofs only[go_sem,γ,reduceCtorEq,bF (show (n:Int)≠45 by omega),bS (show (n:Int)=46 by omega)]
     exact fin _ _ rfl (by simp[gA,d])
    ·simp -implicitDefEqProofs only[go_sem,γ,reduceCtorEq,bF (show (n:Int)≠45 by omega),bF (show (n:Int)≠46 by omega)]
     exact fin _ _ rfl (by simp[gA,c,d,hl,hd])
def isName (s:List UInt8):Bool:=match s with
 | []=>false
 | c::_=>decide (s.length≤16)&&gB c.toNat&&s.all fun c=>gA c.toNat
theorem BV {α:Type} {p:α→Bool} {l:List α} {k:Nat} (hk:k<l.length) (h:(l.take k).all p=true) (hp:p l[k]=true):(l.take (k+1)).all p=true:=by
 rw[biZ hk,List.all_append,h]; simp[hp]
theorem BW {α:Type} {p:α→Bool} {l:List α} {k:Nat} (hk:k<l.length) (hp:p l[k]=false):l.all p=false:=by
 rw[List.all_eq_false]
 exact⟨l[k],bgY hk,by simp[hp]⟩
def aqX (s:List UInt8) (k:Nat):PF:=((PF.nil.set 0 (.str s)).set 3 (.int .i64 k))
theorem aVH {C:Ctx} (h1:∀ n:Nat,aJ C 126 [.int .u8 n] .nil (aL (.bool (gB n)))) (h2:∀ n:Nat,aJ C 125 [.int .u8 n] .nil (aL (.bool (gA n)))) (s:List UInt8) :
  qH.wp C (aY MY.res (aL (.bool (isName s)))) (PF.args [.str s]) .nil:=by
 have fin:∀ (F:PF) (b:Bool),F 2=some (.bool b)→b=isName s→aY MY.res (aL (.bool (isName s))) .ret F .nil:=by
  intro F b h e
  subst e
  refine cC (.inr rfl) (vs:=[.bool (isName s)]) (by simp -implicitDefEqProofs only[go_sem,MY,h]) rfl
 cases s with
 | nil =>
  simp -implicitDefEqProofs only[go_sem,γ,reduceCtorEq,qH,DE,DF,DG]
  exact fin _ _ rfl rfl
 | cons c t =>
  have hz:(c::t)[0]?=some c:=rfl
  have hne:(c::t==[])=false:=rfl
  have hN:isName (c::t)=(decide ((c::t).length≤16)&&gB c.toNat&&(c::t).all fun c=>gA c.toNat):=rfl
  generalize c::t=s at *
  by_cases hl:s.length≤16
  ·have hl':¬ ((s.length:Nat):Int)>16:=by omega
   rw[decide_eq_true hl,bhP] at hN
   simp -implicitDefEqProofs only[go_sem,ν,γ,reduceCtorEq,qH,DE,DF,hne,hl',hz,biD]
   refine aB (h1 c.toNat) rfl ?_
   cases hc:gB c.toNat with
   | false =>
    simp -implicitDefEqProofs only[go_sem,γ,reduceCtorEq,bhN,DG]
    exact fin _ _ rfl (by rw[hN,hc]; rfl)
   | true =>
    rw[hc,bhP] at hN
    simp -implicitDefEqProofs only[go_sem,γ,reduceCtorEq,bhC,aqZ]
    refine wp_loop (α:=Nat) (fun k=>aqX s k) (fun _=>.nil) (fun k=>k≤s.length∧(s.take k).all (fun c=>gA c.toNat)=true) (fun k=>s.length-k) 0 ⟨bhE _,rfl⟩ ?_ PH.nil_le ?_
    ·unfold aqX
     (repeat' (first|exact PF.nil_le|refine PF.aA ?_ ?_))<;>first|(simp -implicitDefEqProofs only[go_sem,γ,reduceCtorEq]<;>rfl)|rfl
    rintro k ⟨hk,ha⟩
    simp -implicitDefEqProofs only[go_sem,γ,reduceCtorEq,aqY,arA,aqX]
    by_cases hlt:k<s.length
    ·have hlt':(k:Int)<(s.length:Nat):=by omega
     have hg:s[k]?=some s[k]:=bhH hlt
     simp -implicitDefEqProofs only[go_sem,γ,reduceCtorEq,hlt',arB,hg,biD]
     refine aB (h2 (s[k]).toNat) rfl ?_
     cases hi:gA (s[k]).toNat with
     | false =>
      simp -implicitDefEqProofs only[go_sem,γ,reduceCtorEq,bhN,arC]
      refine fin _ false rfl ?_
      rw[hN,BW hlt hi]
     | true =>
      simp -implicitDefEqProofs only[go_sem,γ,reduceCtorEq,bhC,arD,aK (show k<9223372036854775807 by omega)]
      refine aI (k+1) ⟨hlt,bhW.1 (BV hlt ha hi)⟩ (by omega) ?_ PH.nil_le
      (repeat' (first|exact PF.nil_le|refine PF.aA ?_ ?_))<;>first|(simp -implicitDefEqProofs only[go_sem,γ,reduceCtorEq]<;>rfl)|rfl
    ·have hlt':¬ (k:Int)<(s.length:Nat):=by omega
     simp -implicitDefEqProofs only[go_sem,hlt',arE]
     have:k=s.length:=by omega
     subst this
     rw[bhI (bgX _)] at ha
     exact fin _ true rfl (by rw[hN,ha])
  ·have hl':((s.length:Nat):Int)>16:=by omega
   simp -implicitDefEqProofs only[go_sem,γ,reduceCtorEq,qH,DE,DF,DG,hne,hl']
   exact fin _ _ rfl (by rw[hN,decide_eq_false hl]; rfl)
end Go.PM
namespace Go.PM
open Go Go.Na
abbrev dV (x:Int):Prop:=-9223372036854775808≤x∧x≤9223372036854775807
structure cM where
 name:List UInt8
 start:List RF
 rates:List (List RF)
 exit:List RF
structure cT where
 name:List UInt8
 extents:Int
 port:Int
 law:Int
structure cK where
 name:List UInt8
 level:Int
 parent:Int
 uplink:Int
 shock:RF
structure cQ where
 name:List UInt8
 model:Int
 machine:Int
structure cG where
 name:List UInt8
 k:Int
 m:Int
 quorum:Int
 s0:Int
 s1:Int
 s2:Int
 s3:Int
 s4:Int
 models:List Int
 repair:List RF
 target:RF
 horizon:RF
structure fK where
 name:List UInt8
 policy:Int
structure aG where
 extent:Int
 laws:List cM
 models:List cT
 domains:List cK
 drives:List cQ
 policies:List cG
 volumes:List fK
abbrev aMA (l:List (List RF)):PV:=.sl 1 (l.map fun r=>[frs r])
abbrev cM.cells (x:cM):List PV:=[.str x.name,frs x.start,aMA x.rates,frs x.exit]
abbrev cT.cells (x:cT):List PV:=[.str x.name,.int .i64 x.extents,.int .i64 x.port,.int .i64 x.law]
abbrev cK.cells (x:cK):List PV:=[.str x.name,.int .i64 x.level,.int .i64 x.parent,.int .i64 x.uplink,.bool x.shock.neg,aF x.shock.num,aF x.shock.den]
abbrev cQ.cells (x:cQ):List PV:=[.str x.name,.int .i64 x.model,.int .i64 x.machine]
abbrev cG.cells (x:cG):List PV:=[.str x.name,.int .i64 x.k,.int .i64 x.m,.int .i64 x.quorum,.int .i64 x.s0,.int .i64 x.s1,.int .i64 x.s2,.int .i64 x.s3,.int .i64 x.s4,ints x.models,frs x.repair,
 .bool x.target.neg,aF x.target.num,aF x.target.den,.bool x.horizon.neg,aF x.horizon.num,aF x.horizon.den]
abbrev fK.cells (x:fK):List PV:=[.str x.name,.int .i64 x.policy]
abbrev aG.cells (f:aG):List PV:=[.int .i64 f.extent,.sl 4 (f.laws.map cM.cells),.sl 4 (f.models.map cT.cells),.sl 7 (f.domains.map cK.cells),.sl 3 (f.drives.map cQ.cells),.sl 17 (f.policies.map cG.cells),.sl 2 (f.volumes.map fK.cells)]
def cG.spread (p:cG) (level:Nat):Int:=match level with
 | 0=>p.s0
 | 1=>p.s1
 | 2=>p.s2
 | 3=>p.s3
 | _=>p.s4
abbrev Fits {α:Type} (l:List α):Prop:=l.length≤9223372036854775807
structure qY (l:List RF):Prop where
 fits:Fits l
 all:∀ x∈l,x.Ok
structure cM.Ok (x:cM):Prop where
 start:qY x.start
 exit:qY x.exit
 rates:Fits x.rates
 row:∀ r∈x.rates,qY r
structure cG.Ok (x:cG):Prop where
 k:dV x.k
 m:dV x.m
 quorum:dV x.quorum
 models:Fits x.models
 each:∀ m∈x.models,dV m
 repair:qY x.repair
 target:x.target.Ok
 horizon:x.horizon.Ok
structure aG.Ok (f:aG):Prop where
 laws:Fits f.laws
 models:Fits f.models
 domains:Fits f.domains
 drives:Fits f.drives
 policies:Fits f.policies
 volumes:Fits f.volumes
 law:∀ x∈f.laws,x.Ok
 dom:∀ x∈f.domains,x.shock.Ok∧dV x.level∧dV x.parent
 drive:∀ x∈f.drives,dV x.model∧dV x.machine
 policy:∀ x∈f.policies,x.Ok
 volume:∀ x∈f.volumes,dV x.policy
def zO (x:RF):FR:=if dH (val x.num) (val x.den) then jT x.neg (val x.num) (val x.den) else .error 1
theorem aLV (x:RF):NG x.neg (val x.num) (val x.den)=frV (zO x):=by
 unfold NG zO
 split
 ·exact abW _ _ _
 ·rfl
def fF (x:RF):Bool:=match zO x with
 | .ok (n,a,b)=>!n&&(decide (cB a≤32)&&decide (cB b≤32))
 | .error _=>false
def bR (x:RF):Bool:=decide (val x.num≠0)
def TO (x:RF):Bool:=dH (val x.num) (val x.den)&&decide (vQ x.neg (val x.num) (val x.den) false 1 1≤0)
def within (n lo hi:Int):Bool:=decide (lo≤n)&&decide (n≤hi)
def cY (R:List Bool) (i:Nat) (row:List RF):Nat→List Bool
 | 0=>R
 | k+1=>let R':=cY R i row k
  R'.set i (R'.getD i false||(row.map bR).getD k false&&R'.getD k false)
def jN (l:cM) (R:List Bool) (i:Nat):List Bool :=
 cY (R.set i (R.getD i false||(l.exit.map bR).getD i false)) i (l.rates.getD i []) (l.rates.getD i []).length
def eE (l:cM) (R:List Bool):Nat→List Bool
 | 0=>R
 | i+1=>jN l (eE l R i) i
def fP (l:cM):Nat→List Bool
 | 0=>bgV l.exit.length false
 | r+1=>eE l (fP l r) l.exit.length
def pZ (l:cM):Bool:=(fP l (l.exit.length+1)).all id
def oP (l:cM):Bool :=
 within l.start.length 1 4&&decide (l.exit.length=l.start.length)&&decide (l.rates.length=l.start.length)&&l.start.all fF&&l.exit.all fF
 && (bhB l.rates.length).all (fun i=>decide ((l.rates.getD i []).length=l.start.length)&&(l.rates.getD i []).all fF&&!((l.rates.getD i []).map bR).getD i false)
 && (match oS (l.start.map RF.v) with
  | .ok (n,a,b)=>decide (vQ n a b false 1 1=0)
  | .error _=>false)&&pZ l
def distinct (l:List (List UInt8)):Bool:=(bhB l.length).all fun i=>isName (l.getD i [])&&!(l.take i).contains (l.getD i [])
def RC (f:aG) (i:Nat) (d:cK):Bool :=
 within d.parent 0 i&&decide ((f.domains.map cK.level).getD d.parent.toNat 0=IntKind.i64.wrap (d.level-1))&&within d.level 1 4&&within d.uplink 1 64&&fF d.shock
def MK (f:aG) (r:cK) (t:List cK):Bool :=
 decide (r.name=[])&&decide (r.level=0)&&decide (r.parent=-1)&&decide (r.uplink=0)&&fF r.shock&&!bR r.shock
  && (bhB t.length).all fun i=>match t[i]? with
   | some d=>RC f i d
   | none=>false
def lZ (f:aG):Bool:=match f.domains with
 | []=>false
 | r::t=>MK f r t
def TM (p:cG):Bool :=
 within p.k 1 6&&within p.m 0 4&&decide (p.k+p.m≤8)&&within p.quorum p.k (p.k+p.m)&&decide (p.s0=0)&&([p.s0,p.s1,p.s2,p.s3,p.s4].all fun n=>within n 0 8)
def NF (p:cG):Bool :=
 decide ((p.repair.length:Int)=max p.m 1)&&(p.repair.all fun x=>fF x&&bR x)&&fF p.target&&TO p.target&&fF p.horizon
def iH (models:Nat) (p:cG):Bool :=
 TM p&&decide (p.models.length≠0)&&NF p&&(bhB p.models.length).all fun j=>within (p.models.getD j 0) 0 ((models:Int)-1)&&!(p.models.take j).contains (p.models.getD j 0)
def kC (f:aG) (m:cT):Bool:=within m.extents 1 16&&within m.port 1 64&&within m.law 0 ((f.laws.length:Int)-1)
def iO (f:aG) (d:cQ):Bool:=within d.model 0 ((f.models.length:Int)-1)&&within d.machine 0 ((f.domains.length:Int)-1)&&decide ((f.domains.map cK.level).getD d.machine.toNat 0=4)
def lW (f:aG) (v:fK):Bool:=within v.policy 0 ((f.policies.length:Int)-1)
def mO (f:aG):Bool:=within f.extent 1 4&&decide (f.laws.length≤4)&&decide (f.models.length≤4)&&decide (f.domains.length≤40)&&decide (f.drives.length≤24)&&decide (f.policies.length≤4)&&decide (f.volumes.length≤12)
def cU (f:aG):Bool :=
 mO f&&lZ f&&(f.laws.all oP&&f.models.all (kC f)&&f.drives.all (iO f)&&f.policies.all (iH f.models.length)&&f.volumes.all (lW f))
 && (distinct (f.laws.map cM.name)&&distinct (f.models.map cT.name)&&distinct ((f.domains.drop 1).map cK.name++f.drives.map cQ.name)&&distinct (f.policies.map cG.name)&&distinct (f.volumes.map fK.name))
end Go.PM
namespace Go.PM
open Go Go.Na
theorem aU {t:Nat} {b b':Bool} {F:PF} {H:PH} (h:F t=some (.bool b)) (e:b=b'):aY [.tmp t] (bY (.bool b')) .ret F H:=by
 subst e
 exact aW (.inr rfl) .nil (vs:=[.bool b]) (by rw[jO,lP,h,nG]) PH.nil_le ⟨.refl _,rfl⟩
theorem a4P {C:Ctx} (n lo hi:Int):vE.wp C (aY gin.res (bY (.bool (within n lo hi)))) (PF.args [.int .i64 n,.int .i64 lo,.int .i64 hi]) .nil:=by
 by_cases a:lo≤n
 ·by_cases b:n≤hi
  ·simp -implicitDefEqProofs only[go_sem,γ,reduceCtorEq,vE,VT,VU,gin,show n≥lo from a,b]
   exact aU rfl (by simp[within,a,b])
  ·simp -implicitDefEqProofs only[go_sem,γ,reduceCtorEq,vE,VT,VU,gin,show n≥lo from a,b]
   exact aU rfl (by simp[within,a,b])
 ·have a':¬ n≥lo:=a
  simp -implicitDefEqProofs only[go_sem,γ,reduceCtorEq,vE,VT,VU,gin,a']
  exact aU rfl (by simp[within,a])
theorem aNY {C:Ctx} (L:pP C) (x:RF) (hx:x.Ok):xT.wp C (aY HV.res (bY (.bool (bR x)))) (PF.args [.agg x.cells]) .nil:=by
 simp -implicitDefEqProofs only[go_sem,δ,γ,θ,xT,adU,adV,HV]
 refine aB (L.bits x.num hx.1 hx.2.2.1) rfl ?_
 simp -implicitDefEqProofs only[go_sem,γ]
 refine aU rfl ?_
 have:=@gU (val x.num)
 rw[bR,decide_eq_decide]
 omega
structure alF (C:Ctx):Prop extends BU C where
 frac:∀ n d:Int,dV n→dV d→aJ C 115 [.int .i64 n,.int .i64 d] .nil (aL (WN n d))
 red:∀ x:RF,x.Ok→aJ C 116 [.agg x.cells] .nil (aL (frV (zO x)))
 ord:∀ x y:RF,x.Ok→y.Ok→aJ C 114 [.agg x.cells,.agg y.cells] .nil (aL (wK x.neg (val x.num) (val x.den) y.neg (val y.num) (val y.den)))
 plus:∀ x y:RF,x.Ok→y.Ok→aJ C 113 [.agg x.cells,.agg y.cells] .nil (aL (frV (iT x.v y.v)))
 tot:∀ l:List RF,qY l→aJ C 117 [frs l] .nil (aL (frV (oS (l.map RF.v))))
theorem DH {neg:Bool} {a b:Nat} {e:Int} (h:jT neg a b=.error e):e=2:=by
 unfold jT at h
 split at h
 ·injection h with h; exact h.symm
 ·cases h
theorem aWP {x:RF} {e:Int} (h:zO x=.error e):e≠0:=by
 unfold zO at h
 split at h
 ·rw[DH h]; decide
 ·injection h with h; subst h; decide
theorem a2E {x:RF} {r:FV} (h:zO x=.ok r):r.rf.Ok:=by
 unfold zO at h
 split at h
 ·exact (qI h).2
 ·cases h
theorem a0G {C:Ctx} (L:alF C) (x:RF) (hx:x.Ok):IA.wp C (aY apC.res (bY (.bool (fF x)))) (PF.args [.agg x.cells]) .nil:=by
 simp -implicitDefEqProofs only[go_sem,δ,γ,IA,aDC,aDD,apC]
 refine aB (L.red x hx) rfl ?_
 unfold fF
 cases hr:zO x with
 | error e =>
  have:=bF (aWP hr)
  simp -implicitDefEqProofs only[go_sem,δ,γ,frV]
  refine aQ fun o ho=>?_
  simp -implicitDefEqProofs only[go_sem,δ,γ,reduceCtorEq,MT,this]
  exact aU rfl rfl
 | ok r =>
  obtain⟨n,a,b⟩:=r
  obtain⟨l1,l2,l3,l4⟩:=a2E hr
  simp -implicitDefEqProofs only[go_sem,δ,γ,frV]
  refine aQ fun o ho=>?_
  cases n with
  | true =>
   simp -implicitDefEqProofs only[go_sem,ρ,δ,γ,θ,reduceCtorEq,MT]
   exact aU rfl rfl
  | false =>
   simp -implicitDefEqProofs only[go_sem,ρ,δ,γ,θ,MT]
   refine aB (L.bits _ l1 l3) rfl ?_
   rw[show val (FV.rf (false,a,b)).num=a from aX a]
   by_cases c1:cB a≤32
   ·have c1':((cB a:Nat):Int)≤32:=by omega
    simp -implicitDefEqProofs only[go_sem,δ,γ,c1']
    refine aB (L.bits _ l2 l4) rfl ?_
    rw[show val (FV.rf (false,a,b)).den=b from aX b]
    simp -implicitDefEqProofs only[go_sem,γ]
    refine aU rfl ?_
    rw[decide_eq_true c1]
    simp
    omega
   ·have c1':¬ ((cB a:Nat):Int)≤32:=by omega
    simp -implicitDefEqProofs only[go_sem,γ,reduceCtorEq,c1']
    refine aU rfl ?_
    rw[decide_eq_false c1]
    rfl
theorem arI:jT false 1 1=.ok (false,1,1):=by
 have:cB 1=1:=by rw[oI (by decide),jA]
 simp[jT,this]
theorem arM:WN 1 1=frV (.ok (false,1,1)):=by
 rw[WN,if_neg (by decide),abW]
 show frV (jT false 1 1)=_
 rw[arI]
theorem aQQ:(FV.rf (false,1,1)).Ok:=(qI arI).2
theorem akO:dH 1 1=true:=by
 have:cB 1=1:=by rw[oI (by decide),jA]
 simp[dH,this]
theorem a0K {C:Ctx} (L:alF C) (x:RF) (hx:x.Ok):IC.wp C (aY gone.res (bY (.bool (TO x)))) (PF.args [.agg x.cells]) .nil:=by
 simp -implicitDefEqProofs only[go_sem,IC,aDH,aDI,gone]
 refine aB (L.frac 1 1 (by decide) (by decide)) rfl ?_
 rw[arM]
 simp -implicitDefEqProofs only[go_sem,δ,γ,frV]
 refine aQ fun o ho=>?_
 simp -implicitDefEqProofs only[go_sem,δ,γ,aDJ]
 refine aB (L.ord x (FV.rf (false,1,1)) hx aQQ) rfl ?_
 rw[show val (FV.rf (false,1,1)).num=1 from aX 1,show val (FV.rf (false,1,1)).den=1 from aX 1,show (FV.rf (false,1,1)).neg=false from rfl]
 unfold wK TO
 rw[akO,bjD]
 cases hv:dH (val x.num) (val x.den) with
 | false =>
  simp -implicitDefEqProofs only[go_sem,ρ,γ,reduceCtorEq,abO]
  exact aU rfl rfl
 | true =>
  simp -implicitDefEqProofs only[go_sem,ρ,γ,abO]
  exact aU rfl rfl
theorem aUI {C:Ctx} (p:RF→Bool) (fn:Nat) (l:List RF) (hf:Fits l) (h:∀ x∈l,aJ C fn [.agg x.cells] .nil (aL (.bool (p x)))) :
  CL.wp C (aY VQ.res (bY (.bool (l.all p)))) (PF.args [frs l,.fn fn []]) .nil:=by
 simp -implicitDefEqProofs only[go_sem,γ,reduceCtorEq,CL,anZ,aoA,VQ]
 refine wp_loop (α:=Nat) (fun k=>((((PF.nil.set 1 (.fn fn [])).set 7 (frs l)).set 8 (.int .i64 (l.length:Nat))).set 9 (.int .i64 k))) (fun _=>.nil) (fun k=>k≤l.length∧(l.take k).all p=true) (fun k=>l.length-k) 0 ⟨bhE _,rfl⟩ ?_ PH.nil_le ?_
 ·(repeat' (first|exact PF.nil_le|refine PF.aA ?_ ?_))<;>first|(simp -implicitDefEqProofs only[go_sem,γ,bgT]<;>rfl)|rfl
 rintro k ⟨hk,ha⟩
 simp -implicitDefEqProofs only[go_sem,γ,anY,aoB]
 by_cases hlt:k<l.length
 ·have hlt':(k:Int)<(l.length:Nat):=by omega
  have hr:(l.map RF.cells)[k]?=some (l[k]).cells:=by simp[hlt]
  simp -implicitDefEqProofs only[go_sem,δ,γ,hlt',aoC,hr]
  refine aQ fun o ho=>?_
  simp -implicitDefEqProofs only[go_sem,δ,γ,aoD]
  refine⟨fn,[],rfl,?_⟩
  refine aB (h _ (bgY hlt)) rfl ?_
  cases hp:p l[k] with
  | false =>
   simp -implicitDefEqProofs only[go_sem,γ,aoE]
   exact aU (b:=false) rfl (BW (p:=p) hlt hp).symm
  | true =>
   simp -implicitDefEqProofs only[go_sem,γ,aoF,aK (show k<9223372036854775807 by omega)]
   refine aI (k+1) ⟨hlt,bhW.1 (BV hlt ha hp)⟩ (by omega) ?_ PH.nil_le
   (repeat' (first|exact PF.nil_le|refine PF.aA ?_ ?_))<;>first|(simp -implicitDefEqProofs only[go_sem,γ]<;>rfl)|rfl
 ·have hlt':¬ (k:Int)<(l.length:Nat):=by omega
  simp -implicitDefEqProofs only[go_sem,hlt',aoG]
  have:k=l.length:=by omega
  subst this
  rw[bhI (bgX _)] at ha
  exact aU rfl ha.symm
theorem aUK {C:Ctx} (p:Int→Bool) (fn:Nat) (l:List Int) (hf:Fits l) (h:∀ x∈l,aJ C fn [.int .i64 x] .nil (aL (.bool (p x)))) :
  CM.wp C (aY VR.res (bY (.bool (l.all p)))) (PF.args [ints l,.fn fn []]) .nil:=by
 simp -implicitDefEqProofs only[go_sem,γ,reduceCtorEq,CM,aoI,aoJ,VR]
 refine wp_loop (α:=Nat) (fun k=>((((PF.nil.set 1 (.fn fn [])).set 7 (ints l)).set 8 (.int .i64 (l.length:Nat))).set 9 (.int .i64 k))) (fun _=>.nil) (fun k=>k≤l.length∧(l.take k).all p=true) (fun k=>l.length-k) 0 ⟨bhE _,rfl⟩ ?_ PH.nil_le ?_
 ·(repeat' (first|exact PF.nil_le|refine PF.aA ?_ ?_))<;>first|(simp -implicitDefEqProofs only[go_sem,γ,bgT]<;>rfl)|rfl
 rintro k ⟨hk,ha⟩
 simp -implicitDefEqProofs only[go_sem,γ,aoH,aoK]
 by_cases hlt:k<l.length
 ·have hlt':(k:Int)<(l.length:Nat):=by omega
  have hr:(l.map fun n=>[PV.int .i64 n])[k]?=some [.int .i64 l[k]]:=by simp[hlt]
  simp -implicitDefEqProofs only[go_sem,γ,hlt',aoL,hr,aoM]
  refine⟨fn,[],rfl,?_⟩
  refine aB (h _ (bgY hlt)) rfl ?_
  cases hp:p l[k] with
  | false =>
   simp -implicitDefEqProofs only[go_sem,γ,aoN]
   exact aU (b:=false) rfl (BW (p:=p) hlt hp).symm
  | true =>
   simp -implicitDefEqProofs only[go_sem,γ,aoO,aK (show k<9223372036854775807 by omega)]
   refine aI (k+1) ⟨hlt,bhW.1 (BV hlt ha hp)⟩ (by omega) ?_ PH.nil_le
   (repeat' (first|exact PF.nil_le|refine PF.aA ?_ ?_))<;>first|(simp -implicitDefEqProofs only[go_sem,γ]<;>rfl)|rfl
 ·have hlt':¬ (k:Int)<(l.length:Nat):=by omega
  simp -implicitDefEqProofs only[go_sem,hlt',aoP]
  have:k=l.length:=by omega
  subst this
  rw[bhI (bgX _)] at ha
  exact aU rfl ha.symm
abbrev aIN (l:List Bool):PV:=.sl 1 (l.map fun b=>[PV.bool b])
theorem aUG {C:Ctx} (p:Bool→Bool) (fn:Nat) (l:List Bool) (hf:Fits l) (h:∀ x∈l,aJ C fn [.bool x] .nil (aL (.bool (p x)))) :
  CK.wp C (aY VP.res (bY (.bool (l.all p)))) (PF.args [aIN l,.fn fn []]) .nil:=by
 simp -implicitDefEqProofs only[go_sem,γ,reduceCtorEq,CK,anQ,anR,VP]
 refine wp_loop (α:=Nat) (fun k=>((((PF.nil.set 1 (.fn fn [])).set 7 (aIN l)).set 8 (.int .i64 (l.length:Nat))).set 9 (.int .i64 k))) (fun _=>.nil) (fun k=>k≤l.length∧(l.take k).all p=true) (fun k=>l.length-k) 0 ⟨bhE _,rfl⟩ ?_ PH.nil_le ?_
 ·(repeat' (first|exact PF.nil_le|refine PF.aA ?_ ?_))<;>first|(simp -implicitDefEqProofs only[go_sem,γ,bgT]<;>rfl)|rfl
 rintro k ⟨hk,ha⟩
 simp -implicitDefEqProofs only[go_sem,γ,anP,anS]
 by_cases hlt:k<l.length
 ·have hlt':(k:Int)<(l.length:Nat):=by omega
  have hr:(l.map fun b=>[PV.bool b])[k]?=some [.bool l[k]]:=by simp[hlt]
  simp -implicitDefEqProofs only[go_sem,γ,hlt',anT,hr,anU]
  refine⟨fn,[],rfl,?_⟩
  refine aB (h _ (bgY hlt)) rfl ?_
  cases hp:p l[k] with
  | false =>
   simp -implicitDefEqProofs only[go_sem,γ,anV]
   exact aU (b:=false) rfl (BW (p:=p) hlt hp).symm
  | true =>
   simp -implicitDefEqProofs only[go_sem,γ,anW,aK (show k<9223372036854775807 by omega)]
   refine aI (k+1) ⟨hlt,bhW.1 (BV hlt ha hp)⟩ (by omega) ?_ PH.nil_le
   (repeat' (first|exact PF.nil_le|refine PF.aA ?_ ?_))<;>first|(simp -implicitDefEqProofs only[go_sem,γ]<;>rfl)|rfl
 ·have hlt':¬ (k:Int)<(l.length:Nat):=by omega
  simp -implicitDefEqProofs only[go_sem,hlt',anX]
  have:k=l.length:=by omega
  subst this
  rw[bhI (bgX _)] at ha
  exact aU rfl ha.symm
theorem aOA {C:Ctx} (b:Bool):xU.wp C (aY HW.res (bY (.bool b))) (PF.args [.bool b]) .nil:=by
 simp -implicitDefEqProofs only[go_sem,γ,reduceCtorEq,xU,adW,adX,HW]
 exact aU rfl rfl
theorem aUP {C:Ctx} (hin:∀ n lo hi:Int,aJ C 104 [.int .i64 n,.int .i64 lo,.int .i64 hi] .nil (aL (.bool (within n lo hi)))) (n:Int):CQ.wp C (aY VV.res (bY (.bool (within n 0 8)))) (PF.args [.int .i64 n]) .nil:=by
 simp -implicitDefEqProofs only[go_sem,reduceCtorEq,CQ,apE,apF,VV]
 refine aB (hin n 0 8) rfl ?_
 simp -implicitDefEqProofs only[go_sem,γ]
 exact aU rfl rfl
theorem aOD {C:Ctx} (h1:∀ x:RF,x.Ok→aJ C 105 [.agg x.cells] .nil (aL (.bool (fF x)))) (h2:∀ x:RF,x.Ok→aJ C 97 [.agg x.cells] .nil (aL (.bool (bR x)))) (x:RF) (hx:x.Ok) :
  xV.wp C (aY IE.res (bY (.bool (fF x&&bR x)))) (PF.args [.agg x.cells]) .nil:=by
 simp -implicitDefEqProofs only[go_sem,δ,γ,xV,aeC,aeD,IE]
 refine aB (h1 x hx) rfl ?_
 cases hl:fF x with
 | false =>
  simp -implicitDefEqProofs only[go_sem,γ,reduceCtorEq]
  exact aU rfl rfl
 | true =>
  simp -implicitDefEqProofs only[go_sem,δ,γ]
  refine aB (h2 x hx) rfl ?_
  simp -implicitDefEqProofs only[go_sem,γ]
  exact aU rfl rfl
end Go.PM
namespace Go.PM
open Go
section
variable (o s:Nat) (rs:List (List PV))
@[go_sem] theorem bcP (k:IntKind) (n:Int):PV.frz o s rs (.int k n)=.int k n:=rfl
@[go_sem] theorem a8T (b:Bool):PV.frz o s rs (.bool b)=.bool b:=rfl
@[go_sem] theorem bcT (l:List UInt8):PV.frz o s rs (.str l)=.str l:=rfl
@[go_sem] theorem a8U:PV.frz o s rs .nils=.nils:=rfl
@[go_sem] theorem bfY (n:Nat) (r:List (List PV)):PV.frz o s rs (.sl n r)=.sl n r:=rfl
@[go_sem] theorem a8V (c:List PV):PV.frz o s rs (.rptr c)=.rptr c:=rfl
@[go_sem] theorem bcS (q z i c:Nat):PV.frz o s rs (.ptr q z i c)=.ptr q z i c:=rfl
@[go_sem] theorem bfX (n:Nat) (c:List PV):PV.frz o s rs (.fn n c)=.fn n c:=rfl
@[go_sem] theorem bcQ (q:Nat):PV.frz o s rs (.map q)=.map q:=rfl
@[go_sem] theorem bcR (q z off len:Nat):PV.frz o s rs (.osl q z off len)=if q=o then (if z=s∧off+len≤rs.length then .sl s ((rs.drop off).take len) else .junk) else .osl q z off len:=rfl
end
def gO (s:Nat) (rows:List (List PV)) (r:PV) (H:PH):Prop :=
 (rows=[]∧r=.nils∧H=PH.nil)∨∃ q rs,r=.osl q s 0 rows.length∧H=PH.nil.set q (.rows s rs)∧rows.length≤rs.length∧rs.take rows.length=rows
theorem aCE (q s:Nat) (rs:List (List PV)):(PH.nil.set q (.rows s rs)).frz q s rs=PH.nil:=PH.ext fun o=>by
 rw[MV]
 by_cases e:o=q
 ·rw[if_pos e]; rfl
 ·rw[if_neg e,aV,if_neg e]; rfl
section
variable {C:Ctx} {K:bZ} {F:PF} {H:PH} {s:Nat} {v:PV} {rows:List (List PV)}
theorem gO.over {r:PV} {H':PH} (h:gO s rows r H') (ha:jW H .nil H'):bB (H.over .nil H') s r rows∧∀ o x,H o=some x→(H.over .nil H') o=some x:=by
 rcases h with ⟨h1,h2,rfl⟩ | ⟨q,rs,h1,rfl,h3,h4⟩
 ·rw[PH.vS]; exact⟨.inl ⟨h1,h2⟩,fun o x h=>h⟩
 ·rw[PH.kU]
  have hq:H q=none:=ha q (.rows s rs) (by simp only[aV,if_true]) rfl
  refine⟨.inr ⟨q,rs,h1,by simp only[aV,if_true],h3,h4⟩,fun o x ho=>?_⟩
  have:o≠q:=by rintro rfl; rw[hq] at ho; cases ho
  simp only[aV,if_neg this,ho]
theorem ER {t:Nat} {e:kJ} (he:e=.normal∨e=.ret) (h:bB H s v rows) (ht:F t=some v):aY [.tmp t] (gO s rows) e F H:=by
 rcases h with ⟨rfl,rfl⟩ | ⟨q,rs,rfl,h1,h2,h3⟩
 ·exact aW (vs:=[.nils]) he .nil (by rw[jO,lP,ht,nG]) PH.nil_le (.inl ⟨rfl,rfl,rfl⟩)
 ·exact aW (vs:=[.osl q s 0 rows.length]) he (PH.nil.set q (.rows s rs)) (by rw[jO,lP,ht,nG]) (PH.aA PH.nil_le h1) (.inr ⟨q,rs,rfl,rfl,h2,h3⟩)
theorem BH {t:Nat} {e:kJ} (he:e=.normal∨e=.ret) (ht:F t=some .nils):aY [.tmp t] (gO s []) e F H:=ER he .nil ht
theorem aQY {t:Nat} {e:kJ} {r:PV} {H':PH} (he:e=.normal∨e=.ret) (h:gO s rows r H') (ht:F t=some r):aY [.tmp t] (gO s rows) e F (H.over .nil H'):=by
 refine aW (vs:=[r]) he H' (by rw[jO,lP,ht,nG]) (fun o x ho=>?_) h
 rw[lO,ho]
theorem aJ.freeze {name:Nat} {args:List PV} (h:aJ C name args H (gO s rows)):aJ C name args H (aL (.sl s rows)) :=
 ⟨h.1,fun E w vs hN hW hvs=>(h.2 E w vs hN hW hvs).mono fun e w' he=>by
  obtain⟨u,pv,E',H',rfl,hW',hr,hE,hp⟩:=he
  rcases hp with ⟨rfl,rfl,rfl⟩ | ⟨q,rs,rfl,rfl,h3,h4⟩
  ·exact⟨u,_,E',_,rfl,hW',(Co.nil s).sound hr,hE,rfl,rfl⟩
  ·have hz:gS (PF.nil.set 0 (.osl q s 0 rows.length)) (PH.nil.set q (.rows s rs)) _ _:=.step q (s:=s) (rs:=rs) (by simp only[aV,if_true]) (.refl _ _)
   obtain⟨E2,k1,k2,k3⟩:=hz.sound hW'
   have hrep:=k3 (fun _=>u) (fun i p hi=>by
    rw[kW] at hi
    split at hi
    ·cases hi; exact hr
    ·cases hi) 0 (.sl s rows) (by rw[qB,kW,if_pos rfl,biD,AY h3,h4])
   rw[aCE] at k1 k2
   exact⟨u,_,E2,_,rfl,k1,hrep,hE.trans k2,rfl,rfl⟩⟩
theorem eI.of:∀ {E:Env} (ps:List PV) (vs:List Value),vs.length=ps.length→(∀ (i:Nat) p v,ps[i]?=some p→vs[i]?=some v→aT E p v)→eI E ps vs
 | _,[],[],_,_=>.nil
 | _,[],_::_,h,_=>by simp at h
 | _,_::_,[],h,_=>by simp at h
 | _,p::ps,v::vs,h,k=>.cons (k 0 p v rfl rfl) (eI.of ps vs (by simpa using h) fun i q u a b=>k (i+1) q u (by simpa using a) (by simpa using b))
theorem bL.same {E:Env} {w w':World} (hW:bL E H w) (hs:w.heap.size≤w'.heap.size) (hb:∀ b,b<w.heap.size→H b=none→w'.heap[b]?=w.heap[b]?) (hH:∀ o x,H o=some x→w'.heap[o]?=w.heap[o]?):bL E H w':=by
 have key:∀ b,b<w.heap.size→w'.heap[b]?=w.heap[b]?:=fun b hlt=>by
  cases e:H b with
  | none=>exact hb b hlt e
  | some x=>exact hH b x e
 refine⟨fun b cs h=>?_,fun o x h=>?_,fun o n h=>?_⟩
 ·obtain⟨h1,ty,fr,h2⟩:=hW.g b cs h
  exact⟨h1,ty,fr,(key b (bkC.1 h2).1).trans h2⟩
 ·obtain⟨h1,h2⟩:=hW.h o x h
  exact⟨Nat.lt_of_lt_of_le h1 hs,h2.mono (.refl E) (key o h1)⟩
 ·obtain⟨cur,ty,fr,h1,h2⟩:=hW.s o n h
  exact⟨cur,ty,fr,(key o (bkC.1 h1).1).trans h1,h2⟩
inductive Plain:PV→Prop
 | int (k:IntKind) (n:Int):Plain (.int k n)
 | bool (b:Bool):Plain (.bool b)
 | str (l:List UInt8):Plain (.str l)
theorem Plain.rep {v:PV} (h:Plain v) {E E':Env} {u:Value} (r:aT E v u):aT E' v u:=by
 cases h<;>cases r
 ·exact .int _ _
 ·exact .bool _
 ·exact .str _
theorem aJ.bcW {name o:Nat} {rs:List (List PV)} {args:List PV} (hv:Plain v) (h:aJ C name (args.map (PV.frz o s rs)) .nil (aL v)) :
  aJ C name args (PH.nil.set o (.rows s rs)) (fun r H'=>r=v∧H'=PH.nil.set o (.rows s rs)):=by
 refine⟨h.1,fun E w vs hN hW hvs=>?_⟩
 have hz:gS (PF.args args) (PH.nil.set o (.rows s rs)) _ _:=.step o (s:=s) (rs:=rs) (by simp only[aV,if_true]) (.refl _ _)
 obtain⟨E1,k1,k2,k3⟩:=hz.sound hW
 rw[aCE] at k1 k2
 have hlen:=hvs.len
 have hvs1:eI E1 (args.map (PV.frz o s rs)) vs.toList:=by
  refine eI.of _ _ (by rw[bgT]; exact hlen) fun i p u hp hu=>?_
  have:=k3 (fun i=>(vs.toList[i]?).getD undef) (fun j q hj=>by
   have hjl:=(biG.1 hj).1
   have hjv:j<vs.toList.length:=by omega
   simp only[bhH hjv,bjP]
   exact hvs.at_ j q _ hj (bhH hjv)) i p (by rw[qB,args_at,← biH]; exact hp)
  simp only[hu,bjP] at this
  exact this
 refine (h.2 E1 w vs (k2.env.num.trans hN) k1 hvs1).mono fun e w' he=>?_
 obtain⟨u,pv,E2,H2,rfl,hW2,hr,hE,rfl,rfl⟩:=he
 have hblk:∀ b,b<w.heap.size→w'.heap[b]?=w.heap[b]?:=fun b hb=>hE.block b hb rfl
 refine⟨u,pv,E,_,rfl,hW.same hE.size (fun b hb _=>hblk b hb) (fun q x hq=>hblk q (hW.h q x hq).1),hv.rep hr,⟨.refl E,hE.os,hE.tape,hE.output,hE.size,fun b hb _=>hblk b hb,fun q x hq=>.inl ⟨x,hq⟩,fun b cs hb=>.inl hb⟩,rfl,rfl⟩
theorem aTT {Hs:PH} {S:Spec} {name o:Nat} {rs:List (List PV)} {vs:List PV} {R:PH→PV→PH→Prop} {args:List aN} {st:Bool} {d:Option Nat} {K:PF→PH→Prop} (hS:S name vs=some ([o],R)) (hv:Plain v) (ho:H o=some (.rows s rs))
  (h:aJ C name (vs.map (PV.frz o s rs)) .nil (aL v)) (hR1:R (PH.nil.set o (.rows s rs)) v (PH.nil.set o (.rows s rs))) (hR2:∀ r H',R (PH.nil.set o (.rows s rs)) r H'→r=v∧H'=PH.nil.set o (.rows s rs)) (ha:aN.evs F args=some vs) (hle:Hs.le H) (hk:K (F.put d v) H) :
  dOp C Hs S st (.call name args) d K F H:=RA hS ho (h.bcW hv) hR1 hR2 ha hle hk
theorem alE {name t:Nat} {R:PV→PH→Prop} {d:Option Nat} {K:PF→PH→Prop} (h:aJ C name [.sl s rows] .nil R) (hO:bB H s v rows) (ht:F t=some v)
  (hK:∀ (F1:PF) (H1:PH),(∀ i u,F i=some u→Pure u→F1 i=some u)→∀ r H',R r H'→jW H1 .nil H'→K (F1.put d r) (H1.over .nil H')):gC C name [.tmp t] [] d K F H:=by
 rcases hO with ⟨rfl,rfl⟩ | ⟨q,rs,rfl,h1,h2,h3⟩
 ·exact .inl ⟨[.nils],.nil,R,by rw[uZ,UY,ht,MM]; rfl,PH.nil_le,h.aMB (.inl ⟨rfl,rfl⟩),hK F H fun i u hi _=>hi⟩
 ·refine .inr ⟨_,_,.step q h1 (.refl _ _),[.sl s rows],.nil,R,?_,PH.nil_le,h,hK _ _ fun i u hi hp=>?_⟩
  ·simp only[uZ,MM,UY,qB,ht,biD,AY h2,h3,biN]
  ·rw[qB,hi,biD,hp q s rs]
end
end Go.PM
namespace Go.PM
open Go Go.Na
def utF (xs:List Nat) (n:Nat):PF:=((PF.nil.set 0 (aF xs)).set 3 (.int .i64 n))
theorem aYD {C:Ctx} (xs:List Nat) (hx:Lim xs) (hl:xs.length≤16777216):GA.wp C (aY aaO.res (gO 1 (aE (aH (val xs))))) (PF.args [aF xs]) .nil:=by
 simp -implicitDefEqProofs only[go_sem,γ,reduceCtorEq,GA,azF,azG,aaO,bgT]
 refine wp_loop (α:=Nat) (fun n=>utF xs n) (fun _=>.nil) (fun n=>n≤xs.length∧∀ j x,n≤j→xs[j]?=some x→x=0) (fun n=>n) xs.length ⟨bgX _,fun j x hj hxj=>?_⟩ ?_ PH.nil_le ?_
 ·rw[biE hj] at hxj; cases hxj
 ·unfold utF
  (repeat' (first|exact PF.nil_le|refine PF.aA ?_ ?_))<;>first|(simp -implicitDefEqProofs only[go_sem,γ,reduceCtorEq]<;>rfl)|rfl
 rintro n ⟨hn,hz⟩
 have done:(0<n→∀ h:n-1<xs.length,xs[n-1]≠0)→∀ F:PF,(utF xs n).le F→aD.wp C (.seq (.region UD) .ret) (aY [.tmp 2] (gO 1 (aE (aH (val xs))))) F .nil:=by
  intro h F hF
  have f0:F 0=some (aF xs):=hF 0 _ (by unfold utF; simp -implicitDefEqProofs only[go_sem,reduceCtorEq])
  have f3:F 3=some (.int .i64 n):=hF 3 _ (by unfold utF; simp -implicitDefEqProofs only[go_sem,reduceCtorEq])
  have ht:xs.take n=aH (val xs):=FB hx hn hz fun x h0 hxj=>by
   rw[bhH (by omega)] at hxj
   injection hxj with hxj
   subst hxj
   exact h h0 (by omega)
  have hc:((n:Nat):Int)≤(xs.length:Nat):=by omega
  simp -implicitDefEqProofs only[go_sem,ν,γ,reduceCtorEq,UD,f0,f3,bgT,hc,or_true,bhV]
  refine fC (rows:=[]) (src:=aE (aH (val xs))) .nil ?_ ?_ fun v H' ho _=>?_
  ·simp -implicitDefEqProofs only[go_sem]
   rw[← ht,← List.map_take]
  ·unfold roomFor
   rw[bP,← ht,bhJ]
   simp only[bjB,maxLen]
   omega
  ·exact ER (.inr rfl) (by simpa using ho) rfl
 simp only[aD.wp,go_sem] at done
 simp -implicitDefEqProofs only[go_sem,γ,reduceCtorEq,azE,azH,utF]
 by_cases h0:0<n
 ·have h0':((n:Nat):Int)>0:=by omega
  have hlt:n-1<xs.length:=by omega
  have hat:=bJ xs hlt
  have hw:IntKind.i64.wrap ((n:Int)-1)=((n-1:Nat):Int):=tB (by omega) h0
  simp -implicitDefEqProofs only[go_sem,γ,reduceCtorEq,h0',hw,hat]
  by_cases c:xs[n-1]=0
  ·simp -implicitDefEqProofs only[go_sem,γ,reduceCtorEq,bS (show ((xs[n-1]:Nat):Int)=0 by omega),azI,hw]
   refine aI (n-1) ⟨by omega,fun j x hj hxj=>?_⟩ (by omega) ?_ PH.nil_le
   ·by_cases e:j=n-1
    ·subst e
     rw[bhH hlt] at hxj
     injection hxj with hxj
     omega
    ·exact hz j x (by omega) hxj
   ·(repeat' (first|exact PF.nil_le|refine PF.aA ?_ ?_))<;>first|(simp -implicitDefEqProofs only[go_sem,γ,reduceCtorEq]<;>rfl)|rfl
  ·simp -implicitDefEqProofs only[go_sem,bF (show ((xs[n-1]:Nat):Int)≠0 by omega)]
   exact done (fun _ _=>c) _ (by unfold utF; (repeat' (first|exact PF.nil_le|refine PF.aA ?_ ?_))<;>first|(simp -implicitDefEqProofs only[go_sem,γ,reduceCtorEq]<;>rfl)|rfl)
 ·have h0':¬ ((n:Nat):Int)>0:=by omega
  simp -implicitDefEqProofs only[go_sem,γ,reduceCtorEq,h0']
  exact done (fun h=>absurd h h0) _ (by unfold utF; (repeat' (first|exact PF.nil_le|refine PF.aA ?_ ?_))<;>first|(simp -implicitDefEqProofs only[go_sem,γ,reduceCtorEq]<;>rfl)|rfl)
structure mT (C:Ctx):Prop where
 trimM:∀ xs,Lim xs→xs.length≤16777216→aJ C 38 [aF xs] .nil (gO 1 (aE (aH (val xs))))
theorem mT.trim {C:Ctx} (L:mT C) (xs:List Nat) (hx:Lim xs) (hl:xs.length≤16777216):aJ C 38 [aF xs] .nil (aL (aF (aH (val xs)))):=(L.trimM xs hx hl).freeze
theorem aXS {C:Ctx} (L:mT C) (v:Nat) (hv:v<18446744073709551616):FP.wp C (aY aaF.res (bY (aF (aH v)))) (PF.args [.int .u64 v]) .nil:=by
 have e1:IntKind.u32.wrap ((v:Nat):Int)=((v%4294967296:Nat):Int):=bX v
 have hd:v/4294967296<4294967296:=by omega
 have e3:IntKind.u32.wrap ((v/4294967296:Nat):Int)=((v/4294967296:Nat):Int):=by rw[bX,bhX hd]
 have hL:Lim [v%4294967296,v/4294967296]:=by
  intro x hx
  simp only[bhF,List.mem_nil_iff,or_false] at hx
  rcases hx with rfl | rfl
  ·exact biB _ (by decide)
  ·exact hd
 have hval:val [v%4294967296,v/4294967296]=v:=by simp only[val,Nat.mul_zero,biP]; exact Nat.mod_add_div v 4294967296
 have hsh:shift .shr .u64 (v:Int) 32=some (.int .u64 ((v/4294967296:Nat):Int)):=tY
 have hb:(2:Nat)*1≤16777216:=by decide
 simp -implicitDefEqProofs only[go_sem,υ,δ,γ,η,ζ,reduceCtorEq,FP,ayW,ayX,aaF,e1,hsh,e3,hb]
 have ht:=L.trim [v%4294967296,v/4294967296] hL (by simp)
 rw[hval] at ht
 refine aB ht rfl ?_
 simp -implicitDefEqProofs only[go_sem,γ]
 exact aW (.inr rfl) .nil rfl PH.nil_le ⟨.refl _,rfl⟩
theorem aSL {C:Ctx} (L:mT C) (xs:List Nat) (hx:Lim xs) (hl:xs.length≤16777216):AK.wp C (aY LQ.res (bY (.bool (decide (nl (val xs)>512))))) (PF.args [aF xs]) .nil:=by
 simp -implicitDefEqProofs only[go_sem,reduceCtorEq,AK,ajV,ajW,LQ]
 refine aB (L.trim xs hx hl) rfl ?_
 simp -implicitDefEqProofs only[go_sem,γ,bgT,bH]
 refine aU rfl ?_
 rw[decide_eq_decide]
 omega
end Go.PM
namespace Go.PM
open Go Go.Na
theorem aIR {a b:Nat} (h:nl a<nl b):dE a b=-1:=by
 have:a<b:=by
  rcases bhK a b with h' | h'
  ·exact h'
  ·have:=gN h'; omega
 simp[dE,this]
theorem aIQ {a b:Nat} (h:nl b<nl a):dE a b=1:=by
 have:b<a:=by
  rcases bhK b a with h' | h'
  ·exact h'
  ·have:=gN h'; omega
 have h2:¬ a<b:=by omega
 simp[dE,this,h2]
def aML (X Y:List Nat) (i:Int):PF:=(((PF.nil.set 0 (aF X)).set 1 (aF Y)).set 5 (.int .i64 i))
theorem a2Y {C:Ctx} (L:mT C) (xs ys:List Nat) (hx:Lim xs) (hy:Lim ys) (lx:xs.length≤16777216) (ly:ys.length≤16777216) :
  LL.wp C (aY ayG.res (aL (.int .i64 (dE (val xs) (val ys))))) (PF.args [aF xs,aF ys]) .nil:=by
 simp -implicitDefEqProofs only[go_sem,reduceCtorEq,LL,aGX,aGY,ayG]
 refine aB (L.trim xs hx lx) (by simp -implicitDefEqProofs only[go_sem,γ]<;>rfl) ?_
 simp -implicitDefEqProofs only[go_sem,γ]
 refine aB (L.trim ys hy ly) (by simp -implicitDefEqProofs only[go_sem,γ]<;>rfl) ?_
 have bx:=eP hx
 have by':=eP hy
 simp -implicitDefEqProofs only[go_sem,γ,reduceCtorEq,aGZ,bgT,bH]
 by_cases c0:nl (val xs)≠nl (val ys)
 ·simp -implicitDefEqProofs only[go_sem,γ,reduceCtorEq,eC (show ((nl (val xs):Nat):Int)≠(nl (val ys):Nat) by omega),aHA]
  by_cases c1:nl (val xs)<nl (val ys)
  ·simp -implicitDefEqProofs only[go_sem,ο,bgT,bH,show ((nl (val xs):Nat):Int)<(nl (val ys):Nat) by omega,aHB]
   refine cC (.inr rfl) (by simp -implicitDefEqProofs only[go_sem,ο,γ,reduceCtorEq]<;>rfl) ?_
   rw[aIR c1]; rfl
  ·simp -implicitDefEqProofs only[go_sem,bgT,bH,show ¬ ((nl (val xs):Nat):Int)<(nl (val ys):Nat) by omega,aHC]
   refine cC (.inr rfl) (by simp -implicitDefEqProofs only[go_sem,γ,reduceCtorEq]<;>rfl) ?_
   rw[aIQ (by omega)]; rfl
 replace c0:=Decidable.of_not_not c0
 simp -implicitDefEqProofs only[go_sem,γ,reduceCtorEq,cP (show ((nl (val xs):Nat):Int)=(nl (val ys):Nat) by omega),aHD,bgT,bH]
 have ex:=aX (val xs)
 have ey:=aX (val ys)
 have LX:=bD (val xs)
 have LY:=bD (val ys)
 generalize hX:aH (val xs)=X at *
 generalize hY:aH (val ys)=Y at *
 have hlX:X.length=nl (val xs):=by rw[← hX]; rfl
 have hlY:Y.length=nl (val xs):=by rw[c0,← hY]; rfl
 refine wp_loop (α:=Nat) (fun k=>aML X Y ((k:Int)-1)) (fun _=>.nil) (fun k=>k≤nl (val xs)∧X.drop k=Y.drop k) (fun k=>k) (nl (val xs)) ⟨bgX _,?_⟩ ?_ PH.nil_le ?_
 ·rw[bkA (by omega),bkA (by omega)]
 ·unfold aML
  (repeat' (first|exact PF.nil_le|refine PF.aA ?_ ?_))<;>first|(simp -implicitDefEqProofs only[go_sem,γ,reduceCtorEq,wrap_i64 (show -9223372036854775808≤((nl (val xs):Nat):Int)-1 by omega) (show ((nl (val xs):Nat):Int)-1≤9223372036854775807 by omega)]<;>rfl)|rfl
 rintro k ⟨hk,hd⟩
 simp -implicitDefEqProofs only[go_sem,γ,reduceCtorEq,ayH,aHE,aML]
 by_cases h0:0<k
 ·obtain⟨m,rfl⟩:∃ m,k=m+1:=⟨k-1,by omega⟩
  have hz:((m+1:Nat):Int)-1=(m:Int):=by omega
  have hge:(m:Int)≥0:=by omega
  have x1:m<X.length:=by omega
  have y1:m<Y.length:=by omega
  simp -implicitDefEqProofs only[go_sem,hz,hge]
  refine cA .nil dU PH.nil_le ?_
  simp -implicitDefEqProofs only[go_sem,γ,reduceCtorEq,aHF,bJ X x1,bJ Y y1]
  by_cases c3:X[m]<Y[m]
  ·simp -implicitDefEqProofs only[go_sem,ο,show ((X[m]:Nat):Int)<(Y[m]:Nat) by omega,aHG]
   refine cC (.inr rfl) (by simp -implicitDefEqProofs only[go_sem,ο,γ,reduceCtorEq]<;>rfl) ?_
   have:=UW LX x1 y1 hd c3
   rw[ex,ey] at this
   simp[cN,dE,this]
  ·simp -implicitDefEqProofs only[go_sem,show ¬ ((X[m]:Nat):Int)<(Y[m]:Nat) by omega]
   refine cA .nil dU PH.nil_le ?_
   simp -implicitDefEqProofs only[go_sem,γ,reduceCtorEq,ayI,bJ X x1,bJ Y y1]
   by_cases c4:X[m]>Y[m]
   ·simp -implicitDefEqProofs only[go_sem,show ((X[m]:Nat):Int)>(Y[m]:Nat) by omega,ayJ]
    refine cC (.inr rfl) (by simp -implicitDefEqProofs only[go_sem,γ,reduceCtorEq]<;>rfl) ?_
    have:=UW LY y1 x1 hd.symm c4
    rw[ex,ey] at this
    have h2:¬ val xs<val ys:=by omega
    simp[cN,dE,this,h2]
   ·simp -implicitDefEqProofs only[go_sem,γ,reduceCtorEq,show ¬ ((X[m]:Nat):Int)>(Y[m]:Nat) by omega,ayK]
    refine aI m ⟨by omega,adM x1 y1 hd (by omega)⟩ (by omega) ?_ PH.nil_le
    (repeat' (first|exact PF.nil_le|refine PF.aA ?_ ?_))<;>first|(simp -implicitDefEqProofs only[go_sem,γ,reduceCtorEq,wrap_i64 (show -9223372036854775808≤(m:Int)-1 by omega) (show (m:Int)-1≤9223372036854775807 by omega)]<;>rfl)|rfl
 ·have:k=0:=by omega
  subst this
  have hz:¬ ((0:Nat):Int)-1≥0:=by decide
  simp -implicitDefEqProofs only[go_sem,hz,ayL]
  refine cC (.inr rfl) (by simp -implicitDefEqProofs only[go_sem,γ,reduceCtorEq]<;>rfl) ?_
  rw[bhV,bhV] at hd
  have:val xs=val ys:=by rw[← ex,← ey,hd]
  simp[cN,dE,this]
theorem xJ (n:Nat):(((n:Nat):Int)==0)=decide (n=0):=by
 by_cases h:n=0
 ·subst h; rfl
 ·rw[bF (by omega),decide_eq_false h]
structure alX (C:Ctx):Prop extends mT C where
 make:∀ v:Nat,v<18446744073709551616→aJ C 35 [.int .u64 v] .nil (aL (aF (aH v)))
 large:∀ xs,Lim xs→xs.length≤16777216→aJ C 41 [aF xs] .nil (aL (.bool (decide (nl (val xs)>512))))
 cmp:∀ xs ys,Lim xs→Lim ys→xs.length≤16777216→ys.length≤16777216→aJ C 32 [aF xs,aF ys] .nil (aL (.int .i64 (dE (val xs) (val ys))))
end Go.PM
namespace Go.PM
open Go Go.Na
def aMP (a b:Nat):PF:=((PF.nil.set 6 (aF (aH a))).set 7 (aF (aH b)))
structure UN (C:Ctx):Prop extends alX C where
 divide:∀ A B:Nat,B≠0→nl A≤512→nl B≤512→aJ C 39 [aF (aH A),aF (aH B)] .nil (aL (nN A B))
def aJK (a b:Nat):PV:=if eN a b then .tup [aF [],.int .i64 2] else .tup [aF (aH (bgU a b)),.int .i64 0]
theorem a3C {C:Ctx} (L:UN C) (a b:List Nat) (ha:Lim a) (hb:Lim b) (la:a.length≤16777216) (lb:b.length≤16777216) :
  LP.wp C (aY ayV.res (bY (aJK (val a) (val b)))) (PF.args [aF a,aF b]) .nil:=by
 unfold aJK
 simp -implicitDefEqProofs only[go_sem,reduceCtorEq,LP,aHO,aHP,ayV]
 refine aB (L.large a ha la) rfl ?_
 by_cases c1:nl (val a)>512
 ·simp -implicitDefEqProofs only[go_sem,γ,c1,adF]
  rw[if_pos (by simp[eN,c1])]
  exact gX rfl
 simp -implicitDefEqProofs only[go_sem,γ,c1]
 refine aB (L.large b hb lb) rfl ?_
 by_cases c2:nl (val b)>512
 ·simp -implicitDefEqProofs only[go_sem,γ,reduceCtorEq,c2,adF]
  rw[if_pos (by simp[eN,c2])]
  exact gX rfl
 rw[if_neg (by simp[eN,c1,c2])]
 simp -implicitDefEqProofs only[go_sem,γ,reduceCtorEq,c2,aHQ]
 refine aB (L.trim a ha la) rfl ?_
 simp -implicitDefEqProofs only[go_sem,γ]
 refine aB (L.trim b hb lb) rfl ?_
 simp -implicitDefEqProofs only[go_sem,γ]
 refine wp_loop (α:=Nat × Nat) (fun t=>aMP t.1 t.2) (fun _=>.nil) (fun t=>bgU t.1 t.2=bgU (val a) (val b)∧nl t.1≤512∧nl t.2≤512) (fun t=>t.2) (val a,val b) ⟨rfl,by simp only; omega,by simp only; omega⟩ ?_ PH.nil_le ?_
 ·unfold aMP
  (repeat' (first|exact PF.nil_le|refine PF.aA ?_ ?_))<;>first|(simp -implicitDefEqProofs only[go_sem,γ]<;>rfl)|rfl
 rintro⟨x,y⟩ ⟨hg,hx,hy⟩
 simp only at hg hx hy
 simp -implicitDefEqProofs only[go_sem,γ,aHN,aHR,aMP,bH]
 by_cases c3:y=0
 ·subst c3
  have:¬ ((nl 0:Nat):Int)>0:=by rw[uT]; decide
  simp -implicitDefEqProofs only[go_sem,γ,this,aHU]
  refine aW (vs:=[aF (aH x),.int .i64 0]) (.inr rfl) .nil rfl PH.nil_le ⟨?_,rfl⟩
  rw[← hg,Nat.gcd_zero_right]
  exact .refl _
 ·have h0:nl y≠0:=fun h=>c3 (iV.1 h)
  have:((nl y:Nat):Int)>0:=by omega
  simp -implicitDefEqProofs only[go_sem,γ,this,aHS]
  refine aB (L.divide x y c3 (by omega) (by omega)) rfl ?_
  simp -implicitDefEqProofs only[go_sem,γ,nN,aHT]
  have hlt:x%y<y:=biB _ (bjF c3)
  refine aI (y,x%y) ⟨?_,hy,?_⟩ hlt ?_ PH.nil_le
  ·simp only
   rw[← hg,Nat.gcd_comm y,← Nat.gcd_rec y x,Nat.gcd_comm]
  ·have:=gN (Nat.le_of_lt hlt)
   simp only; omega
  ·(repeat' (first|exact PF.nil_le|refine PF.aA ?_ ?_))<;>first|(simp -implicitDefEqProofs only[go_sem,γ]<;>rfl)|rfl
theorem a3A {C:Ctx} (L:UN C) (a b:List Nat) (ha:Lim a) (hb:Lim b) (la:a.length≤16777216) (lb:b.length≤16777216) :
  LM.wp C (aY udiv.res (bY (kL (val a) (val b)))) (PF.args [aF a,aF b]) .nil:=by
 unfold kL
 simp -implicitDefEqProofs only[go_sem,reduceCtorEq,LM,aHH,aHI,udiv]
 refine aB (L.large a ha la) rfl ?_
 by_cases c1:nl (val a)>512
 ·simp -implicitDefEqProofs only[go_sem,γ,c1,adE]
  rw[if_pos (by simp[eN,c1])]
  exact pB rfl
 simp -implicitDefEqProofs only[go_sem,γ,c1]
 refine aB (L.large b hb lb) rfl ?_
 by_cases c2:nl (val b)>512
 ·simp -implicitDefEqProofs only[go_sem,γ,reduceCtorEq,c2,adE]
  rw[if_pos (by simp[eN,c2])]
  exact pB rfl
 rw[if_neg (by simp[eN,c1,c2])]
 simp -implicitDefEqProofs only[go_sem,γ,reduceCtorEq,c2,aHJ]
 refine aB (L.trim b hb lb) rfl ?_
 simp -implicitDefEqProofs only[go_sem,γ,bgT,bH,xJ,iV]
 by_cases c3:val b=0
 ·rw[if_pos c3]
  simp -implicitDefEqProofs only[go_sem,decide_eq_true c3,aHK]
  exact pB rfl
 rw[if_neg c3]
 simp -implicitDefEqProofs only[go_sem,reduceCtorEq,decide_eq_false c3,aHL]
 refine aB (L.trim a ha la) rfl ?_
 simp -implicitDefEqProofs only[go_sem,γ]
 refine aB (L.trim b hb lb) rfl ?_
 simp -implicitDefEqProofs only[go_sem]
 refine aB (L.divide (val a) (val b) c3 (by omega) (by omega)) rfl ?_
 simp -implicitDefEqProofs only[go_sem,γ,nN,aHM]
 exact aW (.inr rfl) .nil rfl PH.nil_le ⟨.refl _,rfl⟩
def yO (neg:Bool) (a b:Nat):FV:=(neg&&decide (a/bgU a b≠0),a/bgU a b,b/bgU a b)
structure alY (C:Ctx):Prop extends UN C where
 gcd:∀ a b,Lim a→Lim b→a.length≤16777216→b.length≤16777216→aJ C 34 [aF a,aF b] .nil (aL (aJK (val a) (val b)))
 div:∀ a b,Lim a→Lim b→a.length≤16777216→b.length≤16777216→aJ C 33 [aF a,aF b] .nil (aL (kL (val a) (val b)))
theorem qM {n:Nat} (h:nl n≤512):(aH n).length≤16777216:=by rw[bH]; omega
theorem aeT:aH 1=[1]:=lM (by decide) (by decide)
theorem VY {n:Nat} (h:n≠0):aH n=n%4294967296::aH (n/4294967296):=oZ h
theorem vF {n:Nat} (h:n≠0):(nl n>1∨n%4294967296>1)↔n≠1:=by
 constructor
 ·rintro h1 rfl
  rcases h1 with h1 | h1
  ·rw[nl,aeT] at h1; simp at h1
  ·omega
 ·intro h1
  by_cases c:nl n>1
  ·exact .inl c
  ·have:n<4294967296 ^ 1:=(gQ n 1).1 (by omega)
   rw[Nat.pow_one] at this
   rw[bhX this]
   exact .inr (by omega)
theorem aMW {C:Ctx} (L:alY C) (neg:Bool) (a b:List Nat) (ha:Lim a) (hb:Lim b) (la:a.length≤16777216) (lb:b.length≤16777216) (na:nl (val a)≤512) (nb:nl (val b)≤512) (h0:val b≠0) :
  wF.wp C (aY BS.res (bY (.agg (yO neg (val a) (val b)).rf.cells))) (PF.args [.bool neg,aF a,aF b]) .nil:=by
 have hg0:bgU (val a) (val b)≠0:=fun h=>h0 (Nat.eq_zero_of_gcd_eq_zero_right h)
 have hgb:bgU (val a) (val b)≤val b:=Nat.gcd_le_right _ (bjF h0)
 have ng:nl (bgU (val a) (val b))≤512:=bjM (gN hgb) nb
 have hnb:eN (val a) (val b)=false:=iU na nb
 simp -implicitDefEqProofs only[go_sem,δ,wF,aaQ,aaR,BS]
 refine aQ fun o ho=>?_
 simp -implicitDefEqProofs only[go_sem,γ]
 refine aB (L.trim a ha la) rfl ?_
 simp -implicitDefEqProofs only[go_sem,γ]
 refine aB (L.trim b hb lb) rfl ?_
 simp -implicitDefEqProofs only[go_sem,γ,aaS,bgT,bH,xJ,iV]
 by_cases c1:val a=0
 ·simp -implicitDefEqProofs only[go_sem,υ,δ,γ,η,θ,ζ,decide_eq_true c1,aaT]
  have e:(yO neg (val a) (val b)).rf=⟨false,[],[1]⟩:=by
   rw[c1]
   unfold yO FV.rf
   simp[eY,Nat.div_self (bjF h0),aeT]
  rw[e]
  refine aW (vs:=[.agg [.bool false,.nils,aF [1]]]) (.inr rfl) .nil ?_ PH.nil_le ⟨show Co (.agg _) (.agg _) from CoL.agg (CoL.cons (.refl _) (CoL.cons (.nil 1) (CoL.cons (.refl _) .nil))),rfl⟩
  simp -implicitDefEqProofs only[go_sem,δ,γ]
  rfl
 have hgcd:=L.gcd (aH (val a)) (aH (val b)) (bD _) (bD _) (qM na) (qM nb)
 rw[aX,aX,aJK,hnb] at hgcd
 simp -implicitDefEqProofs only[go_sem,γ,decide_eq_false c1,aaU]
 refine aB hgcd rfl ?_
 have fin:∀ x y:Nat,x=val a/bgU (val a) (val b)→y=val b/bgU (val a) (val b)→∀ (F:PF) (H:PH),F 0=some (.bool neg)→F 1=some (aF (aH x))→F 2=some (aF (aH y))→F 6=some (.ptr o 3 0 0)→H o=some (.rows 3 [[.bool false,.nils,.nils]]) →
   aD.wp C (.seq (.region uF) .ret) (aY [.cell 6 (some 3)] (bY (.agg (yO neg (val a) (val b)).rf.cells))) F H:=by
  intro x y hx hy F H f0 f1 f2 f6 hH
  subst hx; subst hy
  simp -implicitDefEqProofs only[go_sem,δ,γ,θ,uF,f0,f1,f2,f6,hH]
  have hq:val a/bgU (val a) (val b)≠0:=by
   have:=Nat.div_pos (Nat.gcd_le_left (val b) (bjF c1)) (bjF hg0)
   omega
  have e:(yO neg (val a) (val b)).rf=⟨neg,aH (val a/bgU (val a) (val b)),aH (val b/bgU (val a) (val b))⟩:=by
   unfold yO FV.rf
   simp only[hq,ne_eq,not_false_eq_true,decide_true,bjD]
  rw[e]
  refine aW (vs:=[.agg (eW neg (aH (val a/bgU (val a) (val b))) (aH (val b/bgU (val a) (val b))))]) (.inr rfl) .nil ?_ PH.nil_le ⟨.refl _,rfl⟩
  simp -implicitDefEqProofs only[go_sem,δ,γ,f6]
 simp only[aD.wp,go_sem] at fin
 have hd:=fun x (hx:nl x≤512)=>L.div (aH x) (aH (bgU (val a) (val b))) (bD _) (bD _) (qM hx) (qM ng)
 simp only[aX,kL] at hd
 have tail:bgU (val a) (val b)≠1→∀ (F:PF) (H:PH),F 0=some (.bool neg)→F 1=some (aF (aH (val a)))→F 2=some (aF (aH (val b)))→F 6=some (.ptr o 3 0 0)→F 7=some (aF (aH (bgU (val a) (val b))))→H o=some (.rows 3 [[.bool false,.nils,.nils]]) →
   aD.wp C (.seq (.seq (.region GC) (.region GD)) (.seq (.region uF) .ret)) (aY [.cell 6 (some 3)] (bY (.agg (yO neg (val a) (val b)).rf.cells))) F H:=by
  intro _ F H f0 f1 f2 f6 f7 hH
  have d1:=hd (val a) na
  have d2:=hd (val b) nb
  rw[iU na ng,if_neg hg0] at d1
  rw[iU nb ng,if_neg hg0] at d2
  simp -implicitDefEqProofs only[go_sem,γ,GC,f1,f7]
  refine aB d1 rfl ?_
  simp -implicitDefEqProofs only[go_sem,γ,bjZ,GD,f2,f7]
  refine aB d2 rfl ?_
  simp -implicitDefEqProofs only[go_sem,γ,bjZ]
  exact fin _ _ rfl rfl _ _ (by simp -implicitDefEqProofs only[go_sem,reduceCtorEq,f0]) rfl rfl (by simp -implicitDefEqProofs only[go_sem,γ,f6]) hH
 simp only[aD.wp,go_sem] at tail
 simp -implicitDefEqProofs only[go_sem,γ,bjZ,aaV,bgT,bH]
 by_cases c2:nl (bgU (val a) (val b))>1
 ·have c2':((nl (bgU (val a) (val b)):Nat):Int)>1:=by omega
  simp -implicitDefEqProofs only[go_sem,γ,c2']
  exact tail ((vF hg0).1 (.inl c2)) _ _ rfl rfl rfl rfl rfl (by simp -implicitDefEqProofs only[go_sem])
 ·have c2':¬ ((nl (bgU (val a) (val b)):Nat):Int)>1:=by omega
  simp -implicitDefEqProofs only[go_sem,ν,γ,reduceCtorEq,c2',VY hg0]
  by_cases c3:bgU (val a) (val b)%4294967296>1
  ·have c3':((bgU (val a) (val b)%4294967296:Nat):Int)>1:=by omega
   simp -implicitDefEqProofs only[go_sem,c3']
   exact tail ((vF hg0).1 (.inr c3)) _ _ rfl rfl rfl rfl (by simp -implicitDefEqProofs only[go_sem,γ,VY hg0]) (by simp -implicitDefEqProofs only[go_sem])
  ·have c3':¬ ((bgU (val a) (val b)%4294967296:Nat):Int)>1:=by omega
   have h1:bgU (val a) (val b)=1:=by
    rcases Decidable.em (bgU (val a) (val b)=1) with h | h
    ·exact h
    ·rcases (vF hg0).2 h with h | h
     ·exact absurd h c2
     ·exact absurd h c3
   simp -implicitDefEqProofs only[go_sem,c3']
   exact fin (val a) (val b) (by rw[h1,Nat.div_one]) (by rw[h1,Nat.div_one]) _ _ rfl rfl rfl rfl (by simp -implicitDefEqProofs only[go_sem])
end Go.PM
namespace Go.PM
open Go Go.Na
theorem aYJ {C:Ctx} (v:Int) (h1:-9223372036854775808≤v) (h2:v≤9223372036854775807) :
  GG.wp C (aY aaW.res (aL (.int .u64 (v.natAbs:Nat)))) (PF.args [.int .i64 v]) .nil:=by
 simp -implicitDefEqProofs only[go_sem,γ,reduceCtorEq,GG,azP,azQ,aaW]
 by_cases c:v<0
 ·have e1:IntKind.i64.wrap (v+1)=v+1:=wrap_i64 (by omega) (by omega)
  have e2:IntKind.i64.wrap (0-(v+1))=-(v+1):=by rw[wrap_i64 (by omega) (by omega)]; omega
  have e3:IntKind.u64.wrap (IntKind.u64.wrap (-(v+1))+1)=((v.natAbs:Nat):Int):=by
   rw[eT,eT]; omega
  simp -implicitDefEqProofs only[go_sem,γ,reduceCtorEq,c,azR,e1,e2,e3]
  refine cC (.inr rfl) rfl ?_
  rfl
 ·have e:IntKind.u64.wrap v=((v.natAbs:Nat):Int):=by
   rw[eT]; omega
  simp -implicitDefEqProofs only[go_sem,γ,reduceCtorEq,c,azS,e]
  refine cC (.inr rfl) rfl ?_
  rfl
structure aIC (C:Ctx):Prop extends alY C where
 lowest:∀ neg a b,Lim a→Lim b→a.length≤16777216→b.length≤16777216→nl (val a)≤512→nl (val b)≤512→val b≠0→aJ C 58 [.bool neg,aF a,aF b] .nil (aL (.agg (yO neg (val a) (val b)).rf.cells))
 size:∀ v:Int,dV v→aJ C 59 [.int .i64 v] .nil (aL (.int .u64 (v.natAbs:Nat)))
def mkT (n d:Int):RF:=(yO (decide (n<0) != decide (d<0)) n.natAbs d.natAbs).rf
def sZ (n d:Int):PV:=if d=0 then wL 3 else .tup [.agg (mkT n d).cells,.int .i64 0]
theorem aYH {C:Ctx} (L:aIC C) (n d:Int) (h1:dV n) (h2:dV d) :
  GF.wp C (aY NL.res (bY (sZ n d))) (PF.args [.int .i64 n,.int .i64 d]) .nil:=by
 simp -implicitDefEqProofs only[go_sem,δ,GF,azL,azM]
 refine aQ fun o ho=>?_
 unfold sZ
 by_cases c:d=0
 ·subst c
  simp -implicitDefEqProofs only[go_sem,ρ,δ,γ,azN]
  refine lD ?_
  simp -implicitDefEqProofs only[go_sem,δ,γ,NL]
 ·rw[if_neg c]
  simp -implicitDefEqProofs only[go_sem,γ,reduceCtorEq,bF c,azO]
  refine aB (L.size n h1) rfl ?_
  simp -implicitDefEqProofs only[go_sem]
  refine aB (L.make n.natAbs (by omega)) rfl ?_
  simp -implicitDefEqProofs only[go_sem,γ]
  refine aB (L.size d h2) rfl ?_
  simp -implicitDefEqProofs only[go_sem]
  refine aB (L.make d.natAbs (by omega)) rfl ?_
  simp -implicitDefEqProofs only[go_sem]
  have n1:nl n.natAbs≤2:=mL (by omega)
  have n2:nl d.natAbs≤2:=mL (by omega)
  have low:=L.lowest (decide (n<0) != decide (d<0)) (aH n.natAbs) (aH d.natAbs) (bD _) (bD _) (by rw[bH]; omega) (by rw[bH]; omega)
  rw[aX,aX] at low
  have low:=low (by omega) (by omega) (by omega)
  refine aB low rfl ?_
  simp -implicitDefEqProofs only[go_sem,δ,γ]
  exact aW (.inr rfl) .nil (vs:=[.agg (mkT n d).cells,.int .i64 0]) (by simp -implicitDefEqProofs only[go_sem,δ,γ,NL]; rfl) PH.nil_le ⟨.refl _,rfl⟩
structure alZ (C:Ctx):Prop extends aIC C where
 fmk:∀ n d:Int,dV n→dV d→aJ C 50 [.int .i64 n,.int .i64 d] .nil (aL (sZ n d))
theorem a3V {C:Ctx} (L:alZ C) (n:Int) (h1:dV n) :
  MH.wp C (aY azK.res (bY (.agg (mkT n 1).cells))) (PF.args [.int .i64 n]) .nil:=by
 simp -implicitDefEqProofs only[go_sem,δ,MH,aHY,aHZ,azK]
 refine aQ fun o ho=>?_
 simp -implicitDefEqProofs only[go_sem,reduceCtorEq]
 refine aB (L.fmk n 1 h1 (by unfold dV; omega)) rfl ?_
 unfold sZ
 rw[if_neg (by decide)]
 simp -implicitDefEqProofs only[go_sem,δ,γ]
 refine aQ fun p hp=>?_
 have hne:o≠p:=by
  rintro rfl
  simp only[aV,if_true] at hp
  cases hp
 have hne':p≠o:=fun h=>hne h.symm
 simp -implicitDefEqProofs only[go_sem,δ,γ,hne,aIA]
 refine aW (vs:=[.agg (mkT n 1).cells]) (.inr rfl) .nil ?_ PH.nil_le ⟨.refl _,rfl⟩
 simp -implicitDefEqProofs only[go_sem,δ,γ,hne']
end Go.PM
namespace Go.PM
open Go Go.Na
structure pL (C:Ctx):Prop extends alF C where
 inn:∀ n lo hi:Int,aJ C 104 [.int .i64 n,.int .i64 lo,.int .i64 hi] .nil (aL (.bool (within n lo hi)))
 lY:∀ x:RF,x.Ok→aJ C 97 [.agg x.cells] .nil (aL (.bool (bR x)))
 lim:∀ x:RF,x.Ok→aJ C 105 [.agg x.cells] .nil (aL (.bool (fF x)))
 one:∀ x:RF,x.Ok→aJ C 101 [.agg x.cells] .nil (aL (.bool (TO x)))
 allf:∀ (p:RF→Bool) (fn:Nat) (l:List RF),Fits l→(∀ x∈l,aJ C fn [.agg x.cells] .nil (aL (.bool (p x))))→aJ C 99 [frs l,.fn fn []] .nil (aL (.bool (l.all p)))
 alli:∀ (p:Int→Bool) (fn:Nat) (l:List Int),Fits l→(∀ x∈l,aJ C fn [.int .i64 x] .nil (aL (.bool (p x))))→aJ C 100 [ints l,.fn fn []] .nil (aL (.bool (l.all p)))
 allb:∀ (p:Bool→Bool) (fn:Nat) (l:List Bool),Fits l→(∀ x∈l,aJ C fn [.bool x] .nil (aL (.bool (p x))))→aJ C 98 [aIN l,.fn fn []] .nil (aL (.bool (l.all p)))
 ends1:∀ b:Bool,aJ C 103 [.bool b] .nil (aL (.bool b))
 num1:∀ n:Int,aJ C 107 [.int .i64 n] .nil (aL (.bool (within n 0 8)))
 rate1:∀ x:RF,x.Ok→aJ C 109 [.agg x.cells] .nil (aL (.bool (fF x&&bR x)))
 name:∀ s:List UInt8,aJ C 123 [.str s] .nil (aL (.bool (isName s)))
theorem pL.aVG {C:Ctx} (L:pL C) (l:List RF) (h:qY l):aJ C 99 [frs l,.fn 105 []] .nil (aL (.bool (l.all fF))) :=
 L.allf fF 105 l h.fits fun x hx=>L.lim x (h.all x hx)
theorem within_iff {n lo hi:Int}:within n lo hi=true↔lo≤n∧n≤hi:=by simp[within]
theorem a0I {C:Ctx} (L:pL C) (p:cG) (hp:p.Ok) :
  IB.wp C (aY apD.res (bY (.bool (TM p)))) (PF.args [.int .i64 p.k,.int .i64 p.m,.int .i64 p.quorum,.agg [.int .i64 p.s0,.int .i64 p.s1,.int .i64 p.s2,.int .i64 p.s3,.int .i64 p.s4]]) .nil:=by
 simp -implicitDefEqProofs only[go_sem,reduceCtorEq,IB,aDE,aDF,apD]
 refine aB (L.inn p.k 1 6) rfl ?_
 unfold TM
 cases h1:within p.k 1 6 with
 | false =>
  simp -implicitDefEqProofs only[go_sem,γ,bhN,uQ]
  exact aU rfl (by simp only[bhG])
 | true =>
  obtain⟨k1,k2⟩:=within_iff.1 h1
  simp -implicitDefEqProofs only[go_sem,γ,bhC]
  refine aB (L.inn p.m 0 4) rfl ?_
  cases h2:within p.m 0 4 with
  | false =>
   simp -implicitDefEqProofs only[go_sem,γ,reduceCtorEq,bhN,uQ]
   exact aU rfl (by simp only[bhG,biF])
  | true =>
   obtain⟨m1,m2⟩:=within_iff.1 h2
   have hw:IntKind.i64.wrap (p.k+p.m)=p.k+p.m:=wrap_i64 (by omega) (by omega)
   by_cases h3:p.k+p.m≤8
   ·have h3':¬ p.k+p.m>8:=by omega
    simp -implicitDefEqProofs only[go_sem,γ,reduceCtorEq,bhC,hw,h3']
    refine aB (L.inn p.quorum p.k (p.k+p.m)) rfl ?_
    cases h4:within p.quorum p.k (p.k+p.m) with
    | false =>
     simp -implicitDefEqProofs only[go_sem,γ,reduceCtorEq,bhN,uQ]
     exact aU rfl (by simp only[bhG,biF])
    | true =>
     have h50:(0:Int)<((5:Nat):Int):=by decide
     by_cases h5:p.s0=0
     ·have hch:chunks 1 5 [PV.int .i64 p.s0,.int .i64 p.s1,.int .i64 p.s2,.int .i64 p.s3,.int .i64 p.s4]=([p.s0,p.s1,p.s2,p.s3,p.s4].map fun n=>[PV.int .i64 n]):=rfl
      have hm:5≤maxLen:=by decide
      simp -implicitDefEqProofs only[go_sem,ν,δ,γ,η,θ,ζ,reduceCtorEq,bhC,h50,cP h5,aDG,hch,hm]
      refine aB (L.alli (fun n=>within n 0 8) 107 [p.s0,p.s1,p.s2,p.s3,p.s4] (show 5≤9223372036854775807 by decide) fun x _=>L.num1 x) rfl ?_
      simp -implicitDefEqProofs only[go_sem,γ]
      exact aU rfl (by rw[decide_eq_true h3,decide_eq_true h5]; simp only[bhP])
     ·simp -implicitDefEqProofs only[go_sem,ν,δ,γ,θ,ζ,reduceCtorEq,bhC,h50,eC h5,uQ]
      exact aU rfl (by rw[decide_eq_false h5]; simp only[bhG,biF])
   ·have h3':p.k+p.m>8:=by omega
    simp -implicitDefEqProofs only[go_sem,γ,reduceCtorEq,bhC,hw,h3',uQ]
    exact aU rfl (by rw[decide_eq_false h3]; simp only[bhG,biF])
theorem max_eq (a b:Int):(if a<b then b else a)=max a b:=by
 rw[Int.max_def]
 by_cases h:a<b
 ·rw[if_pos h,if_pos (by omega)]
 ·by_cases h':a≤b
  ·rw[if_neg h,if_pos h']; omega
  ·rw[if_neg h,if_neg h']
theorem aUR {C:Ctx} (L:pL C) (p:cG) (hp:p.Ok) :
  CR.wp C (aY VW.res (bY (.bool (NF p)))) (PF.args [.int .i64 p.m,frs p.repair,.agg p.target.cells,.agg p.horizon.cells]) .nil:=by
 simp -implicitDefEqProofs only[go_sem,γ,reduceCtorEq,CR,apK,apL,VW,max_eq,bgT]
 unfold NF
 by_cases h1:(p.repair.length:Int)=max p.m 1
 ·simp -implicitDefEqProofs only[go_sem,γ,bS h1]
  refine aB (L.allf (fun x=>fF x&&bR x) 109 p.repair hp.repair.fits fun x hx=>L.rate1 x (hp.repair.all x hx)) rfl ?_
  rw[decide_eq_true h1,bhP]
  cases h2:p.repair.all fun x=>fF x&&bR x with
  | false =>
   simp -implicitDefEqProofs only[go_sem,γ,reduceCtorEq]
   exact aU rfl rfl
  | true =>
   simp -implicitDefEqProofs only[go_sem,δ,γ]
   refine aB (L.lim _ hp.target) rfl ?_
   cases h3:fF p.target with
   | false =>
    simp -implicitDefEqProofs only[go_sem,γ,reduceCtorEq]
    exact aU rfl rfl
   | true =>
    simp -implicitDefEqProofs only[go_sem,δ,γ]
    refine aB (L.one _ hp.target) rfl ?_
    cases h4:TO p.target with
    | false =>
     simp -implicitDefEqProofs only[go_sem,γ,reduceCtorEq]
     exact aU rfl rfl
    | true =>
     simp -implicitDefEqProofs only[go_sem,δ,γ]
     refine aB (L.lim _ hp.horizon) rfl ?_
     simp -implicitDefEqProofs only[go_sem,γ]
     exact aU rfl rfl
 ·simp -implicitDefEqProofs only[go_sem,γ,reduceCtorEq,bF h1]
  exact aU rfl (by rw[decide_eq_false h1]; rfl)
def nI (l:List (List UInt8)) (k:List KS):Option PV:=match k with
 | [.str s]=>if l.contains s then some (.bool true) else none
 | _=>none
theorem aRF (l:List (List UInt8)) (s:List UInt8):(fun k=>if k=[KS.str s] then some (PV.bool true) else nI l k)=nI (l++[s]):=by
 funext k
 match k with
 | []=>rfl
 | [.int a b]=>simp[nI]
 | [.bool a]=>simp[nI]
 | [.str t] =>
  by_cases h:t=s
  ·subst h; simp[nI]
  ·simp[nI,h]
 | a::b::c=>simp[nI]
end Go.PM
namespace Go.PM
open Go Go.Na
abbrev texts (l:List (List UInt8)):PV:=.sl 1 (l.map fun s=>[PV.str s])
theorem aRE:nI []=(fun _=>none:jS):=by
 funext k
 match k with
 | []=>rfl
 | [.int a b]=>rfl
 | [.bool a]=>rfl
 | [.str t]=>rfl
 | a::b::c=>cases a<;>rfl
theorem aRG (l:List (List UInt8)) (s:List UInt8):jS.upd (nI l) [KS.str s] (.bool true)=nI (l++[s]):=aRF l s
theorem awA (l:List (List UInt8)) (s:List UInt8):(nI l [KS.str s]).getD (.bool false)=.bool (l.contains s):=by
 show (if l.contains s then some (PV.bool true) else none).getD (.bool false)=_
 cases l.contains s<;>rfl
theorem acX {p:Nat→Bool} {k:Nat} (h:(bhB k).all p=true) (hp:p k=true):(bhB (k+1)).all p=true:=by
 rw[List.range_succ,List.all_append,h]; simp[hp]
theorem dO {p:Nat→Bool} {n k:Nat} (hk:k<n) (hp:p k=false):(bhB n).all p=false:=by
 rw[List.all_eq_false]
 exact⟨k,biM.2 hk,by simp[hp]⟩
def mS (p:Nat→Bool) (k:Nat):Prop:=(bhB k).all p=true
theorem mS.zero {p:Nat→Bool}:mS p 0:=rfl
theorem mS.step {p:Nat→Bool} {k:Nat} (h:mS p k) (hp:p k=true):mS p (k+1):=acX h hp
def aMQ (l:List (List UInt8)) (o k:Nat):PF:=((((PF.nil.set 3 (.map o)).set 7 (texts l)).set 8 (.int .i64 (l.length:Nat))).set 9 (.int .i64 k))
theorem aUU {C:Ctx} (L:pL C) (l:List (List UInt8)) (hf:Fits l):CU.wp C (aY VX.res (bY (.bool (distinct l)))) (PF.args [texts l]) .nil:=by
 simp -implicitDefEqProofs only[go_sem,CU,apR,apS,VX]
 refine aQ fun o ho=>?_
 simp -implicitDefEqProofs only[go_sem,γ,reduceCtorEq,apT]
 have e0:(PH.nil.set o (.map (false,[.str]) (fun _=>none)))=PH.nil.set o (.map (false,[.str]) (nI (l.take 0))):=by rw[List.take_zero,aRE]
 unfold distinct
 generalize hp:(fun i=>isName (l.getD i [])&&!(l.take i).contains (l.getD i []))=p
 have hpk:∀ k (h:k<l.length),p k=(isName l[k]&&!(l.take k).contains l[k]):=by
  intro k h
  rw[← hp]
  simp only[bhQ,bhH h,bjP]
 refine wp_loop (α:=Nat) (fun k=>aMQ l o k) (fun k=>PH.nil.set o (.map (false,[.str]) (nI (l.take k)))) (fun k=>k≤l.length∧mS p k) (fun k=>l.length-k) 0 ⟨bhE _,.zero⟩ ?_ ?_ ?_
 ·unfold aMQ
  (repeat' (first|exact PF.nil_le|refine PF.aA ?_ ?_))<;>first|(simp -implicitDefEqProofs only[go_sem,γ,bgT]<;>rfl)|rfl
 ·rw[e0]; exact PH.le_refl
 rintro k ⟨hk,ha⟩
 simp -implicitDefEqProofs only[go_sem,γ,apQ,apU,aMQ]
 by_cases hlt:k<l.length
 ·have hlt':(k:Int)<(l.length:Nat):=by omega
  have hr:(l.map fun s=>[PV.str s])[k]?=some [.str l[k]]:=by simp[hlt]
  simp -implicitDefEqProofs only[go_sem,γ,hlt',apV,hr,apW]
  refine aB (L.name l[k]) rfl ?_
  have hk2:=hpk k hlt
  cases h1:isName l[k] with
  | false =>
   rw[h1,bhG] at hk2
   simp -implicitDefEqProofs only[go_sem,γ,bhN,RR]
   exact aU (b:=false) rfl (dO hlt hk2).symm
  | true =>
   rw[h1,bhP] at hk2
   cases h2:(l.take k).contains l[k] with
   | true =>
    rw[h2] at hk2
    simp -implicitDefEqProofs only[go_sem,γ,reduceCtorEq,bhC,awA,h2,RR]
    exact aU (b:=false) rfl (dO hlt hk2).symm
   | false =>
    rw[h2] at hk2
    simp -implicitDefEqProofs only[go_sem,γ,reduceCtorEq,bhC,awA,h2,apX,aRG,apY,aK (show k<9223372036854775807 by omega)]
    refine aI (k+1) ⟨hlt,ha.step hk2⟩ (by omega) ?_ ?_
    ·(repeat' (first|exact PF.nil_le|refine PF.aA ?_ ?_))<;>first|(simp -implicitDefEqProofs only[go_sem,γ]<;>rfl)|rfl
    ·rw[biZ hlt]
     exact PH.aA PH.nil_le (by simp -implicitDefEqProofs only[go_sem])
 ·have hlt':¬ (k:Int)<(l.length:Nat):=by omega
  simp -implicitDefEqProofs only[go_sem,hlt',aeE]
  have:k=l.length:=by omega
  subst this
  exact aU (b:=true) rfl (show mS p l.length from ha).symm
def marks (n:Nat) (l:List Int):List Bool:=(bhB n).map fun (i:Nat)=>l.contains (i:Int)
theorem aPI (n:Nat) (l:List Int):(marks n l).length=n:=by simp[marks]
theorem afE (n:Nat):marks n []=bgV n false:=by
 refine bjH (by simp[marks]) fun i h1 h2=>by simp[marks]
theorem SG {n:Nat} {l:List Int} {m:Int} (h0:0≤m) (h1:m<n):(marks n l)[m.toNat]?=some (l.contains m):=by
 have:m.toNat<n:=by omega
 simp only[marks,biH,List.getElem?_range this,biD]
 rw[Int.toNat_of_nonneg h0]
theorem afF {n:Nat} {l:List Int} {m:Int} (h0:0≤m) (h1:m<n):(marks n l).set m.toNat true=marks n (l++[m]):=by
 refine bjH (by simp[marks]) fun i h2 h3=>?_
 simp only[marks,biI,List.getElem_range,List.getElem_set,List.contains_append]
 by_cases h:m.toNat=i
 ·subst h
  rw[if_pos rfl,Int.toNat_of_nonneg h0]; simp
 ·have hne:((i:Nat):Int)≠m:=by omega
  rw[if_neg h]; simp[hne]
abbrev eU (l:List Bool):List (List PV):=l.map fun b=>[PV.bool b]
theorem sJ (l:List Bool) (i:Nat) (b:Bool):(eU l).set i [.bool b]=eU (l.set i b):=by unfold eU; rw[List.map_set]
structure alR (C:Ctx):Prop extends pL C where
 num:∀ p:cG,p.Ok→aJ C 106 [.int .i64 p.k,.int .i64 p.m,.int .i64 p.quorum,.agg [.int .i64 p.s0,.int .i64 p.s1,.int .i64 p.s2,.int .i64 p.s3,.int .i64 p.s4]] .nil (aL (.bool (TM p)))
 rate:∀ p:cG,p.Ok→aJ C 108 [.int .i64 p.m,frs p.repair,.agg p.target.cells,.agg p.horizon.cells] .nil (aL (.bool (NF p)))
 uniq:∀ l:List (List UInt8),Fits l→aJ C 110 [texts l] .nil (aL (.bool (distinct l)))
def aWL (p:cG) (models:Nat) (o k:Nat):PF:=(((((PF.nil.set 1 (.int .i64 models)).set 5 (.osl o 1 0 models)).set 39 (ints p.models)).set 40 (.int .i64 (p.models.length:Nat))).set 41 (.int .i64 k))
theorem a0M {C:Ctx} (L:alR C) (p:cG) (hp:p.Ok) (models:Nat) (hm:models≤4):ID.wp C (aY apG.res (bY (.bool (iH models p)))) (PF.args [.agg p.cells,.int .i64 models]) .nil:=by
 simp -implicitDefEqProofs only[go_sem,δ,γ,θ,ID,aDK,aDL,apG]
 refine aB (L.num p hp) rfl ?_
 unfold iH
 cases h1:TM p with
 | false =>
  simp -implicitDefEqProofs only[go_sem,γ,bhN,MU]
  exact aU rfl (by simp only[bhG])
 | true =>
  by_cases h2:p.models.length=0
  ·simp -implicitDefEqProofs only[go_sem,δ,γ,θ,reduceCtorEq,bhC,bgT,bS (show ((p.models.length:Nat):Int)=0 by omega),MU]
   refine aU rfl ?_
   have:decide (p.models.length≠0)=false:=by simp[h2]
   rw[this]; simp only[bhG,biF]
  ·have h2':decide (p.models.length≠0)=true:=by simp[h2]
   simp -implicitDefEqProofs only[go_sem,δ,γ,θ,reduceCtorEq,bhC,bgT,bF (show ((p.models.length:Nat):Int)≠0 by omega)]
   refine aB (L.rate p hp) rfl ?_
   rw[h2']
   cases h3:NF p with
   | false =>
    simp -implicitDefEqProofs only[go_sem,γ,reduceCtorEq,bhN,MU]
    exact aU rfl (by simp only[bhG,biF])
   | true =>
    have hb1:((models:Nat):Int)*((1:Nat):Int)≤140737488355328:=by omega
    have hb2:((models:Nat):Int)≤9223372036854775807:=by omega
    simp only[bhP]
    simp -implicitDefEqProofs only[go_sem,γ,reduceCtorEq,bhC,aDM,hb1,hb2]
    refine aQ fun o ho=>?_
    simp -implicitDefEqProofs only[go_sem,δ,γ,θ,aDN]
    have e0:bgV models [PV.bool false]=eU (marks models (p.models.take 0)):=by
     rw[List.take_zero,afE]; simp[eU]
    rw[e0]
    generalize hq:(fun j=>within (p.models.getD j 0) 0 ((models:Int)-1)&&!(p.models.take j).contains (p.models.getD j 0))=q
    have hqk:∀ k (h:k<p.models.length),q k=(within p.models[k] 0 ((models:Int)-1)&&!(p.models.take k).contains p.models[k]):=by
     intro k h
     rw[← hq]
     simp only[bhQ,bhH h,bjP]
    refine wp_loop (α:=Nat) (fun k=>aWL p models o k) (fun k=>PH.nil.set o (.rows 1 (eU (marks models (p.models.take k))))) (fun k=>k≤p.models.length∧mS q k) (fun k=>p.models.length-k) 0 ⟨bhE _,.zero⟩ ?_ (PH.le_refl) ?_
    ·unfold aWL
     (repeat' (first|exact PF.nil_le|refine PF.aA ?_ ?_))<;>first|(simp -implicitDefEqProofs only[go_sem,γ,bgT]<;>rfl)|rfl
    rintro k ⟨hk,ha⟩
    simp -implicitDefEqProofs only[go_sem,γ,apH,aDO,aWL]
    have hfit:=hp.models
    by_cases hlt:k<p.models.length
    ·have hlt':(k:Int)<(p.models.length:Nat):=by omega
     have hr:(p.models.map fun n=>[PV.int .i64 n])[k]?=some [.int .i64 p.models[k]]:=by simp[hlt]
     have hw:IntKind.i64.wrap ((models:Int)-1)=(models:Int)-1:=wrap_i64 (by omega) (by omega)
     simp -implicitDefEqProofs only[go_sem,γ,hlt',aDP,hr,aDQ,hw]
     refine aB (L.inn p.models[k] 0 ((models:Int)-1)) rfl ?_
     have hk2:=hqk k hlt
     cases h1:within p.models[k] 0 ((models:Int)-1) with
     | false =>
      rw[h1,bhG] at hk2
      simp -implicitDefEqProofs only[go_sem,γ,bhN,abP]
      exact aU (b:=false) rfl (dO hlt hk2).symm
     | true =>
      rw[h1,bhP] at hk2
      obtain⟨i1,i2⟩:=within_iff.1 h1
      have i3:p.models[k]<(models:Nat):=by omega
      have hmk:(eU (marks models (p.models.take k)))[p.models[k].toNat]?=some [.bool ((p.models.take k).contains p.models[k])]:=by
       unfold eU
       rw[biH,SG i1 i3]; rfl
      cases h2:(p.models.take k).contains p.models[k] with
      | true =>
       rw[h2] at hk2 hmk
       simp -implicitDefEqProofs only[go_sem,γ,reduceCtorEq,bhC,i1,i3,bhS,hmk,abP]
       exact aU (b:=false) rfl (dO hlt hk2).symm
      | false =>
       rw[h2] at hk2 hmk
       simp -implicitDefEqProofs only[go_sem,γ,reduceCtorEq,bhC,i1,i3,bhS,hmk,aDR,sJ,afF i1 i3,apI,aK (show k<9223372036854775807 by omega)]
       refine aI (k+1) ⟨hlt,ha.step hk2⟩ (by omega) ?_ ?_
       ·(repeat' (first|exact PF.nil_le|refine PF.aA ?_ ?_))<;>first|(simp -implicitDefEqProofs only[go_sem,γ]<;>rfl)|rfl
       ·rw[biZ hlt]
        exact PH.aA PH.nil_le (by simp -implicitDefEqProofs only[go_sem])
    ·have hlt':¬ (k:Int)<(p.models.length:Nat):=by omega
     simp -implicitDefEqProofs only[go_sem,hlt',apJ]
     have:k=p.models.length:=by omega
     subst this
     exact aU (b:=true) rfl (show mS q p.models.length from ha).symm
end Go.PM
namespace Go.PM
open Go Go.Na
def aTU:PV→RF
 | .agg [.bool n,a,b]=>⟨n,jG a,jG b⟩
 | _=>⟨false,[],[]⟩
theorem aIV (x:RF):aTU (.agg x.cells)=x:=by
 show (⟨x.neg,jG (aF x.num),jG (aF x.den)⟩:RF)=x
 rw[eK,eK]
def flS:Spec:=fun name vs=>match name,vs with
 | 104,[.int _ n,.int _ lo,.int _ hi]=>some ([],fun _=>aL (.bool (within n lo hi)))
 | 105,[x]=>some ([],fun _=>aL (.bool (fF (aTU x))))
 | 97,[x]=>some ([],fun _=>aL (.bool (bR (aTU x))))
 | _,_=>none
theorem anF (n lo hi:Int):flS 104 [.int .i64 n,.int .i64 lo,.int .i64 hi]=some ([],fun _=>aL (.bool (within n lo hi))):=rfl
theorem aZW (x:RF):flS 105 [.agg x.cells]=some ([],fun _=>aL (.bool (fF x))):=by
 show some _=_; rw[aIV]
def aJL (f:aG) (t:List cK) (k:Nat):PF:=((((PF.nil.set 1 (.rptr f.cells)).set 45 (.sl 7 (t.map cK.cells))).set 46 (.int .i64 (t.length:Nat))).set 47 (.int .i64 k))
theorem a0C {C:Ctx} (L:pL C) (f:aG) (hf:f.Ok):wN.wp C (aY abL.res (bY (.bool (lZ f)))) (PF.args [.agg f.cells]) .nil:=by
 obtain⟨extent,laws,models,domains,drives,policies,volumes⟩:=f
 cases domains with
 | nil =>
  rw[show lZ ⟨extent,laws,models,[],drives,policies,volumes⟩=false from rfl]
  simp -implicitDefEqProofs only[go_sem,δ,γ,θ,wN,abM,abN,abL,biV,bjB]
  have:(((0:Nat):Int)==0)=true:=rfl
  simp -implicitDefEqProofs only[go_sem,this,aCO]
  exact aU rfl rfl
 | cons r t =>
  generalize hF:(⟨extent,laws,models,r::t,drives,policies,volumes⟩:aG)=f at *
  have hd:f.domains=r::t:=by rw[← hF]
  have hP:lZ f=MK f r t:=by unfold lZ; rw[hd]
  rw[hP]
  unfold MK
  have hlen:f.domains.length=t.length+1:=by rw[hd]; rfl
  have hfit:=hf.domains
  have hr0:(f.domains.map cK.cells)[0]?=some r.cells:=by rw[hd]; rfl
  have hr0':(f.domains.map cK.cells)[Int.toNat 0]?=some r.cells:=hr0
  have hok:=hf.dom
  have hrok:=hok r (by rw[hd]; exact List.mem_cons_self ..)
  simp -implicitDefEqProofs only[go_sem,ο,ν,δ,γ,θ,wN,abM,abN,abL,bgT,hlen,bF (show ((t.length+1:Nat):Int)≠0 by omega),aCP,hr0]
  refine aQ fun o ho=>?_
  by_cases c1:r.name=[]
  ·rw[decide_eq_true c1]
   by_cases c2:r.level=0
   ·rw[decide_eq_true c2]
    by_cases c3:r.parent=-1
    ·rw[decide_eq_true c3]
     by_cases c4:r.uplink=0
     ·rw[decide_eq_true c4]
      simp -implicitDefEqProofs only[go_sem,ο,δ,γ,θ,reduceCtorEq,uO,mU c1,bhC,cP c2,cP c3,cP c4]
      refine aB (L.lim r.shock hrok.1) rfl ?_
      cases c5:fF r.shock with
      | false =>
       simp -implicitDefEqProofs only[go_sem,γ,reduceCtorEq,bhN,rC]
       exact aU rfl (by simp only[biF,bhG])
      | true =>
       simp -implicitDefEqProofs only[go_sem,δ,γ,reduceCtorEq,bhC]
       refine aB (L.lY r.shock hrok.1) rfl ?_
       cases c6:bR r.shock with
       | true =>
        simp -implicitDefEqProofs only[go_sem,γ,reduceCtorEq,rC]
        exact aU rfl (by simp only[bhC,biF,bhG])
       | false =>
        have hsl:(0:Int)≤1∧(1:Int)≤((t.length+1:Nat):Int):=by omega
        have hdrop:((f.domains.map cK.cells).take (t.length+1)).drop (Int.toNat 1)=t.map cK.cells:=by
         rw[bhI (by simp[hlen]),hd]; rfl
        have hdrop':((f.domains.map cK.cells).take (t.length+1)).drop 1=t.map cK.cells:=hdrop
        simp -implicitDefEqProofs only[go_sem,ν,δ,γ,θ,reduceCtorEq,aCQ,bgT,hlen,hsl,hdrop',bjT]
        generalize hq:(fun i=>match t[i]? with | some d=>RC f i d | none=>false)=q
        have hqk:∀ k (h:k<t.length),q k=RC f k t[k]:=by
         intro k h
         rw[← hq]
         simp only[bhH h]
        refine wp_loop (α:=Nat) (fun k=>aJL f t k) (fun k=>.nil) (fun k=>k≤t.length∧mS q k) (fun k=>t.length-k) 0 ⟨bhE _,.zero⟩ ?_ PH.nil_le ?_
        ·unfold aJL
         (repeat' (first|exact PF.nil_le|refine PF.aA ?_ ?_))<;>first|(simp -implicitDefEqProofs only[go_sem,γ,bgT]<;>rfl)|rfl
        rintro k ⟨hk,ha⟩
        simp -implicitDefEqProofs only[go_sem,γ,aoQ,aCR,aJL]
        by_cases hlt:k<t.length
        ·have hlt':(k:Int)<(t.length:Nat):=by omega
         have hrk:(t.map cK.cells)[k]?=some (t[k]).cells:=by simp[hlt]
         have hdk:=hok t[k] (by rw[hd]; exact List.mem_cons_of_mem _ (bgY hlt))
         have hk2:=hqk k hlt
         unfold RC at hk2
         simp -implicitDefEqProofs only[go_sem,δ,γ,hlt',aCS,hrk]
         refine aQ fun o2 ho2=>?_
         simp -implicitDefEqProofs only[go_sem,δ,γ]
         refine cA .nil flS PH.nil_le ?_
         simp -implicitDefEqProofs only[go_sem,δ,γ,θ,reduceCtorEq,aCT]
         refine cO (anF _ 0 k) (L.inn (t[k]).parent 0 k) rfl PH.nil_le ?_
         cases e1:within (t[k]).parent 0 k with
         | false =>
          simp only[e1,bhG] at hk2
          simp -implicitDefEqProofs only[go_sem,γ,bhN,rB]
          exact aU (b:=false) rfl (dO hlt hk2).symm
         | true =>
          obtain⟨i1,i2⟩:=within_iff.1 e1
          have i3:(t[k]).parent.toNat<f.domains.length:=by omega
          have hpr:(f.domains.map cK.cells)[(t[k]).parent.toNat]?=some (f.domains[(t[k]).parent.toNat]).cells:=by simp[i3]
          have hlv:(f.domains.map cK.level).getD (t[k]).parent.toNat 0=(f.domains[(t[k]).parent.toNat]).level:=by simp[i3]
          rw[hlv,e1,bhP] at hk2
          by_cases e2:(f.domains[(t[k]).parent.toNat]).level=IntKind.i64.wrap ((t[k]).level-1)
          ·rw[decide_eq_true e2,bhP] at hk2
           simp -implicitDefEqProofs only[go_sem,δ,γ,θ,reduceCtorEq,bhC,i1,hpr,cP e2]
           refine cO (anF _ 1 4) (L.inn (t[k]).level 1 4) rfl PH.nil_le ?_
           cases e3:within (t[k]).level 1 4 with
           | false =>
            simp only[e3,bhG] at hk2
            simp -implicitDefEqProofs only[go_sem,γ,reduceCtorEq,bhN,rB]
            exact aU (b:=false) rfl (dO hlt hk2).symm
           | true =>
            rw[e3,bhP] at hk2
            simp -implicitDefEqProofs only[go_sem,δ,γ,θ,reduceCtorEq,bhC]
            refine cO (anF _ 1 64) (L.inn (t[k]).uplink 1 64) rfl PH.nil_le ?_
            cases e4:within (t[k]).uplink 1 64 with
            | false =>
             simp only[e4,bhG] at hk2
             simp -implicitDefEqProofs only[go_sem,γ,reduceCtorEq,bhN,rB]
             exact aU (b:=false) rfl (dO hlt hk2).symm
            | true =>
             rw[e4,bhP] at hk2
             simp -implicitDefEqProofs only[go_sem,δ,γ,reduceCtorEq,bhC]
             refine cO (aZW (t[k]).shock) (L.lim _ hdk.1) rfl PH.nil_le ?_
             cases e5:fF (t[k]).shock with
             | false =>
              rw[e5] at hk2
              simp -implicitDefEqProofs only[go_sem,γ,reduceCtorEq,bhN,rB]
              exact aU (b:=false) rfl (dO hlt hk2).symm
             | true =>
              rw[e5] at hk2
              simp -implicitDefEqProofs only[go_sem,γ,reduceCtorEq,bhC,aoR,aK (show k<9223372036854775807 by omega)]
              refine aI (k+1) ⟨hlt,ha.step hk2⟩ (by omega) ?_ PH.nil_le
              (repeat' (first|exact PF.nil_le|refine PF.aA ?_ ?_))<;>first|(simp -implicitDefEqProofs only[go_sem,γ]<;>rfl)|rfl
          ·simp only[decide_eq_false e2,bhG] at hk2
           simp -implicitDefEqProofs only[go_sem,δ,γ,θ,reduceCtorEq,bhC,i1,hpr,eC e2,rB]
           exact aU (b:=false) rfl (dO hlt hk2).symm
        ·have hlt':¬ (k:Int)<(t.length:Nat):=by omega
         simp -implicitDefEqProofs only[go_sem,hlt',aoS]
         have:k=t.length:=by omega
         subst this
         exact aU (b:=true) rfl (show mS q t.length from ha).symm
     ·simp -implicitDefEqProofs only[go_sem,ο,δ,γ,θ,reduceCtorEq,uO,mU c1,bhC,cP c2,cP c3,eC c4,rC]
      exact aU rfl (by rw[decide_eq_false c4]; simp only[biF,bhG])
    ·simp -implicitDefEqProofs only[go_sem,ο,δ,γ,θ,reduceCtorEq,uO,mU c1,bhC,cP c2,eC c3,rC]
     exact aU rfl (by rw[decide_eq_false c3]; simp only[biF,bhG])
   ·simp -implicitDefEqProofs only[go_sem,ο,δ,γ,θ,reduceCtorEq,uO,mU c1,bhC,eC c2,rC]
    exact aU rfl (by rw[decide_eq_false c2]; simp only[biF,bhG])
  ·simp -implicitDefEqProofs only[go_sem,ο,δ,γ,θ,uO,UR c1,bhN,rC]
   exact aU rfl (by rw[decide_eq_false c1]; simp only[biF,bhG])
end Go.PM
namespace Go.PM
open Go Go.Na
theorem vW (R:List Bool) (i:Nat) (row:List RF):∀ k,(cY R i row k).length=R.length
 | 0=>rfl
 | k+1=>by simp only[cY,bjC,vW R i row k]
theorem avR (l:cM) (R:List Bool) (i:Nat):(jN l R i).length=R.length:=by
 unfold jN; rw[vW,bjC]
theorem rI (l:cM) (R:List Bool):∀ i,(eE l R i).length=R.length
 | 0=>rfl
 | i+1=>by simp only[eE,avR,rI l R i]
theorem YR (l:cM):∀ r,(fP l r).length=l.exit.length
 | 0=>by simp[fP]
 | r+1=>by simp only[fP,rI,YR l r]
theorem QY {R:List Bool} {i:Nat} (h:i<R.length):(eU R)[i]?=some [.bool (R.getD i false)]:=by
 unfold eU
 rw[biH,bhH h,bhQ,bhH h]; rfl
theorem adJ (R:List Bool):(eU R).length=R.length:=by simp[eU]
def ML (l:cM) (o r:Nat):PF:=(((PF.nil.set 1 (.rptr l.cells)).set 3 (.osl o 1 0 l.exit.length)).set 4 (.int .i64 r))
def CB (l:cM) (o r i:Nat):PF:=(((((PF.nil.set 1 (.rptr l.cells)).set 3 (.osl o 1 0 l.exit.length)).set 4 (.int .i64 r)).set 19 (.int .i64 (l.exit.length:Nat))).set 20 (.int .i64 i))
def pX (l:cM) (o r i:Nat) (row:List RF) (k:Nat):PF:=(((((((((PF.nil.set 1 (.rptr l.cells)).set 3 (.osl o 1 0 l.exit.length)).set 4 (.int .i64 r)).set 19 (.int .i64 (l.exit.length:Nat))).set 20 (.int .i64 i)).set 5 (.int .i64 i)).set 42 (frs row)).set 43 (.int .i64 (row.length:Nat))).set 44 (.int .i64 k))
def pY (o:Nat) (R:List Bool):PH:=PH.nil.set o (.rows 1 (eU R))
theorem aAE {C:Ctx} (L:pL C) (l:cM) (o r i:Nat) (row:List RF) (hrow:qY row) (hrl:row.length=l.exit.length) (hi:i<l.exit.length) (hn:l.exit.length≤4) (R1:List Bool) (hR:R1.length=l.exit.length) (K:bZ) (F:PF) (H:PH)
  (hF:(pX l o r i row 0).le F) (hH:(pY o R1).le H)
  (hK:∀ F H,(pX l o r i row row.length).le F→(pY o (cY R1 i row row.length)).le H→K .normal F H) :
  aD.wp C (.block 4 (.loop wO)) K F H:=by
 simp -implicitDefEqProofs only[go_sem]
 refine wp_loop (α:=Nat) (fun k=>pX l o r i row k) (fun k=>pY o (cY R1 i row k)) (fun k=>k≤row.length) (fun k=>row.length-k) 0 (bhE _) hF hH ?_
 intro k hk
 simp -implicitDefEqProofs only[go_sem,γ,wO,aoZ,pX,pY]
 have hlen:=vW R1 i row k
 by_cases hlt:k<row.length
 ·have hlt':(k:Int)<(row.length:Nat):=by omega
  have hr:(row.map RF.cells)[k]?=some (row[k]).cells:=by simp[hlt]
  simp -implicitDefEqProofs only[go_sem,δ,γ,hlt',adZ,hr]
  refine aQ fun o7 ho7=>?_
  have n7:o≠o7:=by rintro rfl; simp only[aV,if_true] at ho7; cases ho7
  have hi':(i:Int)<(l.exit.length:Nat):=by omega
  have hk':(k:Int)<(l.exit.length:Nat):=by omega
  have hat:=QY (R:=cY R1 i row k) (i:=i) (by omega)
  have hatk:=QY (R:=cY R1 i row k) (i:=k) (by omega)
  have hstep:cY R1 i row (k+1)=(cY R1 i row k).set i ((cY R1 i row k).getD i false||bR row[k]&&(cY R1 i row k).getD k false):=by
   simp only[cY,bhQ,biH,bhH hlt,biD,bjP]
  have fin:∀ (b:Bool) (F:PF) (H:PH),b=((cY R1 i row k).getD i false||bR row[k]&&(cY R1 i row k).getD k false)→(pX l o r i row (k+1)).le F→H o=some (.rows 1 ((eU (cY R1 i row k)).set i [.bool b])) →
    eZ (fun k=>pX l o r i row k) (fun k=>pY o (cY R1 i row k)) (fun k=>k≤row.length) (fun k=>row.length-k) (row.length-k) (dY 4 K) .normal F H:=by
   intro b F H hb hF hH
   refine aI (k+1) hlt (by omega) hF ?_
   rw[sJ,hb,← hstep] at hH
   exact PH.aA PH.nil_le hH
  unfold pX pY at fin
  generalize hb:(cY R1 i row k).getD i false=b at *
  generalize hc:(cY R1 i row k).getD k false=c at *
  generalize hA:bR row[k]=A at *
  cases b with
  | true =>
   simp -implicitDefEqProofs only[go_sem,δ,γ,HX,n7,hi',bhS,hat,wQ,aK (show k<9223372036854775807 by omega)]
   exact fin true _ _ (by simp) (by (repeat' (first|exact PF.nil_le|refine PF.aA ?_ ?_))<;>first|(simp -implicitDefEqProofs only[go_sem,γ]<;>rfl)|rfl) (by simp -implicitDefEqProofs only[go_sem])
  | false =>
   simp -implicitDefEqProofs only[go_sem,δ,γ,HX,n7,hi',bhS,hat]
   refine aB (L.lY _ (hrow.all _ (bgY hlt))) rfl ?_
   rw[hA]
   cases A with
   | false =>
    simp -implicitDefEqProofs only[go_sem,γ,reduceCtorEq,hi',hk',n7,bhS,hat,hatk,wQ,aK (show k<9223372036854775807 by omega)]
    exact fin false _ _ (by simp) (by (repeat' (first|exact PF.nil_le|refine PF.aA ?_ ?_))<;>first|(simp -implicitDefEqProofs only[go_sem,γ]<;>rfl)|rfl) (by simp -implicitDefEqProofs only[go_sem])
   | true =>
    simp -implicitDefEqProofs only[go_sem,γ,reduceCtorEq,hi',hk',n7,bhS,hat,hatk,wQ,aK (show k<9223372036854775807 by omega)]
    exact fin c _ _ (by simp) (by (repeat' (first|exact PF.nil_le|refine PF.aA ?_ ?_))<;>first|(simp -implicitDefEqProofs only[go_sem,γ]<;>rfl)|rfl) (by simp -implicitDefEqProofs only[go_sem])
 ·have hlt':¬ (k:Int)<(row.length:Nat):=by omega
  simp -implicitDefEqProofs only[go_sem,hlt']
  have:k=row.length:=by omega
  subst this
  exact hK _ _ (by unfold pX; (repeat' (first|exact PF.nil_le|refine PF.aA ?_ ?_))<;>first|(simp -implicitDefEqProofs only[go_sem,γ]<;>rfl)|rfl) (PH.le_refl)
structure UI (l:cM):Prop where
 n:l.exit.length≤4
 rates:l.rates.length=l.exit.length
 row:∀ r∈l.rates,r.length=l.exit.length
theorem aAF {C:Ctx} (L:pL C) (l:cM) (hl:l.Ok) (he:UI l) (o r:Nat) (R:List Bool) (hR:R.length=l.exit.length) (K:bZ) (F:PF) (H:PH)
  (hF:(CB l o r 0).le F) (hH:(pY o R).le H)
  (hK:∀ F H,(ML l o r).le F→(pY o (eE l R l.exit.length)).le H→K .normal F H) :
  aD.wp C (.block 2 (.loop wP)) K F H:=by
 simp -implicitDefEqProofs only[go_sem]
 refine wp_loop (α:=Nat) (fun i=>CB l o r i) (fun i=>pY o (eE l R i)) (fun i=>i≤l.exit.length) (fun i=>l.exit.length-i) 0 (bhE _) hF hH ?_
 intro i hi
 have hlen:=rI l R i
 have hn:=he.n
 by_cases hlt:i<l.exit.length
 ·have hlt':(i:Int)<(l.exit.length:Nat):=by omega
  have hir:i<l.rates.length:=by rw[he.rates]; exact hlt
  have hat:=QY (R:=eE l R i) (i:=i) (by omega)
  have hx:(l.exit.map RF.cells)[i]?=some (l.exit[i]).cells:=by simp[hlt]
  have hrow:(l.rates.map fun r=>[frs r])[i]?=some [frs l.rates[i]]:=by simp[hir]
  have hrl:(l.rates[i]).length=l.exit.length:=he.row _ (bgY hir)
  generalize hR1:(eE l R i).set i ((eE l R i).getD i false||bR l.exit[i])=R1
  have hR1l:R1.length=l.exit.length:=by rw[← hR1,bjC]; omega
  have hstep:eE l R (i+1)=cY R1 i l.rates[i] (l.rates[i]).length:=by
   simp only[eE,jN]
   have e1:(l.exit.map bR).getD i false=bR l.exit[i]:=by simp[bhQ,hlt]
   have e2:l.rates.getD i []=l.rates[i]:=by simp[bhQ,hir]
   rw[e1,e2,hR1]
  have rest:∀ (F:PF) (H:PH),(((((((PF.nil.set 1 (.rptr l.cells)).set 3 (.osl o 1 0 l.exit.length)).set 4 (.int .i64 r)).set 19 (.int .i64 (l.exit.length:Nat))).set 20 (.int .i64 i)).set 5 (.int .i64 i)):PF).le F→H o=some (.rows 1 (eU R1)) →
    aD.wp C (.seq (.region RN) (.block 4 (.loop wO))) (dY 3 (iZ C (aD.wp C (.region HY)) (eZ (fun i=>CB l o r i) (fun i=>pY o (eE l R i)) (fun i=>i≤l.exit.length) (fun i=>l.exit.length-i) (l.exit.length-i) (dY 2 K)))) F H:=by
   intro F H hF hH
   have f1:F 1=some (.rptr l.cells):=hF 1 _ rfl
   have f3:F 3=some (.osl o 1 0 l.exit.length):=hF 3 _ rfl
   have f4:F 4=some (.int .i64 r):=hF 4 _ rfl
   have f19:F 19=some (.int .i64 (l.exit.length:Nat)):=hF 19 _ rfl
   have f20:F 20=some (.int .i64 i):=hF 20 _ rfl
   have f5:F 5=some (.int .i64 i):=hF 5 _ rfl
   rw[adH]
   simp -implicitDefEqProofs only[go_sem,δ,γ,θ,RN,f1,f5,hrow,bgT]
   have inner:=aAE L l o r i l.rates[i] (hl.row _ (bgY hir)) hrl hlt hn R1 hR1l
   simp only[aD.wp,go_sem] at inner
   refine inner _ _ _ ?_ (PH.aA PH.nil_le hH) ?_
   ·unfold pX
    repeat' first|exact PF.nil_le|refine PF.aA ?_ ?_|rfl|assumption
   ·intro F' H' hF' hH'
    have g20:F' 20=some (.int .i64 i):=hF' 20 _ (by unfold pX; simp -implicitDefEqProofs only[go_sem,γ])
    simp -implicitDefEqProofs only[go_sem,HY,g20,aK (show i<9223372036854775807 by omega)]
    refine aI (i+1) hlt (by omega) ?_ (by rw[hstep]; exact hH')
    have g:=fun (q:Nat) v h=>hF' q v h
    unfold CB
    unfold pX at g
    refine PF.aA (PF.aA (PF.aA (PF.aA (PF.aA PF.nil_le ?_) ?_) ?_) ?_) ?_
    ·simp -implicitDefEqProofs only[go_sem,γ]; exact g 1 _ rfl
    ·simp -implicitDefEqProofs only[go_sem,γ]; exact g 3 _ rfl
    ·simp -implicitDefEqProofs only[go_sem,γ]; exact g 4 _ rfl
    ·simp -implicitDefEqProofs only[go_sem,γ]; exact g 19 _ rfl
    ·simp -implicitDefEqProofs only[go_sem,γ]
  simp only[aD.wp,go_sem] at rest
  simp -implicitDefEqProofs only[go_sem,γ,wP,RL,CB,pY,hlt',aoY]
  generalize hb:(eE l R i).getD i false=b at *
  cases b with
  | true =>
   simp -implicitDefEqProofs only[go_sem,γ,RM,hlt',bhS,hat]
   refine rest _ _ (by (repeat' (first|exact PF.nil_le|refine PF.aA ?_ ?_))<;>first|(simp -implicitDefEqProofs only[go_sem,γ]<;>rfl)|rfl) ?_
   rw[← hR1]
   simp -implicitDefEqProofs only[go_sem,sJ,Bool.true_or]
  | false =>
   simp -implicitDefEqProofs only[go_sem,δ,γ,RM,hlt',bhS,hat,hx]
   refine aB (L.lY _ (hl.exit.all _ (bgY hlt))) rfl ?_
   simp -implicitDefEqProofs only[go_sem,γ,reduceCtorEq,hlt',bhS,hat]
   refine rest _ _ (by (repeat' (first|exact PF.nil_le|refine PF.aA ?_ ?_))<;>first|(simp -implicitDefEqProofs only[go_sem,γ]<;>rfl)|rfl) ?_
   rw[← hR1]
   simp -implicitDefEqProofs only[go_sem,sJ,Bool.false_or]
 ·have hlt':¬ (i:Int)<(l.exit.length:Nat):=by omega
  simp -implicitDefEqProofs only[go_sem,γ,wP,RL,CB,pY,hlt']
  have:i=l.exit.length:=by omega
  subst this
  exact hK _ _ (by unfold ML; (repeat' (first|exact PF.nil_le|refine PF.aA ?_ ?_))<;>first|(simp -implicitDefEqProofs only[go_sem,γ]<;>rfl)|rfl) PH.le_refl
theorem aUN {C:Ctx} (L:pL C) (l:cM) (hl:l.Ok) (he:UI l):CN.wp C (aY VS.res (bY (.bool (pZ l)))) (PF.args [.agg l.cells]) .nil:=by
 have hn:=he.n
 have hb1:((l.exit.length:Nat):Int)*((1:Nat):Int)≤140737488355328:=by omega
 have hb2:((l.exit.length:Nat):Int)≤9223372036854775807:=by omega
 simp -implicitDefEqProofs only[go_sem,γ,CN,aoT,aoU,VS,bgT,hb1,hb2]
 refine aQ fun o ho=>?_
 simp -implicitDefEqProofs only[go_sem,γ,aoV]
 refine wp_loop (α:=Nat) (fun r=>ML l o r) (fun r=>pY o (fP l r)) (fun r=>r≤l.exit.length+1) (fun r=>l.exit.length+1-r) 0 (bhE _) ?_ ?_ ?_
 ·unfold ML
  (repeat' (first|exact PF.nil_le|refine PF.aA ?_ ?_))<;>first|(simp -implicitDefEqProofs only[go_sem,γ]<;>rfl)|rfl
 ·refine PH.aA PH.nil_le ?_
  simp -implicitDefEqProofs only[go_sem,fP]
  simp[eU]
 intro r hr
 have hlen:=YR l r
 simp -implicitDefEqProofs only[go_sem,γ,adY,aoW,ML,pY]
 by_cases hlt:r≤l.exit.length
 ·have hlt':(r:Int)≤(l.exit.length:Nat):=by omega
  simp -implicitDefEqProofs only[go_sem,γ,hlt',aoX]
  have inner:=aAF L l hl he o r (fP l r) hlen
  simp only[aD.wp,go_sem] at inner
  refine inner _ _ _ ?_ PH.le_refl ?_
  ·unfold CB
   (repeat' (first|exact PF.nil_le|refine PF.aA ?_ ?_))<;>first|(simp -implicitDefEqProofs only[go_sem,γ]<;>rfl)|rfl
  ·intro F' H' hF' hH'
   have g:=fun (q:Nat) v h=>hF' q v h
   unfold ML at g
   have g4:F' 4=some (.int .i64 r):=g 4 _ rfl
   simp -implicitDefEqProofs only[go_sem,γ,aeA,g4,aK (show r<9223372036854775807 by omega)]
   refine aI (r+1) (by omega) (by omega) ?_ hH'
   refine PF.aA (PF.aA (PF.aA PF.nil_le ?_) ?_) ?_
   ·simp -implicitDefEqProofs only[go_sem,γ]; exact g 1 _ rfl
   ·simp -implicitDefEqProofs only[go_sem,γ]; exact g 3 _ rfl
   ·simp -implicitDefEqProofs only[go_sem,γ]
 ·have hlt':¬ (r:Int)≤(l.exit.length:Nat):=by omega
  have:r=l.exit.length+1:=by omega
  subst this
  simp -implicitDefEqProofs only[go_sem,γ,hlt',aeB]
  have hcall:=L.allb id 103 (fP l (l.exit.length+1)) (show (fP l (l.exit.length+1)).length≤_ by omega) fun x _=>L.ends1 x
  have hbl:(eU (fP l (l.exit.length+1))).length=l.exit.length:=by rw[adJ,hlen]
  refine oE hcall (rs:=eU (fP l (l.exit.length+1))) (o:=o) (s:=1) (by simp -implicitDefEqProofs only[go_sem]) ?_ ?_
  ·simp -implicitDefEqProofs only[go_sem,γ,AY (show l.exit.length≤(eU (fP l (l.exit.length+1))).length by omega),bhI (show (eU (fP l (l.exit.length+1))).length≤l.exit.length by omega)]
  ·simp -implicitDefEqProofs only[go_sem,γ]
   exact aU rfl rfl
end Go.PM
namespace Go.PM
open Go Go.Na
structure UJ (C:Ctx):Prop extends alR C where
 ends:∀ l:cM,l.Ok→UI l→aJ C 102 [.agg l.cells] .nil (aL (.bool (pZ l)))
def KC (l:cM) (i:Nat):Bool:=decide ((l.rates.getD i []).length=l.start.length)&&(l.rates.getD i []).all fF&&!((l.rates.getD i []).map bR).getD i false
def TW (l:cM):Bool:=match oS (l.start.map RF.v) with
 | .ok (n,a,b)=>decide (vQ n a b false 1 1=0)
 | .error _=>false
theorem a0Z (l:cM):oP l=(within l.start.length 1 4&&decide (l.exit.length=l.start.length)&&decide (l.rates.length=l.start.length)&&l.start.all fF&&l.exit.all fF&&(bhB l.rates.length).all (KC l)&&TW l&&pZ l):=rfl
theorem aWZ {l:List FV} {e:Int} (h:oS l=.error e):e≠0:=by
 have:∀ (l:List FV) (b:FV) (e:Int),l.foldlM iT b=.error e→e≠0:=by
  intro l
  induction l with
  | nil=>intro b e h; cases h
  | cons x t ih =>
   intro b e h
   rw[List.foldlM_cons] at h
   cases hx:iT b x with
   | error e' =>
    rw[hx] at h
    have:e'=e:=by injection h
    subst this
    obtain⟨n1,a1,b1⟩:=b
    obtain⟨n2,a2,b2⟩:=x
    simp only[iT] at hx
    split at hx
    ·split at hx
     ·rw[DH hx]; decide
     ·split at hx
      ·rw[DH hx]; decide
      ·rw[DH hx]; decide
    ·injection hx with hx; subst hx; decide
   | ok y=>rw[hx] at h; exact ih y e h
 exact this l _ e h
theorem a2O {l:List FV} {r:FV} (h:oS l=.ok r):r.rf.Ok:=by
 have:∀ (l:List FV) (b r:FV),b.rf.Ok→l.foldlM iT b=.ok r→r.rf.Ok:=by
  intro l
  induction l with
  | nil=>intro b r hb h; injection h with h; subst h; exact hb
  | cons x t ih =>
   intro b r hb h
   rw[List.foldlM_cons] at h
   cases hx:iT b x with
   | error e'=>rw[hx] at h; cases h
   | ok y=>rw[hx] at h; exact ih y r (aBA hx) h
 refine this l _ r ⟨bD _,bD _,?_,?_⟩ h
 ·show (aH 0).length≤_
  rw[eY]; simp
 ·show (aH 1).length≤_
  rw[lM (by decide) (by decide)]; simp
theorem DI {neg:Bool} {a b:Nat} {r:FV} (hb:b≠0) (h:jT neg a b=.ok r):dH r.2.1 r.2.2=true:=by
 unfold jT at h
 split at h
 ·cases h
 ·rename_i hc
  injection h with h
  subst h
  have hg:bgU a b ∣ b:=Nat.gcd_dvd_right _ _
  have h0:b/bgU a b≠0:=by
   have:=Nat.div_pos (Nat.le_of_dvd (bjF hb) hg) (bjF fun h=>hb (Nat.gcd_eq_zero_iff.1 h).2)
   omega
  have h1:=@gU (b/bgU a b)
  simp only[dH,bhO,decide_eq_true_eq]
  omega
theorem aIE {x y r:FV} (h:iT x y=.ok r):dH r.2.1 r.2.2=true:=by
 obtain⟨n1,a1,b1⟩:=x
 obtain⟨n2,a2,b2⟩:=y
 simp only[iT] at h
 split at h
 ·rename_i hv
  rw[bhO] at hv
  have h0:b1*b2≠0:=Nat.mul_ne_zero (lG.1 hv.1).1 (lG.1 hv.2).1
  split at h
  ·exact DI h0 h
  ·split at h
   ·exact DI h0 h
   ·exact DI h0 h
 ·cases h
theorem aMU:dH 0 1=true:=by
 have:cB 1=1:=by rw[oI (by decide),jA]
 simp[dH,this,jA]
theorem aMF {l:List FV} {r:FV} (h:oS l=.ok r):dH r.2.1 r.2.2=true:=by
 have:∀ (l:List FV) (b r:FV),dH b.2.1 b.2.2=true→l.foldlM iT b=.ok r→dH r.2.1 r.2.2=true:=by
  intro l
  induction l with
  | nil=>intro b r hb h; injection h with h; subst h; exact hb
  | cons x t ih =>
   intro b r hb h
   rw[List.foldlM_cons] at h
   cases hx:iT b x with
   | error e'=>rw[hx] at h; cases h
   | ok y=>rw[hx] at h; exact ih y r (aIE hx) h
 exact this l _ r aMU h
theorem aTX:(⟨false,[],[]⟩:RF).Ok:=⟨fun _ h=>absurd h (bhM),fun _ h=>absurd h (bhM),show 0≤16777216 by decide,show 0≤16777216 by decide⟩
def aVE (l:cM) (k:Nat):PF:=(((((PF.nil.set 1 (.rptr l.cells)).set 3 (.int .i64 (l.start.length:Nat))).set 45 (aMA l.rates)).set 46 (.int .i64 (l.rates.length:Nat))).set 47 (.int .i64 k))
theorem aOC {C:Ctx} (L:UJ C) (l:cM) (hl:l.Ok) (he:UI l) (F:PF) (hF:F 1=some (.rptr l.cells)) :
  aD.wp C (.seq (.region RO) (.seq (.region CO) (.seq (.region CP) (.seq (.region rD) .ret)))) (aY [.tmp 2] (bY (.bool (TW l&&pZ l)))) F .nil:=by
 simp -implicitDefEqProofs only[go_sem,δ,θ,RO,hF]
 refine aB (L.tot l.start hl.start) rfl ?_
 obtain⟨neg',x,y,e,hs⟩:=MR (oS (l.start.map RF.v))
 have go:∀ (z:RF) (e:Int),z.Ok→(e=0→(wK z.neg (val z.num) (val z.den) false 1 1=.tup [.int .i64 (vQ z.neg (val z.num) (val z.den) false 1 1),.int .i64 0])∧TW l=decide (vQ z.neg (val z.num) (val z.den) false 1 1=0))→(e≠0→TW l=false) →
   frV (oS (l.start.map RF.v))=.tup [.agg z.cells,.int .i64 e] →
   wpOps C [⟨(some 69),.mv (.tmp 72),none⟩,⟨(some 73),.extract (.tmp 69) 0,none⟩,⟨(some 74),.extract (.tmp 69) 1,none⟩,⟨(some 6),.alloc [(.bool false),.nils,.nils],none⟩,⟨none,.store 3 (.tmp 6) (.tmp 73),none⟩,⟨(some 7),.mv (.tmp 74),none⟩]
    (aD.wp C (.seq (.region CO) (.seq (.region CP) (.seq (.region rD) .ret))) (aY [.tmp 2] (bY (.bool (TW l&&pZ l))))) ((((F.set 70 (.rptr [frs l.start,aMA l.rates,frs l.exit])).set 71 (frs l.start))).set 72 (.tup [.agg z.cells,.int .i64 e])) .nil:=by
  intro z e hz h0 h1 _
  simp -implicitDefEqProofs only[go_sem,δ,γ]
  refine aQ fun o6 ho6=>?_
  simp -implicitDefEqProofs only[go_sem,δ,γ,CO]
  refine aB (L.frac 1 1 (by decide) (by decide)) rfl ?_
  rw[arM]
  simp -implicitDefEqProofs only[go_sem,δ,γ,frV]
  refine aQ fun o8 ho8=>?_
  have n8:o6≠o8:=by rintro rfl; simp only[aV,if_true] at ho8; cases ho8
  simp -implicitDefEqProofs only[go_sem,δ,γ,CP,n8]
  refine aB (L.ord z (FV.rf (false,1,1)) hz aQQ) rfl ?_
  rw[show val (FV.rf (false,1,1)).num=1 from aX 1,show val (FV.rf (false,1,1)).den=1 from aX 1,show (FV.rf (false,1,1)).neg=false from rfl]
  by_cases c:e=0
  ·obtain⟨g1,g2⟩:=h0 c
   rw[g1,g2]
   by_cases d:vQ z.neg (val z.num) (val z.den) false 1 1=0
   ·simp -implicitDefEqProofs only[go_sem,δ,γ,rD,bS c,bS d,hF]
    refine aB (L.ends l hl he) rfl ?_
    simp -implicitDefEqProofs only[go_sem,γ]
    exact aU rfl (by rw[decide_eq_true d,bhP])
   ·simp -implicitDefEqProofs only[go_sem,γ,reduceCtorEq,rD,bS c,bF d]
    exact aU rfl (by rw[decide_eq_false d,bhG])
  ·rw[h1 c]
   have:∃ v w,wK z.neg (val z.num) (val z.den) false 1 1=.tup [.int .i64 v,.int .i64 w]:=by
    unfold wK
    split
    ·exact⟨_,_,rfl⟩
    ·exact⟨_,_,rfl⟩
   obtain⟨v,w,hv⟩:=this
   rw[hv]
   simp -implicitDefEqProofs only[go_sem,γ,reduceCtorEq,rD,bF c]
   exact aU rfl rfl
 cases hs':oS (l.start.map RF.v) with
 | error e =>
  rw[hs'] at go
  exact go ⟨false,[],[]⟩ e aTX (fun h=>absurd h (aWZ hs')) (fun _=>by rw[TW,hs']) rfl
 | ok r =>
  obtain⟨n,a,b⟩:=r
  rw[hs'] at go
  have hr:=a2O hs'
  refine go (FV.rf (n,a,b)) 0 hr (fun _=>?_) (fun h=>absurd rfl h) rfl
  rw[show val (FV.rf (n,a,b)).num=a from aX a,show val (FV.rf (n,a,b)).den=b from aX b,show (FV.rf (n,a,b)).neg=n from rfl]
  refine⟨?_,by rw[TW,hs']⟩
  have hv:dH a b=true:=aMF hs'
  rw[wK,hv,akO]
  rfl
theorem a0E {C:Ctx} (L:UJ C) (l:cM) (hl:l.Ok):HZ.wp C (aY apA.res (bY (.bool (oP l)))) (PF.args [.agg l.cells]) .nil:=by
 rw[a0Z]
 simp -implicitDefEqProofs only[go_sem,δ,γ,θ,HZ,aCU,aCV,apA,aCW,bgT]
 refine aB (L.inn l.start.length 1 4) rfl ?_
 cases c1:within l.start.length 1 4 with
 | false =>
  simp -implicitDefEqProofs only[go_sem,γ,bhN,uP]
  exact aU rfl (by simp only[bhG])
 | true =>
  obtain⟨n1,n2⟩:=within_iff.1 c1
  by_cases c2:l.exit.length=l.start.length
  ·rw[decide_eq_true c2]
   by_cases c3:l.rates.length=l.start.length
   ·rw[decide_eq_true c3]
    simp -implicitDefEqProofs only[go_sem,δ,γ,θ,reduceCtorEq,bhC,bgT,cP (show ((l.exit.length:Nat):Int)=(l.start.length:Nat) by omega),cP (show ((l.rates.length:Nat):Int)=(l.start.length:Nat) by omega)]
    refine aB (L.aVG l.start hl.start) rfl ?_
    cases c4:l.start.all fF with
    | false =>
     simp -implicitDefEqProofs only[go_sem,γ,reduceCtorEq,bhN,uP]
     exact aU rfl (by simp only[bhG])
    | true =>
     simp -implicitDefEqProofs only[go_sem,γ,reduceCtorEq,bhC]
     refine aB (L.aVG l.exit hl.exit) rfl ?_
     cases c5:l.exit.all fF with
     | false =>
      simp -implicitDefEqProofs only[go_sem,γ,reduceCtorEq,bhN,uP]
      exact aU rfl (by simp only[bhG])
     | true =>
      simp -implicitDefEqProofs only[go_sem,δ,γ,θ,reduceCtorEq,bhC,aCX,bgT]
      have hrk:∀ k (h:k<l.rates.length),KC l k=(decide ((l.rates[k]).length=l.start.length)&&(l.rates[k]).all fF&&!((l.rates[k]).map bR).getD k false):=by
       intro k h
       have:l.rates.getD k []=l.rates[k]:=by simp[bhQ,h]
       rw[KC,this]
      refine wp_loop (α:=Nat) (fun k=>aVE l k) (fun _=>.nil) (fun k=>k≤l.rates.length∧mS (KC l) k) (fun k=>l.rates.length-k) 0 ⟨bhE _,.zero⟩ ?_ PH.nil_le ?_
      ·unfold aVE
       (repeat' (first|exact PF.nil_le|refine PF.aA ?_ ?_))<;>first|(simp -implicitDefEqProofs only[go_sem,γ,bgT]<;>rfl)|rfl
      rintro k ⟨hk,ha⟩
      simp -implicitDefEqProofs only[go_sem,γ,apB,aCY,aVE]
      by_cases hlt:k<l.rates.length
      ·have hlt':(k:Int)<(l.rates.length:Nat):=by omega
       have hr:(l.rates.map fun r=>[frs r])[k]?=some [frs l.rates[k]]:=by simp[hlt]
       have hk2:=hrk k hlt
       have hrok:=hl.row l.rates[k] (bgY hlt)
       simp -implicitDefEqProofs only[go_sem,γ,hlt',aCZ,hr,aDA,bgT]
       by_cases d1:(l.rates[k]).length=l.start.length
       ·rw[decide_eq_true d1,bhP] at hk2
        simp -implicitDefEqProofs only[go_sem,γ,cP (show (((l.rates[k]).length:Nat):Int)=(l.start.length:Nat) by omega)]
        refine aB (L.aVG _ hrok) rfl ?_
        cases d2:(l.rates[k]).all fF with
        | false =>
         rw[d2,bhG] at hk2
         simp -implicitDefEqProofs only[go_sem,γ,reduceCtorEq,bhN,MS]
         refine aU (b:=false) rfl ?_
         have:(bhB l.rates.length).all (KC l)=false:=dO hlt hk2
         rw[this]; simp only[bhG,biF]
        | true =>
         have hkr:k<(l.rates[k]).length:=by omega
         have hx:((l.rates[k]).map RF.cells)[k]?=some ((l.rates[k])[k]).cells:=by simp[hkr]
         have hab:((l.rates[k]).map bR).getD k false=bR (l.rates[k])[k]:=by simp[bhQ,hkr]
         rw[d2,bhP,hab] at hk2
         simp -implicitDefEqProofs only[go_sem,δ,γ,reduceCtorEq,bhC,hx]
         refine aB (L.lY _ (hrok.all _ (bgY hkr))) rfl ?_
         cases d3:bR (l.rates[k])[k] with
         | true =>
          rw[d3] at hk2
          simp -implicitDefEqProofs only[go_sem,γ,reduceCtorEq,MS]
          refine aU (b:=false) rfl ?_
          have:(bhB l.rates.length).all (KC l)=false:=dO hlt hk2
          rw[this]; simp only[bhG,biF]
         | false =>
          rw[d3] at hk2
          simp -implicitDefEqProofs only[go_sem,γ,reduceCtorEq,aDB,aK (show k<9223372036854775807 by omega)]
          refine aI (k+1) ⟨hlt,ha.step hk2⟩ (by omega) ?_ PH.nil_le
          (repeat' (first|exact PF.nil_le|refine PF.aA ?_ ?_))<;>first|(simp -implicitDefEqProofs only[go_sem,γ]<;>rfl)|rfl
       ·simp only[decide_eq_false d1,bhG] at hk2
        simp -implicitDefEqProofs only[go_sem,γ,eC (show (((l.rates[k]).length:Nat):Int)≠(l.start.length:Nat) by omega),MS]
        refine aU (b:=false) rfl ?_
        have:(bhB l.rates.length).all (KC l)=false:=dO hlt hk2
        rw[this]; simp only[bhG,biF]
      ·have hlt':¬ (k:Int)<(l.rates.length:Nat):=by omega
       have:k=l.rates.length:=by omega
       subst this
       have hall:(bhB l.rates.length).all (KC l)=true:=ha
       have he:UI l:=⟨by omega,by omega,fun r hr=>by
        obtain⟨i,hi,rfl⟩:=biL hr
        have:=bhW.1 hall i (biM.2 hi)
        rw[hrk i hi] at this
        simp only[bhO,decide_eq_true_eq] at this
        omega⟩
       have tail:=aOC L l hl he
       simp only[aD.wp,go_sem] at tail
       rw[hall]
       simp -implicitDefEqProofs only[go_sem,hlt',bhP,bjD]
       exact tail _ rfl
   ·simp -implicitDefEqProofs only[go_sem,δ,γ,θ,reduceCtorEq,bhC,bgT,cP (show ((l.exit.length:Nat):Int)=(l.start.length:Nat) by omega),eC (show ((l.rates.length:Nat):Int)≠(l.start.length:Nat) by omega),uP]
    exact aU rfl (by rw[decide_eq_false c3]; simp only[bhG,biF])
  ·simp -implicitDefEqProofs only[go_sem,γ,reduceCtorEq,bhC,bgT,eC (show ((l.exit.length:Nat):Int)≠(l.start.length:Nat) by omega),uP]
   exact aU rfl (by rw[decide_eq_false c2]; simp only[bhG,biF])
end Go.PM
namespace Go.PM
open Go Go.Na
structure iK (C:Ctx):Prop extends UJ C where
 law:∀ l:cM,l.Ok→aJ C 95 [.agg l.cells] .nil (aL (.bool (oP l)))
 pol:∀ (p:cG) (n:Nat),p.Ok→n≤4→aJ C 112 [.agg p.cells,.int .i64 n] .nil (aL (.bool (iH n p)))
 doms:∀ f:aG,f.Ok→aJ C 111 [.agg f.cells] .nil (aL (.bool (lZ f)))
abbrev eF (l:List (List UInt8)):List (List PV):=l.map fun s=>[PV.str s]
theorem sX (l:List (List UInt8)) {k:Nat} (h:k<l.length):eF (l.take k)++[[.str l[k]]]=eF (l.take (k+1)):=by
 unfold eF
 rw[biZ h,biS]; rfl
theorem pG {l:List (List UInt8)} (h:l.length≤1000):roomFor (eF l).length 1 16:=by
 unfold roomFor eF
 simp only[bgT,maxLen]; omega
def gD {α:Type} (l:List α) (p:α→Bool) (k:Nat):Bool:=(l.take k).all p
theorem pR {α:Type} (l:List α) (p:α→Bool):gD l p 0=true:=rfl
theorem pQ {α:Type} (l:List α) (p:α→Bool) {k:Nat} (h:k<l.length):gD l p (k+1)=(gD l p k&&p l[k]):=by
 unfold gD
 rw[biZ h,List.all_append]; simp
theorem sI {α:Type} (l:List α) (p:α→Bool):gD l p l.length=l.all p:=by unfold gD; rw[bhZ]
def gG (f:aG) (w3 w4 w5 w6 w7:PV) (ok:Bool):PF:=(((((((PF.nil.set 1 (.rptr f.cells)).set 3 (w3)).set 4 (w4)).set 5 (w5)).set 6 (w6)).set 7 (w7)).set 8 (.bool ok))
structure iR (F:PF) (f:aG) (w3 w4 w5 w6 w7:PV) (ok:Bool):Prop where
 a1:F 1=some (.rptr f.cells)
 a3:F 3=some w3
 a4:F 4=some w4
 a5:F 5=some w5
 a6:F 6=some w6
 a7:F 7=some w7
 a8:F 8=some (.bool ok)
theorem aJO {C:Ctx} (L:iK C) (f:aG) (hf:f.Ok) (hs:f.laws.length≤4) (w4 w5 w6 w7:PV) (K:bZ) (F:PF) (H:PH) (hv:iR F f .nils w4 w5 w6 w7 true)
  (h67:F 67=some (.sl 4 (f.laws.map cM.cells))) (h68:F 68=some (.int .i64 (f.laws.length:Nat))) (h69:F 69=some (.int .i64 0))
  (hK:∀ v F' H',iR F' f v w4 w5 w6 w7 (f.laws.all oP)→bB H' 1 v (eF (f.laws.map cM.name))→K (.exit 0) F' H') :
  aD.wp C (.loop CV) K F H:=by
 refine wp_loop (α:=Nat × PV × PH) (fun t=>(((gG f t.2.1 w4 w5 w6 w7 (gD f.laws oP t.1)).set 67 (.sl 4 (f.laws.map cM.cells))).set 68 (.int .i64 (f.laws.length:Nat))).set 69 (.int .i64 t.1)) (fun t=>t.2.2)
  (fun t=>t.1≤f.laws.length∧bB t.2.2 1 t.2.1 (eF ((f.laws.map cM.name).take t.1))) (fun t=>f.laws.length-t.1) (0,.nils,.nil) ⟨bhE _,.nil⟩ ?_ PH.nil_le ?_
 ·unfold gG
  (repeat' (first|exact PF.nil_le|refine PF.aA ?_ ?_))<;>first|(simp -implicitDefEqProofs only[go_sem,hv.a1,hv.a3,hv.a4,hv.a5,hv.a6,hv.a7,hv.a8,h67,h68,h69,pR]<;>rfl)|rfl
 rintro⟨k,v,H0⟩ ⟨hk,hO⟩
 simp only at hk hO ⊢
 simp -implicitDefEqProofs only[go_sem,γ,CV,aDW,gG]
 by_cases hlt:k<f.laws.length
 ·have hlt':(k:Int)<(f.laws.length:Nat):=by omega
  have hr:(f.laws.map cM.cells)[k]?=some (f.laws[k]).cells:=by simp[hlt]
  have hsn:=sX (f.laws.map cM.name) (k:=k) (by simpa using hlt)
  rw[biI] at hsn
  simp -implicitDefEqProofs only[go_sem,δ,γ,hlt',aDX,hr]
  refine aQ fun o ho=>?_
  simp -implicitDefEqProofs only[go_sem,υ,δ,γ,η,θ,ζ,aDY]
  refine kO hO ho (pG (by simp; omega)) fun v' H' hO' ho'=>?_
  rw[hsn] at hO'
  have hstep:=pQ f.laws oP hlt
  cases hb:gD f.laws oP k with
  | false =>
   rw[hb,bhG] at hstep
   simp -implicitDefEqProofs only[go_sem,γ,reduceCtorEq,abR,ho',RS,aK (show k<9223372036854775807 by omega)]
   refine aI (k+1,v',H') ⟨hlt,hO'⟩ (by simp only; omega) ?_ PH.le_refl
   simp only[hstep]
   (repeat' (first|exact PF.nil_le|refine PF.aA ?_ ?_))<;>first|(simp -implicitDefEqProofs only[go_sem,γ]<;>rfl)|rfl
  | true =>
   rw[hb,bhP] at hstep
   simp -implicitDefEqProofs only[go_sem,δ,γ,abR,ho']
   refine aB (L.law _ (hf.law _ (bgY hlt))) (by simp -implicitDefEqProofs only[go_sem,γ]<;>rfl) ?_
   simp -implicitDefEqProofs only[go_sem,γ,RS,aK (show k<9223372036854775807 by omega)]
   refine aI (k+1,v',H') ⟨hlt,hO'⟩ (by simp only; omega) ?_ PH.le_refl
   simp only[hstep]
   (repeat' (first|exact PF.nil_le|refine PF.aA ?_ ?_))<;>first|(simp -implicitDefEqProofs only[go_sem,γ]<;>rfl)|rfl
 ·have hlt':¬ (k:Int)<(f.laws.length:Nat):=by omega
  have:k=f.laws.length:=by omega
  subst this
  rw[bhI (by simp)] at hO
  rw[sI]
  simp -implicitDefEqProofs only[go_sem,hlt']
  exact hK v _ _ ⟨by simp -implicitDefEqProofs only[go_sem,γ],by simp -implicitDefEqProofs only[go_sem,γ],by simp -implicitDefEqProofs only[go_sem,γ],by simp -implicitDefEqProofs only[go_sem,γ],by simp -implicitDefEqProofs only[go_sem,γ],by simp -implicitDefEqProofs only[go_sem,γ],by simp -implicitDefEqProofs only[go_sem,γ]⟩ hO
theorem xN {n:Nat} (h:n≤1000):IntKind.i64.wrap ((n:Int)-1)=(n:Int)-1:=wrap_i64 (by omega) (by omega)
theorem aJP {C:Ctx} (L:iK C) (f:aG) (hs:f.models.length≤4) (hl:f.laws.length≤4) (b0:Bool) (w3 w5 w6 w7:PV) (K:bZ) (F:PF) (H:PH) (hv:iR F f w3 .nils w5 w6 w7 b0)
  (h67:F 85=some (.sl 4 (f.models.map cT.cells))) (h68:F 86=some (.int .i64 (f.models.length:Nat))) (h69:F 87=some (.int .i64 0))
  (hK:∀ v F' H',iR F' f w3 v w5 w6 w7 (b0&&f.models.all (kC f))→bB H' 1 v (eF (f.models.map cT.name))→K (.exit 2) F' H') :
  aD.wp C (.loop CW) K F H:=by
 refine wp_loop (α:=Nat × PV × PH) (fun t=>(((gG f w3 t.2.1 w5 w6 w7 (b0&&gD f.models (kC f) t.1)).set 85 (.sl 4 (f.models.map cT.cells))).set 86 (.int .i64 (f.models.length:Nat))).set 87 (.int .i64 t.1)) (fun t=>t.2.2)
  (fun t=>t.1≤f.models.length∧bB t.2.2 1 t.2.1 (eF ((f.models.map cT.name).take t.1))) (fun t=>f.models.length-t.1) (0,.nils,.nil) ⟨bhE _,.nil⟩ ?_ PH.nil_le ?_
 ·unfold gG
  (repeat' (first|exact PF.nil_le|refine PF.aA ?_ ?_))<;>first|(simp -implicitDefEqProofs only[go_sem,hv.a1,hv.a3,hv.a4,hv.a5,hv.a6,hv.a7,hv.a8,h67,h68,h69,pR,bjD]<;>rfl)|rfl
 rintro⟨k,v,H0⟩ ⟨hk,hO⟩
 simp only at hk hO ⊢
 simp -implicitDefEqProofs only[go_sem,γ,CW,aqA,gG]
 by_cases hlt:k<f.models.length
 ·have hlt':(k:Int)<(f.models.length:Nat):=by omega
  have hr:(f.models.map cT.cells)[k]?=some (f.models[k]).cells:=by simp[hlt]
  have hsn:=sX (f.models.map cT.name) (k:=k) (by simpa using hlt)
  rw[biI] at hsn
  simp -implicitDefEqProofs only[go_sem,δ,γ,hlt',aqB,hr]
  refine aQ fun o ho=>?_
  simp -implicitDefEqProofs only[go_sem,υ,δ,γ,η,θ,ζ,aqC]
  refine kO hO ho (pG (by simp; omega)) fun v' H' hO' ho'=>?_
  rw[hsn] at hO'
  have hstep:=pQ f.models (kC f) hlt
  have fin:∀ (c:Bool) (F':PF),c=(b0&&gD f.models (kC f) (k+1))→((((gG f w3 v' w5 w6 w7 c).set 85 (.sl 4 (f.models.map cT.cells))).set 86 (.int .i64 (f.models.length:Nat))).set 87 (.int .i64 (k+1:Nat))).le F' →
    eZ (fun (t:Nat × PV × PH)=>(((gG f w3 t.2.1 w5 w6 w7 (b0&&gD f.models (kC f) t.1)).set 85 (.sl 4 (f.models.map cT.cells))).set 86 (.int .i64 (f.models.length:Nat))).set 87 (.int .i64 t.1)) (fun (t:Nat × PV × PH)=>t.2.2)  (fun (t:Nat × PV × PH)=>t.1≤f.models.length∧bB t.2.2 1 t.2.1 (eF ((f.models.map cT.name).take t.1))) (fun (t:Nat × PV × PH)=>f.models.length-t.1) (f.models.length-k) K .normal F' H':=by
   intro c F' hc hle
   refine aI (α:=Nat × PV × PH) (k+1,v',H') ⟨hlt,hO'⟩ (by simp only; omega) ?_ PH.le_refl
   rw[hc] at hle
   exact hle
  unfold gG at fin
  rw[hstep,← Bool.and_assoc] at fin
  have hm:kC f f.models[k]=(within (f.models[k]).extents 1 16&&within (f.models[k]).port 1 64&&within (f.models[k]).law 0 ((f.laws.length:Int)-1)):=rfl
  cases hb:(b0&&gD f.models (kC f) k) with
  | false =>
   rw[hb,bhG] at fin
   simp -implicitDefEqProofs only[go_sem,γ,reduceCtorEq,RU,ho',vH,aK (show k<9223372036854775807 by omega)]
   refine fin false _ rfl ?_
   (repeat' (first|exact PF.nil_le|refine PF.aA ?_ ?_))<;>first|(simp -implicitDefEqProofs only[go_sem,γ]<;>rfl)|rfl
  | true =>
   rw[hb,bhP] at fin
   simp -implicitDefEqProofs only[go_sem,δ,γ,θ,RU,ho']
   refine aB (L.inn _ 1 16) (by simp -implicitDefEqProofs only[go_sem,γ]<;>rfl) ?_
   cases e1:within (f.models[k]).extents 1 16 with
   | false =>
    simp -implicitDefEqProofs only[go_sem,γ,reduceCtorEq,vH,aK (show k<9223372036854775807 by omega)]
    refine fin false _ (by rw[hm,e1]; simp only[bhG]) ?_
    (repeat' (first|exact PF.nil_le|refine PF.aA ?_ ?_))<;>first|(simp -implicitDefEqProofs only[go_sem,γ]<;>rfl)|rfl
   | true =>
    simp -implicitDefEqProofs only[go_sem,δ,γ,θ,ho']
    refine aB (L.inn _ 1 64) (by simp -implicitDefEqProofs only[go_sem,γ]<;>rfl) ?_
    cases e2:within (f.models[k]).port 1 64 with
    | false =>
     simp -implicitDefEqProofs only[go_sem,γ,reduceCtorEq,vH,aK (show k<9223372036854775807 by omega)]
     refine fin false _ (by rw[hm,e1,e2]; simp only[bhG,biF]) ?_
     (repeat' (first|exact PF.nil_le|refine PF.aA ?_ ?_))<;>first|(simp -implicitDefEqProofs only[go_sem,γ]<;>rfl)|rfl
    | true =>
     simp -implicitDefEqProofs only[go_sem,δ,γ,θ,ho',bgT,xN (show f.laws.length≤1000 by omega)]
     refine aB (L.inn _ 0 _) (by simp -implicitDefEqProofs only[go_sem,γ]<;>rfl) ?_
     simp -implicitDefEqProofs only[go_sem,γ,vH,aK (show k<9223372036854775807 by omega)]
     refine fin (within (f.models[k]).law 0 ((f.laws.length:Int)-1)) _ (by rw[hm,e1,e2]; simp only[bhP]) ?_
     (repeat' (first|exact PF.nil_le|refine PF.aA ?_ ?_))<;>first|(simp -implicitDefEqProofs only[go_sem,γ]<;>rfl)|rfl
 ·have hlt':¬ (k:Int)<(f.models.length:Nat):=by omega
  have:k=f.models.length:=by omega
  subst this
  rw[bhI (by simp)] at hO
  rw[sI]
  simp -implicitDefEqProofs only[go_sem,hlt']
  exact hK v _ _ ⟨by simp -implicitDefEqProofs only[go_sem,γ],by simp -implicitDefEqProofs only[go_sem,γ],by simp -implicitDefEqProofs only[go_sem,γ],by simp -implicitDefEqProofs only[go_sem,γ],by simp -implicitDefEqProofs only[go_sem,γ],by simp -implicitDefEqProofs only[go_sem,γ],by simp -implicitDefEqProofs only[go_sem,γ]⟩ hO
theorem aJQ {C:Ctx} (L:iK C) (f:aG) (t:List cK) (hs:t.length≤40) (b0:Bool) (w3 w4 w6 w7:PV) (K:bZ) (F:PF) (H:PH) (hv:iR F f w3 w4 .nils w6 w7 b0)
  (h67:F 119=some (.sl 7 (t.map cK.cells))) (h68:F 120=some (.int .i64 (t.length:Nat))) (h69:F 121=some (.int .i64 0))
  (hK:∀ v F' H',iR F' f w3 w4 v w6 w7 b0→bB H' 1 v (eF (t.map cK.name))→K (.exit 4) F' H') :
  aD.wp C (.loop CX) K F H:=by
 refine wp_loop (α:=Nat × PV × PH) (fun a=>(((gG f w3 w4 a.2.1 w6 w7 b0).set 119 (.sl 7 (t.map cK.cells))).set 120 (.int .i64 (t.length:Nat))).set 121 (.int .i64 a.1)) (fun a=>a.2.2)
  (fun a=>a.1≤t.length∧bB a.2.2 1 a.2.1 (eF ((t.map cK.name).take a.1))) (fun a=>t.length-a.1) (0,.nils,.nil) ⟨bhE _,.nil⟩ ?_ PH.nil_le ?_
 ·unfold gG
  (repeat' (first|exact PF.nil_le|refine PF.aA ?_ ?_))<;>first|(simp -implicitDefEqProofs only[go_sem,hv.a1,hv.a3,hv.a4,hv.a5,hv.a6,hv.a7,hv.a8,h67,h68,h69]<;>rfl)|rfl
 rintro⟨k,v,H0⟩ ⟨hk,hO⟩
 simp only at hk hO ⊢
 simp -implicitDefEqProofs only[go_sem,γ,CX,aqD,gG]
 by_cases hlt:k<t.length
 ·have hlt':(k:Int)<(t.length:Nat):=by omega
  have hr:(t.map cK.cells)[k]?=some (t[k]).cells:=by simp[hlt]
  have hsn:=sX (t.map cK.name) (k:=k) (by simpa using hlt)
  rw[biI] at hsn
  simp -implicitDefEqProofs only[go_sem,δ,γ,hlt',aqE,hr]
  refine aQ fun o ho=>?_
  simp -implicitDefEqProofs only[go_sem,υ,δ,γ,η,θ,ζ,aqF]
  refine kO hO ho (pG (by simp; omega)) fun v' H' hO' ho'=>?_
  rw[hsn] at hO'
  simp -implicitDefEqProofs only[go_sem,γ,aqG,aK (show k<9223372036854775807 by omega)]
  refine aI (k+1,v',H') ⟨hlt,hO'⟩ (by simp only; omega) ?_ PH.le_refl
  (repeat' (first|exact PF.nil_le|refine PF.aA ?_ ?_))<;>first|(simp -implicitDefEqProofs only[go_sem,γ]<;>rfl)|rfl
 ·have hlt':¬ (k:Int)<(t.length:Nat):=by omega
  have:k=t.length:=by omega
  subst this
  rw[bhI (by simp)] at hO
  simp -implicitDefEqProofs only[go_sem,hlt']
  exact hK v _ _ ⟨by simp -implicitDefEqProofs only[go_sem,γ],by simp -implicitDefEqProofs only[go_sem,γ],by simp -implicitDefEqProofs only[go_sem,γ],by simp -implicitDefEqProofs only[go_sem,γ],by simp -implicitDefEqProofs only[go_sem,γ],by simp -implicitDefEqProofs only[go_sem,γ],by simp -implicitDefEqProofs only[go_sem,γ]⟩ hO
theorem aJR {C:Ctx} (L:iK C) (f:aG) (names:List (List UInt8)) (hn:names.length≤40) (hs:f.drives.length≤24) (hm:f.models.length≤4) (hd:f.domains.length≤40) (b0:Bool) (w3 w4 v0 w6 w7:PV) (K:bZ) (F:PF) (H:PH) (hv:iR F f w3 w4 v0 w6 w7 b0)
  (h0:bB H 1 v0 (eF names))
  (h67:F 132=some (.sl 3 (f.drives.map cQ.cells))) (h68:F 133=some (.int .i64 (f.drives.length:Nat))) (h69:F 134=some (.int .i64 0))
  (hK:∀ v F' H',iR F' f w3 w4 v w6 w7 (b0&&f.drives.all (iO f))→bB H' 1 v (eF (names++f.drives.map cQ.name))→K (.exit 6) F' H') :
  aD.wp C (.loop CY) K F H:=by
 refine wp_loop (α:=Nat × PV × PH) (fun t=>(((gG f w3 w4 t.2.1 w6 w7 (b0&&gD f.drives (iO f) t.1)).set 132 (.sl 3 (f.drives.map cQ.cells))).set 133 (.int .i64 (f.drives.length:Nat))).set 134 (.int .i64 t.1)) (fun t=>t.2.2)
  (fun t=>t.1≤f.drives.length∧bB t.2.2 1 t.2.1 (eF (names++(f.drives.map cQ.name).take t.1))) (fun t=>f.drives.length-t.1) (0,v0,H) ⟨bhE _,by rw[List.take_zero,biN]; exact h0⟩ ?_ PH.le_refl ?_
 ·unfold gG
  (repeat' (first|exact PF.nil_le|refine PF.aA ?_ ?_))<;>first|(simp -implicitDefEqProofs only[go_sem,hv.a1,hv.a3,hv.a4,hv.a5,hv.a6,hv.a7,hv.a8,h67,h68,h69,pR,bjD]<;>rfl)|rfl
 rintro⟨k,v,H0⟩ ⟨hk,hO⟩
 simp only at hk hO ⊢
 simp -implicitDefEqProofs only[go_sem,γ,CY,aqH,gG]
 by_cases hlt:k<f.drives.length
 ·have hlt':(k:Int)<(f.drives.length:Nat):=by omega
  have hr:(f.drives.map cQ.cells)[k]?=some (f.drives[k]).cells:=by simp[hlt]
  have hsn:eF (names++(f.drives.map cQ.name).take k)++[[.str (f.drives[k]).name]]=eF (names++(f.drives.map cQ.name).take (k+1)):=by
   rw[biZ (by simpa using hlt),← bhY,biI]
   unfold eF
   simp only[biS,biC,biV]
  simp -implicitDefEqProofs only[go_sem,δ,γ,hlt',aqI,hr]
  refine aQ fun o ho=>?_
  simp -implicitDefEqProofs only[go_sem,υ,δ,γ,η,θ,ζ,aqJ]
  refine kO hO ho (pG (by simp; omega)) fun v' H' hO' ho'=>?_
  rw[hsn] at hO'
  have hstep:=pQ f.drives (iO f) hlt
  have fin:∀ (c:Bool) (F':PF),c=(b0&&gD f.drives (iO f) (k+1))→((((gG f w3 w4 v' w6 w7 c).set 132 (.sl 3 (f.drives.map cQ.cells))).set 133 (.int .i64 (f.drives.length:Nat))).set 134 (.int .i64 (k+1:Nat))).le F' →
    eZ (fun (t:Nat × PV × PH)=>(((gG f w3 w4 t.2.1 w6 w7 (b0&&gD f.drives (iO f) t.1)).set 132 (.sl 3 (f.drives.map cQ.cells))).set 133 (.int .i64 (f.drives.length:Nat))).set 134 (.int .i64 t.1)) (fun (t:Nat × PV × PH)=>t.2.2)  (fun (t:Nat × PV × PH)=>t.1≤f.drives.length∧bB t.2.2 1 t.2.1 (eF (names++(f.drives.map cQ.name).take t.1))) (fun (t:Nat × PV × PH)=>f.drives.length-t.1) (f.drives.length-k) K .normal F' H':=by
   intro c F' hc hle
   refine aI (α:=Nat × PV × PH) (k+1,v',H') ⟨hlt,hO'⟩ (by simp only; omega) ?_ PH.le_refl
   rw[hc] at hle
   exact hle
  unfold gG at fin
  rw[hstep,← Bool.and_assoc] at fin
  have hmd:iO f f.drives[k]=(within (f.drives[k]).model 0 ((f.models.length:Int)-1)&&within (f.drives[k]).machine 0 ((f.domains.length:Int)-1)&&decide ((f.domains.map cK.level).getD (f.drives[k]).machine.toNat 0=4)):=rfl
  cases hb:(b0&&gD f.drives (iO f) k) with
  | false =>
   rw[hb,bhG] at fin
   simp -implicitDefEqProofs only[go_sem,γ,reduceCtorEq,RX,ho',rE,aK (show k<9223372036854775807 by omega)]
   refine fin false _ rfl ?_
   (repeat' (first|exact PF.nil_le|refine PF.aA ?_ ?_))<;>first|(simp -implicitDefEqProofs only[go_sem,γ]<;>rfl)|rfl
  | true =>
   rw[hb,bhP] at fin
   simp -implicitDefEqProofs only[go_sem,δ,γ,θ,RX,ho',bgT,xN (show f.models.length≤1000 by omega)]
   refine aB (L.inn _ 0 _) (by simp -implicitDefEqProofs only[go_sem,γ]<;>rfl) ?_
   cases e1:within (f.drives[k]).model 0 ((f.models.length:Int)-1) with
   | false =>
    simp -implicitDefEqProofs only[go_sem,γ,reduceCtorEq,rE,aK (show k<9223372036854775807 by omega)]
    refine fin false _ (by rw[hmd,e1]; simp only[bhG]) ?_
    (repeat' (first|exact PF.nil_le|refine PF.aA ?_ ?_))<;>first|(simp -implicitDefEqProofs only[go_sem,γ]<;>rfl)|rfl
   | true =>
    simp -implicitDefEqProofs only[go_sem,δ,γ,θ,ho',bgT,xN (show f.domains.length≤1000 by omega)]
    refine aB (L.inn _ 0 _) (by simp -implicitDefEqProofs only[go_sem,γ]<;>rfl) ?_
    cases e2:within (f.drives[k]).machine 0 ((f.domains.length:Int)-1) with
    | false =>
     simp -implicitDefEqProofs only[go_sem,γ,reduceCtorEq,rE,aK (show k<9223372036854775807 by omega)]
     refine fin false _ (by rw[hmd,e1,e2]; simp only[bhG,biF]) ?_
     (repeat' (first|exact PF.nil_le|refine PF.aA ?_ ?_))<;>first|(simp -implicitDefEqProofs only[go_sem,γ]<;>rfl)|rfl
    | true =>
     obtain⟨i1,i2⟩:=within_iff.1 e2
     have i3:(f.drives[k]).machine.toNat<f.domains.length:=by omega
     have hpr:(f.domains.map cK.cells)[(f.drives[k]).machine.toNat]?=some (f.domains[(f.drives[k]).machine.toNat]).cells:=by simp[i3]
     have hlv:(f.domains.map cK.level).getD (f.drives[k]).machine.toNat 0=(f.domains[(f.drives[k]).machine.toNat]).level:=by simp[i3]
     rw[hlv] at hmd
     by_cases e3:(f.domains[(f.drives[k]).machine.toNat]).level=4
     ·simp -implicitDefEqProofs only[go_sem,δ,γ,θ,ho',i1,hpr,bS e3,rE,aK (show k<9223372036854775807 by omega)]
      refine fin true _ (by rw[hmd,e1,e2,decide_eq_true e3]; rfl) ?_
      (repeat' (first|exact PF.nil_le|refine PF.aA ?_ ?_))<;>first|(simp -implicitDefEqProofs only[go_sem,γ]<;>rfl)|rfl
     ·simp -implicitDefEqProofs only[go_sem,δ,γ,θ,ho',i1,hpr,bF e3,rE,aK (show k<9223372036854775807 by omega)]
      refine fin false _ (by rw[hmd,e1,e2,decide_eq_false e3]; rfl) ?_
      (repeat' (first|exact PF.nil_le|refine PF.aA ?_ ?_))<;>first|(simp -implicitDefEqProofs only[go_sem,γ]<;>rfl)|rfl
 ·have hlt':¬ (k:Int)<(f.drives.length:Nat):=by omega
  have:k=f.drives.length:=by omega
  subst this
  rw[bhI (by simp)] at hO
  rw[sI]
  simp -implicitDefEqProofs only[go_sem,hlt']
  exact hK v _ _ ⟨by simp -implicitDefEqProofs only[go_sem,γ],by simp -implicitDefEqProofs only[go_sem,γ],by simp -implicitDefEqProofs only[go_sem,γ],by simp -implicitDefEqProofs only[go_sem,γ],by simp -implicitDefEqProofs only[go_sem,γ],by simp -implicitDefEqProofs only[go_sem,γ],by simp -implicitDefEqProofs only[go_sem,γ]⟩ hO
theorem aJS {C:Ctx} (L:iK C) (f:aG) (hf:f.Ok) (hs:f.policies.length≤4) (hm:f.models.length≤4) (b0:Bool) (w3 w4 w5 w7:PV) (K:bZ) (F:PF) (H:PH) (hv:iR F f w3 w4 w5 .nils w7 b0)
  (h67:F 174=some (.sl 17 (f.policies.map cG.cells))) (h68:F 175=some (.int .i64 (f.policies.length:Nat))) (h69:F 176=some (.int .i64 0))
  (hK:∀ v F' H',iR F' f w3 w4 w5 v w7 (b0&&f.policies.all (iH f.models.length))→bB H' 1 v (eF (f.policies.map cG.name))→K (.exit 8) F' H') :
  aD.wp C (.loop CZ) K F H:=by
 refine wp_loop (α:=Nat × PV × PH) (fun t=>(((gG f w3 w4 w5 t.2.1 w7 (b0&&gD f.policies (iH f.models.length) t.1)).set 174 (.sl 17 (f.policies.map cG.cells))).set 175 (.int .i64 (f.policies.length:Nat))).set 176 (.int .i64 t.1)) (fun t=>t.2.2)
  (fun t=>t.1≤f.policies.length∧bB t.2.2 1 t.2.1 (eF ((f.policies.map cG.name).take t.1))) (fun t=>f.policies.length-t.1) (0,.nils,.nil) ⟨bhE _,.nil⟩ ?_ PH.nil_le ?_
 ·unfold gG
  (repeat' (first|exact PF.nil_le|refine PF.aA ?_ ?_))<;>first|(simp -implicitDefEqProofs only[go_sem,hv.a1,hv.a3,hv.a4,hv.a5,hv.a6,hv.a7,hv.a8,h67,h68,h69,pR,bjD]<;>rfl)|rfl
 rintro⟨k,v,H0⟩ ⟨hk,hO⟩
 simp only at hk hO ⊢
 simp -implicitDefEqProofs only[go_sem,γ,CZ,aqK,gG]
 by_cases hlt:k<f.policies.length
 ·have hlt':(k:Int)<(f.policies.length:Nat):=by omega
  have hr:(f.policies.map cG.cells)[k]?=some (f.policies[k]).cells:=by simp[hlt]
  have hsn:=sX (f.policies.map cG.name) (k:=k) (by simpa using hlt)
  rw[biI] at hsn
  simp -implicitDefEqProofs only[go_sem,δ,γ,hlt',aqL,hr]
  refine aQ fun o ho=>?_
  simp -implicitDefEqProofs only[go_sem,υ,δ,γ,η,θ,ζ,aqM]
  refine kO hO ho (pG (by simp; omega)) fun v' H' hO' ho'=>?_
  rw[hsn] at hO'
  have hstep:=pQ f.policies (iH f.models.length) hlt
  have fin:∀ (c:Bool) (F':PF),c=(b0&&gD f.policies (iH f.models.length) (k+1))→((((gG f w3 w4 w5 v' w7 c).set 174 (.sl 17 (f.policies.map cG.cells))).set 175 (.int .i64 (f.policies.length:Nat))).set 176 (.int .i64 (k+1:Nat))).le F' →
    eZ (fun (t:Nat × PV × PH)=>(((gG f w3 w4 w5 t.2.1 w7 (b0&&gD f.policies (iH f.models.length) t.1)).set 174 (.sl 17 (f.policies.map cG.cells))).set 175 (.int .i64 (f.policies.length:Nat))).set 176 (.int .i64 t.1)) (fun (t:Nat × PV × PH)=>t.2.2)  (fun (t:Nat × PV × PH)=>t.1≤f.policies.length∧bB t.2.2 1 t.2.1 (eF ((f.policies.map cG.name).take t.1))) (fun (t:Nat × PV × PH)=>f.policies.length-t.1) (f.policies.length-k) K .normal F' H':=by
   intro c F' hc hle
   refine aI (α:=Nat × PV × PH) (k+1,v',H') ⟨hlt,hO'⟩ (by simp only; omega) ?_ PH.le_refl
   rw[hc] at hle
   exact hle
  unfold gG at fin
  rw[hstep,← Bool.and_assoc] at fin
  cases hb:(b0&&gD f.policies (iH f.models.length) k) with
  | false =>
   rw[hb,bhG] at fin
   simp -implicitDefEqProofs only[go_sem,γ,reduceCtorEq,RZ,ho',SA,aK (show k<9223372036854775807 by omega)]
   refine fin false _ rfl ?_
   (repeat' (first|exact PF.nil_le|refine PF.aA ?_ ?_))<;>first|(simp -implicitDefEqProofs only[go_sem,γ]<;>rfl)|rfl
  | true =>
   rw[hb,bhP] at fin
   simp -implicitDefEqProofs only[go_sem,δ,γ,θ,RZ,ho',bgT]
   refine aB (L.pol _ _ (hf.policy _ (bgY hlt)) hm) (by simp -implicitDefEqProofs only[go_sem,γ]<;>rfl) ?_
   simp -implicitDefEqProofs only[go_sem,γ,SA,aK (show k<9223372036854775807 by omega)]
   refine fin _ _ rfl ?_
   (repeat' (first|exact PF.nil_le|refine PF.aA ?_ ?_))<;>first|(simp -implicitDefEqProofs only[go_sem,γ]<;>rfl)|rfl
 ·have hlt':¬ (k:Int)<(f.policies.length:Nat):=by omega
  have:k=f.policies.length:=by omega
  subst this
  rw[bhI (by simp)] at hO
  rw[sI]
  simp -implicitDefEqProofs only[go_sem,hlt']
  exact hK v _ _ ⟨by simp -implicitDefEqProofs only[go_sem,γ],by simp -implicitDefEqProofs only[go_sem,γ],by simp -implicitDefEqProofs only[go_sem,γ],by simp -implicitDefEqProofs only[go_sem,γ],by simp -implicitDefEqProofs only[go_sem,γ],by simp -implicitDefEqProofs only[go_sem,γ],by simp -implicitDefEqProofs only[go_sem,γ]⟩ hO
theorem aJT {C:Ctx} (L:iK C) (f:aG) (hs:f.volumes.length≤12) (hl:f.policies.length≤4) (b0:Bool) (w3 w4 w5 w6:PV) (K:bZ) (F:PF) (H:PH) (hv:iR F f w3 w4 w5 w6 .nils b0)
  (h67:F 195=some (.sl 2 (f.volumes.map fK.cells))) (h68:F 196=some (.int .i64 (f.volumes.length:Nat))) (h69:F 197=some (.int .i64 0))
  (hK:∀ v F' H',iR F' f w3 w4 w5 w6 v (b0&&f.volumes.all (lW f))→bB H' 1 v (eF (f.volumes.map fK.name))→K (.exit 10) F' H') :
  aD.wp C (.loop DA) K F H:=by
 refine wp_loop (α:=Nat × PV × PH) (fun t=>(((gG f w3 w4 w5 w6 t.2.1 (b0&&gD f.volumes (lW f) t.1)).set 195 (.sl 2 (f.volumes.map fK.cells))).set 196 (.int .i64 (f.volumes.length:Nat))).set 197 (.int .i64 t.1)) (fun t=>t.2.2)
  (fun t=>t.1≤f.volumes.length∧bB t.2.2 1 t.2.1 (eF ((f.volumes.map fK.name).take t.1))) (fun t=>f.volumes.length-t.1) (0,.nils,.nil) ⟨bhE _,.nil⟩ ?_ PH.nil_le ?_
 ·unfold gG
  (repeat' (first|exact PF.nil_le|refine PF.aA ?_ ?_))<;>first|(simp -implicitDefEqProofs only[go_sem,hv.a1,hv.a3,hv.a4,hv.a5,hv.a6,hv.a7,hv.a8,h67,h68,h69,pR,bjD]<;>rfl)|rfl
 rintro⟨k,v,H0⟩ ⟨hk,hO⟩
 simp only at hk hO ⊢
 simp -implicitDefEqProofs only[go_sem,γ,DA,aqN,gG]
 by_cases hlt:k<f.volumes.length
 ·have hlt':(k:Int)<(f.volumes.length:Nat):=by omega
  have hr:(f.volumes.map fK.cells)[k]?=some (f.volumes[k]).cells:=by simp[hlt]
  have hsn:=sX (f.volumes.map fK.name) (k:=k) (by simpa using hlt)
  rw[biI] at hsn
  simp -implicitDefEqProofs only[go_sem,δ,γ,hlt',aqO,hr]
  refine aQ fun o ho=>?_
  simp -implicitDefEqProofs only[go_sem,υ,δ,γ,η,θ,ζ,aqP]
  refine kO hO ho (pG (by simp; omega)) fun v' H' hO' ho'=>?_
  rw[hsn] at hO'
  have hstep:=pQ f.volumes (lW f) hlt
  have fin:∀ (c:Bool) (F':PF),c=(b0&&gD f.volumes (lW f) (k+1))→((((gG f w3 w4 w5 w6 v' c).set 195 (.sl 2 (f.volumes.map fK.cells))).set 196 (.int .i64 (f.volumes.length:Nat))).set 197 (.int .i64 (k+1:Nat))).le F' →
    eZ (fun (t:Nat × PV × PH)=>(((gG f w3 w4 w5 w6 t.2.1 (b0&&gD f.volumes (lW f) t.1)).set 195 (.sl 2 (f.volumes.map fK.cells))).set 196 (.int .i64 (f.volumes.length:Nat))).set 197 (.int .i64 t.1)) (fun (t:Nat × PV × PH)=>t.2.2)  (fun (t:Nat × PV × PH)=>t.1≤f.volumes.length∧bB t.2.2 1 t.2.1 (eF ((f.volumes.map fK.name).take t.1))) (fun (t:Nat × PV × PH)=>f.volumes.length-t.1) (f.volumes.length-k) K .normal F' H':=by
   intro c F' hc hle
   refine aI (α:=Nat × PV × PH) (k+1,v',H') ⟨hlt,hO'⟩ (by simp only; omega) ?_ PH.le_refl
   rw[hc] at hle
   exact hle
  unfold gG at fin
  rw[hstep,← Bool.and_assoc] at fin
  have hm:lW f f.volumes[k]=within (f.volumes[k]).policy 0 ((f.policies.length:Int)-1):=rfl
  cases hb:(b0&&gD f.volumes (lW f) k) with
  | false =>
   rw[hb,bhG] at fin
   simp -implicitDefEqProofs only[go_sem,γ,reduceCtorEq,SC,ho',SD,aK (show k<9223372036854775807 by omega)]
   refine fin false _ rfl ?_
   (repeat' (first|exact PF.nil_le|refine PF.aA ?_ ?_))<;>first|(simp -implicitDefEqProofs only[go_sem,γ]<;>rfl)|rfl
  | true =>
   rw[hb,bhP,hm] at fin
   simp -implicitDefEqProofs only[go_sem,δ,γ,θ,SC,ho',bgT,xN (show f.policies.length≤1000 by omega)]
   refine aB (L.inn _ 0 _) (by simp -implicitDefEqProofs only[go_sem,γ]<;>rfl) ?_
   simp -implicitDefEqProofs only[go_sem,γ,SD,aK (show k<9223372036854775807 by omega)]
   refine fin _ _ rfl ?_
   (repeat' (first|exact PF.nil_le|refine PF.aA ?_ ?_))<;>first|(simp -implicitDefEqProofs only[go_sem,γ]<;>rfl)|rfl
 ·have hlt':¬ (k:Int)<(f.volumes.length:Nat):=by omega
  have:k=f.volumes.length:=by omega
  subst this
  rw[bhI (by simp)] at hO
  rw[sI]
  simp -implicitDefEqProofs only[go_sem,hlt']
  exact hK v _ _ ⟨by simp -implicitDefEqProofs only[go_sem,γ],by simp -implicitDefEqProofs only[go_sem,γ],by simp -implicitDefEqProofs only[go_sem,γ],by simp -implicitDefEqProofs only[go_sem,γ],by simp -implicitDefEqProofs only[go_sem,γ],by simp -implicitDefEqProofs only[go_sem,γ],by simp -implicitDefEqProofs only[go_sem,γ]⟩ hO
end Go.PM
namespace Go.PM
open Go Go.Na
theorem kY {f:aG} (h:¬ (f.laws.length≤4∧f.models.length≤4∧f.domains.length≤40∧f.drives.length≤24∧f.policies.length≤4∧f.volumes.length≤12)):mO f=false:=by
 rw[← Bool.not_eq_true]
 intro hs
 simp only[mO,bhO,decide_eq_true_eq] at hs
 omega
theorem aAS {f:aG} (h:f.laws.length≤4∧f.models.length≤4∧f.domains.length≤40∧f.drives.length≤24∧f.policies.length≤4∧f.volumes.length≤12):mO f=within f.extent 1 4:=by
 obtain⟨h1,h2,h3,h4,h5,h6⟩:=h
 simp[mO,h1,h2,h3,h4,h5,h6]
theorem fH {t:Nat} {n m:Int} {F:PF} {H:PH} (h:F t=some (.int .i64 n)) (e:n=m):aY [.tmp t] (bY (.int .i64 m)) .ret F H:=by
 subst e
 exact aW (.inr rfl) .nil (vs:=[.int .i64 n]) (by rw[jO,lP,h,nG]) PH.nil_le ⟨.refl _,rfl⟩
def GB (f:aG):Int:=if cU f then 0 else 1
theorem aMT {f:aG} (h:cU f=false):GB f=1:=by rw[GB,h]; rfl
theorem qX {C:Ctx} {F:PF} {H:PH} {name t s:Nat} {v r:PV} {rows:List (List PV)} {d:Option Nat} {K:PF→PH→Prop} (h:aJ C name [.sl s rows] .nil (aL r)) (hO:bB H s v rows) (ht:F t=some v)
  (hK:∀ (F1:PF) (H1:PH),(∀ i u,F i=some u→Pure u→F1 i=some u)→K (F1.put d r) H1):gC C name [.tmp t] [] d K F H:=by
 rcases hO with ⟨rfl,rfl⟩ | ⟨q,rs,rfl,h1,h2,h3⟩
 ·refine aB (h.aMB (.inl ⟨rfl,rfl⟩)) (by rw[uZ,UY,ht,MM]) ?_
  exact hK F H fun i u hi _=>hi
 ·rw[← h3] at h
  refine nL (k:=rows.length) h ht h1 h2 (hK _ _ fun i u hi hp=>?_)
  rw[qB,hi,biD,hp q s rs]
theorem Seen.pure {s:Nat} {v:PV} {rows:List (List PV)} (h:Seen s v rows):Pure v:=by
 rcases h with ⟨_,rfl⟩ | rfl
 ·exact fun _ _ _=>rfl
 ·exact fun _ _ _=>rfl
def bI (b:Bool):Int:=if b then 0 else 1
abbrev NE (f:aG):List (List UInt8):=(f.domains.drop 1).map cK.name++f.drives.map cQ.name
def sG (f:aG):Bool:=distinct (f.laws.map cM.name)&&distinct (f.models.map cT.name)&&distinct (NE f)&&distinct (f.policies.map cG.name)&&distinct (f.volumes.map fK.name)
structure Small (f:aG):Prop where
 laws:f.laws.length≤4
 models:f.models.length≤4
 domains:f.domains.length≤40
 drives:f.drives.length≤24
 policies:f.policies.length≤4
 volumes:f.volumes.length≤12
theorem wW {C:Ctx} (L:iK C) {v:PV} {l:List (List UInt8)} (h:Seen 1 v (eF l)) (hl:l.length≤1000):aJ C 110 [v] .nil (aL (.bool (distinct l))) :=
 (L.uniq l (show l.length≤9223372036854775807 by omega)).aMB h
theorem aUW {C:Ctx} (L:iK C) (f:aG) (hs:Small f) (w3 w4 w5 w6 w7:PV) (ok:Bool) (F:PF) (H:PH) (hv:iR F f w3 w4 w5 w6 w7 ok)
  (h3:Seen 1 w3 (eF (f.laws.map cM.name))) (h4:Seen 1 w4 (eF (f.models.map cT.name))) (h5:Seen 1 w5 (eF (NE f))) (h6:Seen 1 w6 (eF (f.policies.map cG.name))) (h7:bB H 1 w7 (eF (f.volumes.map fK.name))) :
  aD.wp C (.seq (.seq (.region vI) (.cond (.tmp 243) (.seq (.region lE) .ret) .skip)) (.seq (.region DB) .ret)) (aY [.tmp 2] (bY (.int .i64 (bI (ok&&sG f))))) F H:=by
 obtain⟨s1,s2,s3,s4,s5,s6⟩:=hs
 have l3:(f.laws.map cM.name).length≤1000:=by simp; omega
 have l4:(f.models.map cT.name).length≤1000:=by simp; omega
 have l5:(NE f).length≤1000:=by simp; omega
 have l6:(f.policies.map cG.name).length≤1000:=by simp; omega
 have l7:(f.volumes.map fK.name).length≤9223372036854775807:=by simp; omega
 cases ok with
 | false =>
  simp -implicitDefEqProofs only[go_sem,γ,vI,hv.a8,lE]
  exact fH rfl rfl
 | true =>
  simp -implicitDefEqProofs only[go_sem,γ,vI,hv.a8,hv.a3]
  refine aB (wW L h3 l3) rfl ?_
  unfold sG
  cases c1:distinct (f.laws.map cM.name) with
  | false =>
   simp -implicitDefEqProofs only[go_sem,γ,reduceCtorEq,lE,bhN]
   exact fH rfl rfl
  | true =>
   simp -implicitDefEqProofs only[go_sem,γ,reduceCtorEq,hv.a4,bhC]
   refine aB (wW L h4 l4) rfl ?_
   cases c2:distinct (f.models.map cT.name) with
   | false =>
    simp -implicitDefEqProofs only[go_sem,γ,reduceCtorEq,lE,bhN]
    exact fH rfl rfl
   | true =>
    simp -implicitDefEqProofs only[go_sem,γ,reduceCtorEq,hv.a5,bhC]
    refine aB (wW L h5 l5) rfl ?_
    cases c3:distinct (NE f) with
    | false =>
     simp -implicitDefEqProofs only[go_sem,γ,reduceCtorEq,lE,bhN]
     exact fH rfl rfl
    | true =>
     simp -implicitDefEqProofs only[go_sem,γ,reduceCtorEq,hv.a6,bhC]
     refine aB (wW L h6 l6) rfl ?_
     cases c4:distinct (f.policies.map cG.name) with
     | false =>
      simp -implicitDefEqProofs only[go_sem,γ,reduceCtorEq,lE,bhN]
      exact fH rfl rfl
     | true =>
      simp -implicitDefEqProofs only[go_sem,γ,reduceCtorEq,hv.a7,bhC]
      refine qX (L.uniq _ l7) h7 rfl fun F1 H1 hp=>?_
      have g:F1 239=some (.bool false):=hp 239 _ rfl fun _ _ _=>rfl
      cases c5:distinct (f.volumes.map fK.name) with
      | false =>
       simp -implicitDefEqProofs only[go_sem,γ,reduceCtorEq,lE,bhN,g]
       exact fH rfl rfl
      | true =>
       simp -implicitDefEqProofs only[go_sem,γ,reduceCtorEq,DB,bhC,g]
       exact fH rfl rfl
abbrev adG (b:Bool):bZ:=aY [.tmp 2] (bY (.int .i64 (bI b)))
def alO:aD:=.seq (.seq (.region SB) (.block 10 (.loop DA))) (.seq (.seq (.region vI) (.cond (.tmp 243) (.seq (.region lE) .ret) .skip)) (.seq (.region DB) .ret))
def alN:aD:=.seq (.seq (.region RY) (.block 8 (.loop CZ))) alO
def alM:aD:=.seq (.seq (.region RW) (.block 6 (.loop CY))) alN
def alL:aD:=.seq (.seq (.region RV) (.block 4 (.loop CX))) alM
def alK:aD:=.seq (.seq (.region RT) (.block 2 (.loop CW))) alL
def aMS:aD:=.seq (.seq (.region abQ) (.block 0 (.loop CV))) alK
theorem a0W {C:Ctx} (L:iK C) (f:aG) (hs:Small f) (w3 w4 w5 w6:PV) (ok:Bool) (F:PF) (H:PH) (hv:iR F f w3 w4 w5 w6 .nils ok)
  (h3:Seen 1 w3 (eF (f.laws.map cM.name))) (h4:Seen 1 w4 (eF (f.models.map cT.name))) (h5:Seen 1 w5 (eF (NE f))) (h6:bB H 1 w6 (eF (f.policies.map cG.name))) :
  aD.wp C alO (adG (ok&&f.volumes.all (lW f)&&sG f)) F H:=by
 unfold alO
 simp -implicitDefEqProofs only[go_sem,γ,SB,hv.a1,bgT]
 refine nM h6 fun v1 hv1 F1 H1 ht hp=>?_
 refine aJT L f hs.volumes hs.policies ok w3 w4 w5 v1 _ F1 H1 ⟨hp 1 _ (by simp -implicitDefEqProofs only[go_sem,γ,hv.a1]) fun _ _ _=>rfl,hp 3 _ (by simp -implicitDefEqProofs only[go_sem,γ,hv.a3]) h3.pure,hp 4 _ (by simp -implicitDefEqProofs only[go_sem,γ,hv.a4]) h4.pure,hp 5 _ (by simp -implicitDefEqProofs only[go_sem,γ,hv.a5]) h5.pure,ht 6 (by simp -implicitDefEqProofs only[go_sem,γ,hv.a6]),hp 7 _ (by simp -implicitDefEqProofs only[go_sem,γ,hv.a7]) fun _ _ _=>rfl,hp 8 _ (by simp -implicitDefEqProofs only[go_sem,γ,hv.a8]) fun _ _ _=>rfl⟩
  (hp 195 _ rfl fun _ _ _=>rfl) (hp 196 _ rfl fun _ _ _=>rfl) (hp 197 _ rfl fun _ _ _=>rfl) fun v F' H' hv' hO=>?_
 have e:=aUW L f hs w3 w4 w5 v1 v _ F' H' hv' h3 h4 h5 hv1 hO
 simp only[aD.wp,go_sem] at e
 simp -implicitDefEqProofs only[go_sem]
 exact e
theorem a0V {C:Ctx} (L:iK C) (f:aG) (hf:f.Ok) (hs:Small f) (w3 w4 w5:PV) (ok:Bool) (F:PF) (H:PH) (hv:iR F f w3 w4 w5 .nils .nils ok)
  (h3:Seen 1 w3 (eF (f.laws.map cM.name))) (h4:Seen 1 w4 (eF (f.models.map cT.name))) (h5:bB H 1 w5 (eF (NE f))) :
  aD.wp C alN (adG (ok&&f.policies.all (iH f.models.length)&&f.volumes.all (lW f)&&sG f)) F H:=by
 unfold alN
 simp -implicitDefEqProofs only[go_sem,δ,γ,θ,RY,hv.a1,bgT]
 refine nM h5 fun v1 hv1 F1 H1 ht hp=>?_
 refine aJS L f hf hs.policies hs.models ok w3 w4 v1 .nils _ F1 H1 ⟨hp 1 _ (by simp -implicitDefEqProofs only[go_sem,γ,hv.a1]) fun _ _ _=>rfl,hp 3 _ (by simp -implicitDefEqProofs only[go_sem,γ,hv.a3]) h3.pure,hp 4 _ (by simp -implicitDefEqProofs only[go_sem,γ,hv.a4]) h4.pure,ht 5 (by simp -implicitDefEqProofs only[go_sem,γ,hv.a5]),hp 6 _ (by simp -implicitDefEqProofs only[go_sem,γ,hv.a6]) fun _ _ _=>rfl,hp 7 _ (by simp -implicitDefEqProofs only[go_sem,γ,hv.a7]) fun _ _ _=>rfl,hp 8 _ (by simp -implicitDefEqProofs only[go_sem,γ,hv.a8]) fun _ _ _=>rfl⟩
  (hp 174 _ rfl fun _ _ _=>rfl) (hp 175 _ rfl fun _ _ _=>rfl) (hp 176 _ rfl fun _ _ _=>rfl) fun v F' H' hv' hO=>?_
 simp -implicitDefEqProofs only[go_sem]
 exact a0W L f hs w3 w4 v1 v _ F' H' hv' h3 h4 hv1 hO
theorem a0U {C:Ctx} (L:iK C) (f:aG) (hf:f.Ok) (hs:Small f) (w3 w4 w5:PV) (ok:Bool) (F:PF) (H:PH) (hv:iR F f w3 w4 w5 .nils .nils ok)
  (h3:Seen 1 w3 (eF (f.laws.map cM.name))) (h4:Seen 1 w4 (eF (f.models.map cT.name))) (h5:bB H 1 w5 (eF ((f.domains.drop 1).map cK.name))) :
  aD.wp C alM (adG (ok&&f.drives.all (iO f)&&f.policies.all (iH f.models.length)&&f.volumes.all (lW f)&&sG f)) F H:=by
 unfold alM
 simp -implicitDefEqProofs only[go_sem,δ,γ,θ,RW,hv.a1,bgT]
 refine aJR L f ((f.domains.drop 1).map cK.name) (by have:=hs.domains; simp; omega) hs.drives hs.models hs.domains ok w3 w4 w5 .nils .nils _ _ H ⟨by simp -implicitDefEqProofs only[go_sem,γ,hv.a1],by simp -implicitDefEqProofs only[go_sem,γ,hv.a3],by simp -implicitDefEqProofs only[go_sem,γ,hv.a4],by simp -implicitDefEqProofs only[go_sem,γ,hv.a5],by simp -implicitDefEqProofs only[go_sem,γ,hv.a6],by simp -implicitDefEqProofs only[go_sem,γ,hv.a7],by simp -implicitDefEqProofs only[go_sem,γ,hv.a8]⟩ h5
  rfl rfl rfl fun v F' H' hv' hO=>?_
 simp -implicitDefEqProofs only[go_sem]
 exact a0V L f hf hs w3 w4 v _ F' H' hv' h3 h4 hO
theorem a0T {C:Ctx} (L:iK C) (f:aG) (hf:f.Ok) (hs:Small f) (hd:0<f.domains.length) (w3 w4:PV) (ok:Bool) (F:PF) (H:PH) (hv:iR F f w3 w4 .nils .nils .nils ok)
  (h3:Seen 1 w3 (eF (f.laws.map cM.name))) (h4:bB H 1 w4 (eF (f.models.map cT.name))) :
  aD.wp C alL (adG (ok&&f.drives.all (iO f)&&f.policies.all (iH f.models.length)&&f.volumes.all (lW f)&&sG f)) F H:=by
 unfold alL
 have hsl:(1:Int)≤(f.domains.length:Nat):=by omega
 have hsd:=hs.domains
 have hdrop:((f.domains.map cK.cells).take f.domains.length).drop 1=(f.domains.drop 1).map cK.cells:=by
  rw[bhI (by simp),List.map_drop]
 simp -implicitDefEqProofs only[go_sem,κ,ν,δ,γ,θ,reduceCtorEq,RV,hv.a1,bgT,hsl,bjT,hdrop]
 refine nM h4 fun v1 hv1 F1 H1 ht hp=>?_
 refine aJQ L f (f.domains.drop 1) (by simp; omega) ok w3 v1 .nils .nils _ F1 H1 ⟨hp 1 _ (by simp -implicitDefEqProofs only[go_sem,γ,hv.a1]) fun _ _ _=>rfl,hp 3 _ (by simp -implicitDefEqProofs only[go_sem,γ,hv.a3]) h3.pure,ht 4 (by simp -implicitDefEqProofs only[go_sem,γ,hv.a4]),hp 5 _ (by simp -implicitDefEqProofs only[go_sem,γ,hv.a5]) fun _ _ _=>rfl,hp 6 _ (by simp -implicitDefEqProofs only[go_sem,γ,hv.a6]) fun _ _ _=>rfl,hp 7 _ (by simp -implicitDefEqProofs only[go_sem,γ,hv.a7]) fun _ _ _=>rfl,hp 8 _ (by simp -implicitDefEqProofs only[go_sem,γ,hv.a8]) fun _ _ _=>rfl⟩
  (hp 119 _ rfl fun _ _ _=>rfl) (hp 120 _ rfl fun _ _ _=>rfl) (hp 121 _ rfl fun _ _ _=>rfl) fun v F' H' hv' hO=>?_
 simp -implicitDefEqProofs only[go_sem]
 exact a0U L f hf hs w3 v1 v _ F' H' hv' h3 hv1 hO
theorem a0S {C:Ctx} (L:iK C) (f:aG) (hf:f.Ok) (hs:Small f) (hd:0<f.domains.length) (w3:PV) (ok:Bool) (F:PF) (H:PH) (hv:iR F f w3 .nils .nils .nils .nils ok)
  (h3:bB H 1 w3 (eF (f.laws.map cM.name))) :
  aD.wp C alK (adG (ok&&f.models.all (kC f)&&f.drives.all (iO f)&&f.policies.all (iH f.models.length)&&f.volumes.all (lW f)&&sG f)) F H:=by
 unfold alK
 simp -implicitDefEqProofs only[go_sem,δ,γ,θ,RT,hv.a1,bgT]
 refine nM h3 fun v1 hv1 F1 H1 ht hp=>?_
 refine aJP L f hs.models hs.laws ok v1 .nils .nils .nils _ F1 H1 ⟨hp 1 _ (by simp -implicitDefEqProofs only[go_sem,γ,hv.a1]) fun _ _ _=>rfl,ht 3 (by simp -implicitDefEqProofs only[go_sem,γ,hv.a3]),hp 4 _ (by simp -implicitDefEqProofs only[go_sem,γ,hv.a4]) fun _ _ _=>rfl,hp 5 _ (by simp -implicitDefEqProofs only[go_sem,γ,hv.a5]) fun _ _ _=>rfl,hp 6 _ (by simp -implicitDefEqProofs only[go_sem,γ,hv.a6]) fun _ _ _=>rfl,hp 7 _ (by simp -implicitDefEqProofs only[go_sem,γ,hv.a7]) fun _ _ _=>rfl,hp 8 _ (by simp -implicitDefEqProofs only[go_sem,γ,hv.a8]) fun _ _ _=>rfl⟩
  (hp 85 _ rfl fun _ _ _=>rfl) (hp 86 _ rfl fun _ _ _=>rfl) (hp 87 _ rfl fun _ _ _=>rfl) fun v F' H' hv' hO=>?_
 simp -implicitDefEqProofs only[go_sem]
 exact a0T L f hf hs hd v1 v _ F' H' hv' hv1 hO
theorem a0R {C:Ctx} (L:iK C) (f:aG) (hf:f.Ok) (hs:Small f) (hd:0<f.domains.length) (F:PF) (H:PH) (hv:iR F f .nils .nils .nils .nils .nils true) :
  aD.wp C aMS (adG (f.laws.all oP&&f.models.all (kC f)&&f.drives.all (iO f)&&f.policies.all (iH f.models.length)&&f.volumes.all (lW f)&&sG f)) F H:=by
 unfold aMS
 simp -implicitDefEqProofs only[go_sem,δ,γ,θ,abQ,hv.a1,bgT]
 refine aJO L f hf hs.laws .nils .nils .nils .nils _ _ H ⟨by simp -implicitDefEqProofs only[go_sem,γ,hv.a1],by simp -implicitDefEqProofs only[go_sem,γ,hv.a3],by simp -implicitDefEqProofs only[go_sem,γ,hv.a4],by simp -implicitDefEqProofs only[go_sem,γ,hv.a5],by simp -implicitDefEqProofs only[go_sem,γ,hv.a6],by simp -implicitDefEqProofs only[go_sem,γ,hv.a7],by simp -implicitDefEqProofs only[go_sem,γ,hv.a8]⟩ rfl rfl rfl fun v F' H' hv' hO=>?_
 simp -implicitDefEqProofs only[go_sem]
 exact a0S L f hf hs hd v _ F' H' hv' hO
theorem a0P {C:Ctx} (L:iK C) (f:aG) (hf:f.Ok):IF.wp C (aY apZ.res (bY (.int .i64 (GB f)))) (PF.args [.agg f.cells]) .nil:=by
 have he:cU f=(mO f&&lZ f&&(f.laws.all oP&&f.models.all (kC f)&&f.drives.all (iO f)&&f.policies.all (iH f.models.length)&&f.volumes.all (lW f))&&sG f):=rfl
 simp -implicitDefEqProofs only[go_sem,δ,γ,θ,IF,aDS,aDT,apZ]
 refine aB (L.inn f.extent 1 4) rfl ?_
 have bad:∀ (F:PF) (H:PH),cU f=false→F 2=some (.int .i64 1)→aY [.tmp 2] (bY (.int .i64 (GB f))) .ret F H:=fun F H h1 h2=>fH h2 (aMT h1).symm
 cases e0:within f.extent 1 4 with
 | false =>
  have:mO f=false:=by simp[mO,e0]
  simp -implicitDefEqProofs only[go_sem,γ,bhN,nA]
  exact bad _ _ (by rw[he,this]; simp only[bhG]) rfl
 | true =>
  by_cases s1:f.laws.length≤4
  ·have s1':¬ ((f.laws.length:Nat):Int)>4:=by omega
   by_cases s2:f.models.length≤4
   ·have s2':¬ ((f.models.length:Nat):Int)>4:=by omega
    by_cases s3:f.domains.length≤40
    ·have s3':¬ ((f.domains.length:Nat):Int)>40:=by omega
     by_cases s4:f.drives.length≤24
     ·have s4':¬ ((f.drives.length:Nat):Int)>24:=by omega
      by_cases s5:f.policies.length≤4
      ·have s5':¬ ((f.policies.length:Nat):Int)>4:=by omega
       by_cases s6:f.volumes.length≤12
       ·have s6':¬ ((f.volumes.length:Nat):Int)>12:=by omega
        have hsz:=aAS ⟨s1,s2,s3,s4,s5,s6⟩
        rw[e0] at hsz
        simp -implicitDefEqProofs only[go_sem,δ,γ,θ,reduceCtorEq,bhC,bgT,s1',s2',s3',s4',s5',s6']
        refine aB (L.doms f hf) rfl ?_
        cases e1:lZ f with
        | false =>
         simp -implicitDefEqProofs only[go_sem,γ,reduceCtorEq,bhN,nA]
         exact bad _ _ (by rw[he,e1]; simp only[biF,bhG]) rfl
        | true =>
         have hd:0<f.domains.length:=by
          rcases bjA f.domains.length with h | h
          ·have:f.domains=[]:=List.eq_nil_of_length_eq_zero h
           rw[lZ,this] at e1
           cases e1
          ·exact h
         have hz:GB f=bI (f.laws.all oP&&f.models.all (kC f)&&f.drives.all (iO f)&&f.policies.all (iH f.models.length)&&f.volumes.all (lW f)&&sG f):=by
          rw[GB,he,hsz,e1]; rfl
         rw[hz]
         simp -implicitDefEqProofs only[go_sem,γ,reduceCtorEq,bhC,aDU,aDV]
         have e:=fun F H hv=>a0R L f hf ⟨s1,s2,s3,s4,s5,s6⟩ hd F H hv
         simp only[aMS,alK,alL,alM,alN,alO,aD.wp,go_sem] at e
         exact e _ _ ⟨by simp -implicitDefEqProofs only[go_sem,γ],by simp -implicitDefEqProofs only[go_sem,γ],by simp -implicitDefEqProofs only[go_sem,γ],by simp -implicitDefEqProofs only[go_sem,γ],by simp -implicitDefEqProofs only[go_sem,γ],by simp -implicitDefEqProofs only[go_sem,γ],by simp -implicitDefEqProofs only[go_sem,γ]⟩
       ·have s6':((f.volumes.length:Nat):Int)>12:=by omega
        simp -implicitDefEqProofs only[go_sem,δ,γ,θ,reduceCtorEq,bhC,bgT,s1',s2',s3',s4',s5',s6',nA]
        exact bad _ _ (by rw[he,kY (by omega)]; simp only[bhG]) rfl
      ·have s5':((f.policies.length:Nat):Int)>4:=by omega
       simp -implicitDefEqProofs only[go_sem,δ,γ,θ,reduceCtorEq,bhC,bgT,s1',s2',s3',s4',s5',nA]
       exact bad _ _ (by rw[he,kY (by omega)]; simp only[bhG]) rfl
     ·have s4':((f.drives.length:Nat):Int)>24:=by omega
      simp -implicitDefEqProofs only[go_sem,δ,γ,θ,reduceCtorEq,bhC,bgT,s1',s2',s3',s4',nA]
      exact bad _ _ (by rw[he,kY (by omega)]; simp only[bhG]) rfl
    ·have s3':((f.domains.length:Nat):Int)>40:=by omega
     simp -implicitDefEqProofs only[go_sem,δ,γ,θ,reduceCtorEq,bhC,bgT,s1',s2',s3',nA]
     exact bad _ _ (by rw[he,kY (by omega)]; simp only[bhG]) rfl
   ·have s2':((f.models.length:Nat):Int)>4:=by omega
    simp -implicitDefEqProofs only[go_sem,δ,γ,θ,reduceCtorEq,bhC,bgT,s1',s2',nA]
    exact bad _ _ (by rw[he,kY (by omega)]; simp only[bhG]) rfl
  ·have s1':((f.laws.length:Nat):Int)>4:=by omega
   simp -implicitDefEqProofs only[go_sem,δ,γ,θ,reduceCtorEq,bhC,bgT,s1',nA]
   exact bad _ _ (by rw[he,kY (by omega)]; simp only[bhG]) rfl
end Go.PM
namespace Go.PM
open Go Go.Na
def lvl (f:aG) (i:Nat):Int:=(f.domains.map cK.level).getD i 0
def par (f:aG) (i:Nat):Int:=(f.domains.map cK.parent).getD i 0
def TQ (f:aG) (i:Nat):Nat:=(par f i).toNat
def fG (f:aG) (d:Nat):Nat:=((f.drives.map cQ.machine).getD d 0).toNat
def mdl (f:aG) (d:Nat):Nat:=((f.drives.map cQ.model).getD d 0).toNat
def ext (f:aG) (d:Nat):Int:=(f.models.map cT.extents).getD (mdl f d) 0
def JY (f:aG) (v:Nat):Nat:=((f.volumes.map fK.policy).getD v 0).toNat
def a8A:cG:=⟨[],0,0,0,0,0,0,0,0,[],[],⟨false,[],[]⟩,⟨false,[],[]⟩⟩
def eJ (f:aG) (v:Nat):cG:=f.policies.getD (JY f v) a8A
def upN (f:aG):Nat→Nat→Nat
 | 0,i=>i
 | k+1,i=>TQ f (upN f k i)
theorem getD_at {α β:Type} {l:List α} {g:α→β} {i:Nat} {b:β} (h:i<l.length):(l.map g).getD i b=g l[i]:=by
 simp[bhQ,h]
structure VF (f:aG):Prop where
 small:Small f
 root:0<f.domains.length∧lvl f 0=0∧par f 0=-1
 dom:∀ i,0<i→i<f.domains.length→0≤par f i∧TQ f i<i∧lvl f (TQ f i)=lvl f i-1∧1≤lvl f i∧lvl f i≤4
 drive:∀ d (h:d<f.drives.length),0≤(f.drives[d]).model∧mdl f d<f.models.length∧0≤(f.drives[d]).machine∧fG f d<f.domains.length∧lvl f (fG f d)=4
 policy:∀ p∈f.policies,1≤p.k∧p.k≤6∧0≤p.m∧p.m≤4∧p.k+p.m≤8∧p.s0=0∧(∀ l,0≤p.spread l∧p.spread l≤8)∧∀ m∈p.models,0≤m∧m<f.models.length
 volume:∀ v (h:v<f.volumes.length),0≤(f.volumes[v]).policy∧JY f v<f.policies.length
 model:∀ m∈f.models,1≤m.extents∧m.extents≤16
theorem a2D {p:cG} {n:Nat} (h:iH n p=true):∀ m∈p.models,0≤m∧m<n:=by
 intro m hm
 simp only[iH,bhO] at h
 obtain⟨i,hi,rfl⟩:=biL hm
 have:=bhW.1 h.2 i (biM.2 hi)
 rw[bhO] at this
 have h1:=within_iff.1 this.1
 simp only[bhQ,bhH hi,bjP] at h1
 omega
theorem aaX {x:Int} (h1:1≤x) (h2:x≤4):IntKind.i64.wrap (x-1)=x-1:=wrap_i64 (by omega) (by omega)
theorem VF.of {f:aG} (h:cU f=true):VF f:=by
 simp only[cU,bhO] at h
 obtain⟨⟨⟨hs,hd⟩,⟨⟨⟨hlaw,hmod⟩,hdrv⟩,hpol⟩,hvol⟩,-⟩:=h
 simp only[mO,bhO,decide_eq_true_eq] at hs
 obtain⟨⟨⟨⟨⟨⟨s0,s1⟩,s2⟩,s3⟩,s4⟩,s5⟩,s6⟩:=hs
 cases hdm:f.domains with
 | nil=>rw[lZ,hdm] at hd; cases hd
 | cons r t =>
  rw[lZ,hdm] at hd
  simp only[MK,bhO,decide_eq_true_eq] at hd
  obtain⟨⟨⟨⟨⟨⟨r1,r2⟩,r3⟩,r4⟩,r5⟩,r6⟩,hall⟩:=hd
  have hlen:f.domains.length=t.length+1:=by rw[hdm]; rfl
  refine⟨⟨s1,s2,s3,s4,s5,s6⟩,⟨by omega,by rw[lvl,hdm]; exact r2,by rw[par,hdm]; exact r3⟩,?_,?_,?_,?_,?_⟩
  ·intro i h0 hi
   obtain⟨k,rfl⟩:∃ k,i=k+1:=⟨i-1,by omega⟩
   have hk:k<t.length:=by omega
   have:=bhW.1 hall k (biM.2 hk)
   rw[bhH hk] at this
   simp only[RC,bhO,decide_eq_true_eq] at this
   obtain⟨⟨⟨⟨d1,d2⟩,d3⟩,d4⟩,d5⟩:=this
   obtain⟨p0,p1⟩:=within_iff.1 d1
   obtain⟨l1,l4⟩:=within_iff.1 d3
   have e1:par f (k+1)=(t[k]).parent:=by rw[par,hdm]; simp[bhQ,hk]
   have e2:lvl f (k+1)=(t[k]).level:=by rw[lvl,hdm]; simp[bhQ,hk]
   rw[aaX l1 l4] at d2
   have e3:lvl f (t[k]).parent.toNat=(t[k]).level-1:=d2
   refine⟨by rw[e1]; exact p0,?_,?_,by rw[e2]; exact l1,by rw[e2]; exact l4⟩
   ·rw[TQ,e1]; omega
   ·rw[TQ,e1,e2]; exact e3
  ·intro d hd
   have:=bhW.1 hdrv _ (bgY hd)
   simp only[iO,bhO,decide_eq_true_eq] at this
   obtain⟨⟨d1,d2⟩,d3⟩:=this
   have a1:=within_iff.1 d1
   have a2:=within_iff.1 d2
   have e1:mdl f d=(f.drives[d]).model.toNat:=by rw[mdl,getD_at hd]
   have e2:fG f d=(f.drives[d]).machine.toNat:=by rw[fG,getD_at hd]
   refine⟨a1.1,by rw[e1]; omega,a2.1,by rw[e2]; omega,by rw[e2]; exact d3⟩
  ·intro p hp
   have h1:=bhW.1 hpol p hp
   have h2:=a2D h1
   simp only[iH,TM,bhO,decide_eq_true_eq,List.all_cons,List.all_nil,bjD] at h1
   obtain⟨⟨⟨⟨⟨⟨⟨⟨k1,m1⟩,km⟩,q1⟩,z0⟩,sp⟩,-⟩,-⟩,-⟩:=h1
   obtain⟨g0,g1,g2,g3,g4⟩:=sp
   have b1:=within_iff.1 k1
   have b2:=within_iff.1 m1
   have b3:=within_iff.1 g0
   have b4:=within_iff.1 g1
   have b5:=within_iff.1 g2
   have b6:=within_iff.1 g3
   have b7:=within_iff.1 g4
   refine⟨b1.1,b1.2,b2.1,b2.2,km,z0,fun l=>?_,h2⟩
   unfold cG.spread
   split<;>omega
  ·intro v hv
   have:=bhW.1 hvol _ (bgY hv)
   have a1:=within_iff.1 this
   have e1:JY f v=(f.volumes[v]).policy.toNat:=by rw[JY,getD_at hv]
   exact⟨a1.1,by rw[e1]; omega⟩
  ·intro m hm
   have:=bhW.1 hmod m hm
   simp only[kC,bhO] at this
   exact within_iff.1 this.1.1
theorem LZ {f:aG} (h:VF f) {d:Nat} (hd:d<f.drives.length):∀ {k:Nat},k≤4→upN f k (fG f d)<f.domains.length∧lvl f (upN f k (fG f d))=4-(k:Int)
 | 0,_=>⟨(h.drive d hd).2.2.2.1,by rw[upN,(h.drive d hd).2.2.2.2]; rfl⟩
 | k+1,hk=>by
  obtain⟨h1,h2⟩:=LZ h hd (k:=k) (by omega)
  have hne:0<upN f k (fG f d):=by
   rcases bjA (upN f k (fG f d)) with e | e
   ·rw[e,h.root.2.1] at h2; omega
   ·exact e
  obtain⟨g1,g2,g3,g4,g5⟩:=h.dom _ hne h1
  refine⟨by rw[upN]; omega,?_⟩
  rw[upN,g3,h2]; omega
def fO (f:aG) (d:Nat) (level:Int):Nat:=upN f (4-level.toNat) (fG f d)
def fR (f:aG) (v:Nat):Int:=(eJ f v).k+(eJ f v).m
end Go.PM
namespace Go.PM
open Go Go.Na
def aC (l:List Nat) (n a:Nat):Nat × Nat:=if l.length≤a∨n<2 then (0,a) else (l.getD a 0%n,a+1)
theorem bM (l:List Nat) {n:Nat} (h:0<n) (a:Nat):(aC l n a).1<n:=by
 unfold aC
 split
 ·exact h
 ·exact biB _ h
theorem bC (l:List Nat) (n:Nat) {a:Nat} (h:a≤l.length):(aC l n a).2≤l.length:=by
 unfold aC
 split
 ·exact h
 ·simp only; omega
def eM (l:List Nat) (a:Nat):RF × Nat :=
 let x:=aC l 6 a
 let y:=aC l 8 x.2
 (mkT ((1+x.1:Nat):Int) ((1+y.1:Nat):Int),y.2)
abbrev hJ:RF:=mkT 0 1
def gE (l:List Nat) (i j a:Nat):RF × Nat :=
 if j=i+1 then eM l a
 else if j=i then (hJ,a)
 else let t:=aC l 3 a
  if t.1=0 then eM l t.2 else (hJ,t.2)
def cS (l:List Nat) (i a:Nat):Nat→List RF × Nat
 | 0=>([],a)
 | j+1=>let s:=cS l i a j
  let z:=gE l i j s.2
  (s.1++[z.1],z.2)
structure xO where
 start:List RF
 exit:List RF
 rates:List (List RF)
 left:Nat
 a:Nat
def cR (l:List Nat) (n i:Nat) (s:xO):Nat × Nat:=if i+1<n then aC l (s.left+1) s.a else (s.left,s.a)
def dZ (l:List Nat) (n i a:Nat):RF × Nat :=
 let e:=eM l a
 if i+1<n then (let t:=aC l 3 e.2; (if t.1=0 then hJ else e.1,t.2)) else e
def eS (l:List Nat) (n a:Nat):Nat→xO
 | 0=>⟨[],[],[],8,a⟩
 | i+1=>let s:=eS l n a i
  let k:=cR l n i s
  let e:=dZ l n i k.2
  let r:=cS l i e.2 n
  ⟨s.start++[mkT (k.1:Nat) 8],s.exit++[e.1],s.rates++[r.1],s.left-k.1,r.2⟩
def nO (l:List Nat) (dN a:Nat):cM × Nat :=
 let t:=aC l dN a
 let s:=eS l (1+t.1) t.2 (1+t.1)
 (⟨[],s.start,s.rates,s.exit⟩,s.a)
def gY (l:List Nat) (a:Nat):Nat→List RF × Nat
 | 0=>([],a)
 | k+1=>let s:=gY l a k
  let z:=eM l s.2
  (s.1++[z.1],z.2)
abbrev bO (n:Nat):List UInt8:=Lib.decDigits n
def fL (l:List Nat) (a:Nat):Nat→List cM × Nat
 | 0=>([],a)
 | k+1=>let s:=fL l a k
  let z:=nO l 2 s.2
  (s.1++[{ z.1 with name:=[108,97,119]++bO k }],z.2)
def dJ (l:List Nat) (laws a:Nat):Nat→List cT × Nat
 | 0=>([],a)
 | k+1=>let s:=dJ l laws a k
  let x:=aC l 4 s.2
  let y:=aC l 8 x.2
  let z:=aC l laws y.2
  (s.1++[⟨[109]++bO k,(1+x.1:Nat),(1+y.1:Nat),(z.1:Nat)⟩],z.2)
structure GS where
 doms:List cK
 drvs:List cQ
 a:Nat
def gP (l:List Nat) (mc drives domain:Nat) (s:GS):Nat→GS
 | 0=>s
 | i+1=>let s:=gP l mc drives domain s i
  if s.drvs.length<drives then
   let t:=aC l mc s.a
   { s with drvs:=s.drvs++[⟨[100]++bO s.drvs.length,(t.1:Nat),(domain:Nat)⟩],a:=t.2 }
  else s
def jE (level:Nat):UInt8:=match level with
 | 0=>45
 | 1=>115
 | 2=>114
 | 3=>107
 | _=>109
def kS (l:List Nat) (level domain:Nat) (s:GS):GS :=
 let u:=aC l 16 s.a
 let t:=aC l 3 u.2
 let k:=aC l 6 t.2
 let sh:RF × Nat:=if t.1=0 then (mkT 1 ((2+k.1:Nat):Int),k.2) else (hJ,t.2)
 { s with doms:=s.doms++[⟨[jE level]++bO s.doms.length,(level:Nat),(domain:Nat),(1+u.1:Nat),sh.1⟩],a:=sh.2 }
def mZ (drives:Nat) (s:GS):Bool:=decide (drives≤s.drvs.length)||decide (35≤s.doms.length)
def fB (l:List Nat) (level drives domain:Nat) (rec:Nat→GS→GS) (s:GS):Nat→GS
 | 0=>s
 | i+1=>let s:=fB l level drives domain rec s i
  if mZ drives s then s else (let s':=kS l level domain s; rec (s'.doms.length-1) s')
def dX (l:List Nat) (mc drives:Nat):Nat→Nat→GS→GS
 | 0,domain,s=>let t:=aC l 2 s.a
  gP l mc drives domain { s with a:=t.2 } (1+t.1)
 | k+1,domain,s=>let t:=aC l 2 s.a
  fB l (4-k) drives domain (dX l mc drives k) { s with a:=t.2 } (if 4-k=2 then 1 else 1+t.1)
def kE:cK:=⟨[],0,-1,0,hJ⟩
def fN (l:List Nat) (a:Nat):Int × Nat :=
 let t:=aC l 3 a
 let k:=aC l 3 t.2
 if t.1=0 then ((1+k.1:Nat),k.2) else (0,t.2)
def jV (l:List Nat) (models i a:Nat):cG × Nat :=
 let k:=aC l 2 a
 let m:=aC l 3 k.2
 let h:=aC l 4 m.2
 let q:=aC l (m.1+1) h.2
 let r:=gY l q.2 (max m.1 1)
 let g:=aC l 9 r.2
 let s1:=fN l g.2
 let s2:=fN l s1.2
 let s3:=fN l s2.2
 let s4:=fN l s3.2
 let f:=aC l models s4.2
 let b:=aC l 2 f.2
 let ms:List Int × Nat:=if 1<models then (if b.1=0 then ([(f.1:Int),1-(f.1:Int)],b.2) else ([(f.1:Int)],b.2)) else ([(f.1:Int)],f.2)
 (⟨[112]++bO i,(1+k.1:Nat),(m.1:Nat),(1+k.1+q.1:Nat),0,s1.1,s2.1,s3.1,s4.1,ms.1,r.1,mkT (g.1:Nat) 8,mkT ((1+h.1:Nat):Int) 1⟩,ms.2)
def cV (l:List Nat) (models a:Nat):Nat→List cG × Nat
 | 0=>([],a)
 | k+1=>let s:=cV l models a k
  let z:=jV l models k s.2
  (s.1++[z.1],z.2)
def dL (l:List Nat) (pols a:Nat):Nat→List fK × Nat
 | 0=>([],a)
 | k+1=>let s:=dL l pols a k
  let z:=aC l pols s.2
  (s.1++[⟨[118]++bO k,(z.1:Nat)⟩],z.2)
def fD (l:List Nat) (drives volumes a:Nat):aG × Nat :=
 let e:=aC l 2 a
 let lw:=aC l 2 e.2
 let laws:=fL l lw.2 (1+lw.1)
 let md:=aC l 2 laws.2
 let models:=dJ l (1+lw.1) md.2 (1+md.1)
 let g:=dX l (1+md.1) drives 4 0 ⟨[kE],[],models.2⟩
 let pl:=aC l 2 g.a
 let pols:=cV l (1+md.1) pl.2 (1+pl.1)
 let vo:=aC l (volumes+1) pols.2
 let vols:=dL l (1+pl.1) vo.2 vo.1
 (⟨(1+e.1:Nat),laws.1,models.1,g.doms,g.drvs,pols.1,vols.1⟩,vols.2)
def kD (l:List Nat) (a:Nat):Nat→List Int × Nat
 | 0=>([],a)
 | k+1=>let s:=kD l a k
  let z:=aC l 7 s.2
  (s.1++[(z.1:Int)-1],z.2)
def hC (l:List Nat) (f:aG) (a:Nat):List Int × Nat :=
 let t:=aC l 4 a
 if t.1=0 then ([],t.2) else kD l t.2 f.drives.length
def mA (l:List Nat) (drives at_ i a:Nat):Int × Nat :=
 if drives=0 then (-1,a) else
  let t:=aC l 6 a
  if t.1=0 then (let z:=aC l drives t.2; ((z.1:Int),z.2))
  else if t.1=1 then (let z:=aC l (drives+1) t.2; ((z.1:Int)-1,z.2))
  else (((at_+i)%drives:Nat),t.2)
def gZ (l:List Nat) (drives at_ a:Nat):Nat→List Int × Nat
 | 0=>([],a)
 | i+1=>let s:=gZ l drives at_ a i
  let z:=mA l drives at_ i s.2
  (s.1++[z.1],z.2)
def cH (l:List Nat) (f:aG) (a:Nat):Nat→List (List Int) × Nat
 | 0=>([],a)
 | v+1=>let s:=cH l f a v
  let t:=aC l (f.drives.length+1) s.2
  let r:=gZ l f.drives.length t.1 t.2 (fR f v).toNat
  (s.1++[r.1],r.2)
end Go.PM
namespace Go.PM
open Go Go.Na
theorem a1G (a b:Nat):mkT (a:Int) (b:Int)=⟨false,aH (a/bgU a b),aH (b/bgU a b)⟩:=by
 have h1:decide ((a:Int)<0)=false:=decide_eq_false (by omega)
 have h2:decide ((b:Int)<0)=false:=decide_eq_false (by omega)
 unfold mkT yO FV.rf
 rw[h1,h2,Int.natAbs_natCast,Int.natAbs_natCast]
 rfl
structure SmF (x:RF) (p q:Nat):Prop where
 eq:x=⟨false,aH (p/bgU p q),aH (q/bgU p q)⟩
 a:p≤64
 b:q≤64
 pos:0<q
theorem SmF.mk' {a b:Nat} (ha:a≤64) (hb:b≤64) (h:0<b):SmF (mkT (a:Int) (b:Int)) a b:=⟨a1G a b,ha,hb,h⟩
theorem SmF.num {x:RF} {a b:Nat} (h:SmF x a b):val x.num=a/bgU a b:=by rw[h.eq,aX]
theorem SmF.den {x:RF} {a b:Nat} (h:SmF x a b):val x.den=b/bgU a b:=by rw[h.eq,aX]
theorem SmF.v {x:RF} {a b:Nat} (h:SmF x a b):x.v=(false,a/bgU a b,b/bgU a b):=by
 unfold RF.v
 rw[h.num,h.den,h.eq]
theorem SmF.avC {x:RF} {a b:Nat} (_:SmF x a b):a/bgU a b≤a:=bjS ..
theorem SmF.amS {x:RF} {a b:Nat} (_:SmF x a b):b/bgU a b≤b:=bjS ..
theorem SmF.den_pos {x:RF} {a b:Nat} (h:SmF x a b):0<b/bgU a b:=Nat.div_pos (Nat.le_of_dvd h.pos (Nat.gcd_dvd_right a b)) (Nat.gcd_pos_of_pos_right a h.pos)
theorem uK {n:Nat} (h:n≤4096):cB n≤32:=(jU n 32).2 (by omega)
theorem azX {n:Nat} (h:0<n):0<cB n:=by
 rcases bjA (cB n) with e | e
 ·rw[gU] at e; omega
 ·exact e
theorem qW {a b:Nat} (ha:a≤4096) (hb:b≤4096) (h:0<b):dH a b=true:=by
 have h1:=uK ha
 have h2:=uK hb
 have h3:=azX h
 unfold dH
 rw[decide_eq_true h3,decide_eq_true (show cB b≤4096 by omega),decide_eq_true (show cB a≤4096 by omega)]
 rfl
theorem aEB {n:Bool} {a b:Nat} (ha:a≤4096) (hb:b≤4096):jT n a b=.ok (n&&decide (a/bgU a b≠0),a/bgU a b,b/bgU a b):=by
 have h1:=uK (bjM (bjS a (bgU a b)) ha)
 have h2:=uK (bjM (bjS b (bgU a b)) hb)
 unfold jT
 rw[if_neg (by omega)]
theorem SmF.lim {x:RF} {a b:Nat} (h:SmF x a b):fF x=true:=by
 have h1:=h.avC
 have h2:=h.amS
 have h3:=h.den_pos
 have:=h.a
 have:=h.b
 have hn:x.neg=false:=by rw[h.eq]
 unfold fF zO
 rw[h.num,h.den,hn,qW (by omega) (by omega) h3,if_pos rfl,aEB (by omega) (by omega)]
 have e1:=bjS (a/bgU a b) (bgU (a/bgU a b) (b/bgU a b))
 have e2:=bjS (b/bgU a b) (bgU (a/bgU a b) (b/bgU a b))
 simp only[bhG,bhN,bhP,bhO,decide_eq_true_eq]
 exact⟨uK (by omega),uK (by omega)⟩
theorem SmF.lY {x:RF} {a b:Nat} (h:SmF x a b) (ha:0<a):bR x=true:=by
 unfold bR
 rw[h.num]
 exact decide_eq_true (Nat.ne_of_gt (Nat.div_pos (Nat.le_of_dvd ha (Nat.gcd_dvd_left a b)) (Nat.gcd_pos_of_pos_right a h.pos)))
theorem SmF.zero {x:RF} {b:Nat} (h:SmF x 0 b):bR x=false:=by
 unfold bR
 rw[h.num,Nat.zero_div]
 rfl
theorem SmF.one {x:RF} {a b:Nat} (h:SmF x a b) (hab:a≤b):TO x=true:=by
 have h1:=h.avC
 have h2:=h.amS
 have h3:=h.den_pos
 have:=h.a
 have:=h.b
 have hn:x.neg=false:=by rw[h.eq]
 unfold TO
 rw[h.num,h.den,hn,qW (by omega) (by omega) h3]
 have:a/bgU a b≤b/bgU a b:=Nat.div_le_div_right hab
 show (true&&decide (dE (a/bgU a b*1) (1*(b/bgU a b))≤0))=true
 rw[Nat.mul_one,Nat.one_mul,bhP]
 refine decide_eq_true ?_
 unfold dE
 split
 ·decide
 ·split
  ·omega
  ·decide
theorem SmF.ok {x:RF} {a b:Nat} (h:SmF x a b):x.Ok:=by
 have h1:=h.avC
 have h2:=h.amS
 have:=h.a
 have:=h.b
 have k1:nl (a/bgU a b)≤1:=(gQ _ _).2 (by omega)
 have k2:nl (b/bgU a b)≤1:=(gQ _ _).2 (by omega)
 rw[h.eq]
 refine⟨bD _,bD _,?_,?_⟩
 ·show (aH _).length≤_
  rw[bH]; omega
 ·show (aH _).length≤_
  rw[bH]; omega
theorem aZP:∀ c:Fin 9,∀ k:Fin 9,c.val+k.val≤8 →
  (c.val/bgU c.val 8*(8/bgU k.val 8)+k.val/bgU k.val 8*(8/bgU c.val 8))/bgU (c.val/bgU c.val 8*(8/bgU k.val 8)+k.val/bgU k.val 8*(8/bgU c.val 8)) (8/bgU c.val 8*(8/bgU k.val 8))=(c.val+k.val)/bgU (c.val+k.val) 8 ∧
  8/bgU c.val 8*(8/bgU k.val 8)/bgU (c.val/bgU c.val 8*(8/bgU k.val 8)+k.val/bgU k.val 8*(8/bgU c.val 8)) (8/bgU c.val 8*(8/bgU k.val 8))=8/bgU (c.val+k.val) 8:=by decide +kernel
abbrev eV (c:Nat):FV:=(false,c/bgU c 8,8/bgU c 8)
theorem NQ (c:Nat):0<8/bgU c 8:=Nat.div_pos (Nat.le_of_dvd (by decide) (Nat.gcd_dvd_right c 8)) (Nat.gcd_pos_of_pos_right c (by decide))
theorem amE {c k:Nat} (h:c+k≤8):iT (eV c) (eV k)=.ok (eV (c+k)):=by
 obtain⟨e1,e2⟩:=aZP ⟨c,by omega⟩ ⟨k,by omega⟩ h
 simp only at e1 e2
 have a1:=bjS c (bgU c 8)
 have a2:=bjS k (bgU k 8)
 have a3:=bjS 8 (bgU c 8)
 have a4:=bjS 8 (bgU k 8)
 have p1:=NQ c
 have p2:=NQ k
 simp only[iT]
 rw[qW (by omega) (by omega) p1,qW (by omega) (by omega) p2,Bool.and_self,if_pos rfl,if_pos trivial]
 have b1:c/bgU c 8*(8/bgU k 8)≤8*8:=Nat.mul_le_mul (by omega) a4
 have b2:k/bgU k 8*(8/bgU c 8)≤8*8:=Nat.mul_le_mul (by omega) a3
 have b3:8/bgU c 8*(8/bgU k 8)≤8*8:=Nat.mul_le_mul a3 a4
 rw[aEB (by omega) (by omega),e1,e2]
 rfl
theorem KJ:∀ (l:List Nat) (c:Nat),c+l.sum≤8→(l.map eV).foldlM iT (eV c)=.ok (eV (c+l.sum))
 | [],c,_=>rfl
 | k::l,c,h=>by
  rw[List.sum_cons] at h
  rw[biC,List.foldlM_cons,amE (by omega),List.sum_cons,← biW]
  exact KJ l (c+k) (by omega)
theorem aZO:eV 0=(false,0,1):=by decide +kernel
theorem aTW:eV 8=(false,1,1):=by decide +kernel
theorem a2P (l:List Nat) (h:l.sum=8):(match oS (l.map eV) with
  | .ok (n,a,b)=>decide (vQ n a b false 1 1=0)
  | .error _=>false)=true:=by
 unfold oS
 rw[← aZO,KJ l 0 (by omega),bhS,h,aTW]
 rfl
def dig (k:Nat):List UInt8:=if k<10 then [UInt8.ofNat (48+k)] else [UInt8.ofNat (48+k/10),UInt8.ofNat (48+k%10)]
def NK:List UInt8→Nat
 | [a]=>a.toNat-48
 | [a,b]=>(a.toNat-48)*10+(b.toNat-48)
 | _=>0
theorem IH {k:Nat} (h:k<100):bO k=dig k:=by
 unfold bO dig
 by_cases h1:k<10
 ·rw[if_pos h1]; exact Lib.decDigits_one h1
 ·rw[if_neg h1]; exact Lib.decDigits_two h1 h
theorem amU:∀ k:Fin 100,NK (dig k.val)=k.val∧(dig k.val).length≤2∧((dig k.val).all fun c=>gA c.toNat)=true:=by decide +kernel
theorem acG {p:List UInt8} {c:UInt8} {t:List UInt8} (e:p=c::t) (hc:gB c.toNat=true) (ht:(t.all fun c=>gA c.toNat)=true) (hl:p.length≤8) {k:Nat} (hk:k<100):isName (p++bO k)=true:=by
 obtain⟨-,h2,h3⟩:=amU ⟨k,hk⟩
 simp only at h2 h3
 subst e
 rw[IH hk]
 show (decide ((c::t++dig k).length≤16)&&gB c.toNat&&(c::t++dig k).all fun c=>gA c.toNat)=true
 have hi:gA c.toNat=true:=by unfold gA; rw[hc]; rfl
 rw[decide_eq_true (by rw[bgW]; omega),hc,List.all_append,h3,List.all_cons,ht,hi]
 rfl
theorem NP {l:List (List UInt8)} (h1:∀ x∈l,isName x=true) (h2:l.Nodup):distinct l=true:=by
 unfold distinct
 rw[bhW]
 intro i hi
 rw[biM] at hi
 have e:l.getD i []=l[i]:=by simp[bhQ,hi]
 rw[e,h1 _ (bgY hi),bhP]
 have:¬ l[i]∈l.take i:=by
  intro hm
  obtain⟨j,hj,e⟩:=biL hm
  rw[bhJ] at hj
  rw[List.getElem_take] at e
  have:=(List.nodup_iff_pairwise_ne.1 h2)
  rw[List.pairwise_iff_getElem] at this
  exact this j i (by omega) hi (by omega) e
 simp[this]
theorem JF {l:List (List UInt8)} {g:List UInt8→Nat} (h:∀ i (hi:i<l.length),g l[i]=i):l.Nodup:=by
 rw[List.nodup_iff_pairwise_ne,List.pairwise_iff_getElem]
 intro i j hi hj hlt e
 have h1:=h i hi
 have h2:=h j hj
 rw[e] at h1
 omega
theorem pW {l:List (List UInt8)} {p:List UInt8} {c:UInt8} {t:List UInt8} (e:p=c::t) (hc:gB c.toNat=true) (ht:(t.all fun c=>gA c.toNat)=true) (hl:p.length≤8) (hn:l.length≤100) (h:∀ i (hi:i<l.length),l[i]=p++bO i):distinct l=true:=by
 refine NP ?_ (JF (g:=fun s=>NK (s.drop p.length)) ?_)
 ·intro x hx
  obtain⟨i,hi,rfl⟩:=biL hx
  rw[h i hi]
  exact acG e hc ht hl (by omega)
 ·intro i hi
  rw[h i hi]
  simp only[List.drop_left]
  rw[IH (by omega)]
  exact (amU ⟨i,by omega⟩).1
end Go.PM
namespace Go.PM
open Go Go.Na
structure pM (x:RF):Prop where
 lim:fF x=true
 ok:x.Ok
theorem SmF.o {x:RF} {a b:Nat} (h:SmF x a b):pM x:=⟨h.lim,h.ok⟩
theorem mR:SmF hJ 0 1:=SmF.mk' (a:=0) (b:=1) (by decide) (by decide) (by decide)
theorem oM (l:List Nat) (a:Nat):pM (eM l a).1∧bR (eM l a).1=true:=by
 have h1:=bM l (show 0<6 by decide) a
 have h2:=bM l (show 0<8 by decide) (aC l 6 a).2
 have:=SmF.mk' (a:=1+(aC l 6 a).1) (b:=1+(aC l 8 (aC l 6 a).2).1) (by omega) (by omega) (by omega)
 exact⟨this.o,this.lY (by omega)⟩
theorem aTN (l:List Nat) (i j a:Nat):pM (gE l i j a).1∧(j=i→bR (gE l i j a).1=false)∧(j=i+1→bR (gE l i j a).1=true):=by
 unfold gE
 by_cases h1:j=i+1
 ·rw[if_pos h1]
  exact⟨(oM l a).1,fun h=>by omega,fun _=>(oM l a).2⟩
 ·rw[if_neg h1]
  by_cases h2:j=i
  ·rw[if_pos h2]
   exact⟨mR.o,fun _=>mR.zero,fun h=>absurd h h1⟩
  ·rw[if_neg h2]
   simp only
   split
   ·exact⟨(oM l _).1,fun h=>absurd h h2,fun h=>absurd h h1⟩
   ·exact⟨mR.o,fun h=>absurd h h2,fun h=>absurd h h1⟩
theorem aGT (l:List Nat) (i a:Nat):∀ n,(cS l i a n).1.length=n∧∀ j (hj:j<(cS l i a n).1.length),pM (cS l i a n).1[j]∧(j=i→bR (cS l i a n).1[j]=false)∧(j=i+1→bR (cS l i a n).1[j]=true)
 | 0=>⟨rfl,fun j hj=>absurd hj (by simp[cS])⟩
 | n+1=>by
  obtain⟨h1,h2⟩:=aGT l i a n
  have e:(cS l i a (n+1)).1=(cS l i a n).1++[(gE l i n (cS l i a n).2).1]:=rfl
  rw[e]
  refine⟨by simp[h1],fun j hj=>?_⟩
  by_cases hlt:j<(cS l i a n).1.length
  ·rw[List.getElem_append_left hlt]; exact h2 j hlt
  ·rw[bgW,bhA] at hj
   have:j=n:=by omega
   subst this
   rw[List.getElem_append_right (by omega)]
   simp only[List.getElem_singleton]
   exact aTN l i j _
theorem aGS (l:List Nat) (a:Nat):∀ n,(gY l a n).1.length=n∧∀ x∈(gY l a n).1,pM x∧bR x=true
 | 0=>⟨rfl,fun x hx=>by cases hx⟩
 | n+1=>by
  obtain⟨h1,h2⟩:=aGS l a n
  have e:(gY l a (n+1)).1=(gY l a n).1++[(eM l (gY l a n).2).1]:=rfl
  rw[e]
  refine⟨by simp[h1],fun x hx=>?_⟩
  rw[biO,List.mem_singleton] at hx
  rcases hx with hx | rfl
  ·exact h2 x hx
  ·exact oM l _
theorem aUA (l:List Nat) (n i a:Nat):pM (dZ l n i a).1∧(i+1=n→bR (dZ l n i a).1=true):=by
 unfold dZ
 by_cases h:i+1<n
 ·simp only[if_pos h]
  refine⟨?_,fun h2=>by omega⟩
  split
  ·exact mR.o
  ·exact (oM l a).1
 ·simp only[if_neg h]
  exact⟨(oM l a).1,fun _=>(oM l a).2⟩
def a4G (n:Nat) (rates:List (List RF)):Prop:=∀ i (hi:i<rates.length),rates[i].length=n∧∀ j (hj:j<rates[i].length),pM rates[i][j]∧(j=i→bR rates[i][j]=false)∧(j=i+1→bR rates[i][j]=true)
def a4E (n:Nat) (exit:List RF):Prop:=∀ i (hi:i<exit.length),pM exit[i]∧(i+1=n→bR exit[i]=true)
structure a9V (n i:Nat) (s:xO) (cs:List Nat):Prop where
 start:s.start=cs.map fun c=>mkT ((c:Nat):Int) ((8:Nat):Int)
 lens:s.exit.length=i∧s.rates.length=i∧cs.length=i
 left:cs.sum+s.left=8∧(i=n→0<n→s.left=0)
 exit:a4E n s.exit
 rates:a4G n s.rates
theorem oR {α:Type} {P:Nat→α→Prop} {xs:List α} {x:α} (h:∀ i (hi:i<xs.length),P i xs[i]) (hx:P xs.length x):∀ i (hi:i<(xs++[x]).length),P i (xs++[x])[i]:=by
 intro i hi
 by_cases hlt:i<xs.length
 ·rw[List.getElem_append_left hlt]; exact h i hlt
 ·rw[bgW,bhA] at hi
  have:i=xs.length:=by omega
  subst this
  rw[List.getElem_append_right (by omega)]
  simpa using hx
theorem aeM (l:List Nat) (n a:Nat):∀ i,i≤n→∃ cs,a9V n i (eS l n a i) cs
 | 0,_=>⟨[],rfl,⟨rfl,rfl,rfl⟩,⟨rfl,fun h h2=>by omega⟩,fun i hi=>absurd hi (by simp[eS]),fun i hi=>absurd hi (by simp[eS])⟩
 | i+1,hi=>by
  obtain⟨cs,h1,⟨h2,h3,h4⟩,⟨h5,-⟩,h6,h7⟩:=aeM l n a i (by omega)
  generalize hs:eS l n a i=s at *
  have e:eS l n a (i+1)=⟨s.start++[mkT ((cR l n i s).1:Nat) 8],s.exit++[(dZ l n i (cR l n i s).2).1],s.rates++[(cS l i (dZ l n i (cR l n i s).2).2 n).1],s.left-(cR l n i s).1,(cS l i (dZ l n i (cR l n i s).2).2 n).2⟩:=by
   simp only[eS,hs]
  rw[e]
  have hk:(cR l n i s).1≤s.left∧(i+1=n→(cR l n i s).1=s.left):=by
   unfold cR
   split
   ·exact⟨by have:=bM l (show 0<s.left+1 by omega) s.a; omega,fun h=>by omega⟩
   ·exact⟨bgX _,fun _=>rfl⟩
  refine⟨cs++[(cR l n i s).1],?_,⟨by simp[h2],by simp[h3],by simp[h4]⟩,⟨?_,fun h _=>?_⟩,?_,?_⟩
  ·simp only[h1,biS,biC,biV]; rfl
  ·simp only[List.sum_append,List.sum_cons,List.sum_nil]; omega
  ·have:=hk.2 h
   simp only; omega
  ·refine oR (P:=fun i x=>pM x∧(i+1=n→bR x=true)) h6 ?_
   rw[h2]; exact aUA l n i _
  ·refine oR (P:=fun i (r:List RF)=>r.length=n∧∀ j (hj:j<r.length),pM r[j]∧(j=i→bR r[j]=false)∧(j=i+1→bR r[j]=true)) h7 ?_
   rw[h3]; exact aGT l i _ n
theorem aTY {x:cM} {e r:RF} (h1:x.exit=[e]) (h2:x.rates=[[r]]) (h3:bR e=true):pZ x=true:=by
 unfold pZ
 rw[h1]
 show ((fP x 2).all id)=true
 simp only[fP,eE,jN,cY,h1,h2,bjJ,bjB,List.getD_cons_zero,biC,biV,h3]
 cases bR r<;>rfl
theorem JZ {x:cM} {e0 e1 r00 r01 r10 r11:RF} (h1:x.exit=[e0,e1]) (h2:x.rates=[[r00,r01],[r10,r11]]) (h3:bR e1=true) (h4:bR r01=true) (a b:Bool) :
  ∃ c,eE x [a,b] 2=[c,true]∧(b=true→c=true)∧(a=true→c=true):=by
 have q1:jN x [a,b] 0=[((a||bR e0)||bR r00&&(a||bR e0))||b,b]:=by
  unfold jN
  rw[h1,h2]
  simp only[List.getD_cons_zero,biC,List.set_cons_zero]
  generalize (a||bR e0)=c
  show cY [c,b] 0 [r00,r01] 2=_
  have:cY [c,b] 0 [r00,r01] 1=[c||bR r00&&c,b]:=rfl
  show (let R':=cY [c,b] 0 [r00,r01] 1; R'.set 0 (R'.getD 0 false||([r00,r01].map bR).getD 1 false&&R'.getD 1 false))=_
  rw[this]
  show [(c||bR r00&&c)||(bR r01&&b),b]=_
  rw[h4,bhP]
 have q2:∀ c,jN x [c,b] 1=[c,true]:=by
  intro c
  unfold jN
  rw[h1,h2]
  have:cY [c,true] 1 [r10,r11] 1=[c,true||bR r10&&c]:=rfl
  show cY [c,b||bR e1] 1 [r10,r11] 2=_
  rw[h3,Bool.or_true]
  show (let R':=cY [c,true] 1 [r10,r11] 1; R'.set 1 (R'.getD 1 false||([r10,r11].map bR).getD 1 false&&R'.getD 1 false))=_
  rw[this,Bool.true_or]
  show [c,true||bR r11&&true]=_
  rw[Bool.true_or]
 refine⟨_,by rw[show eE x [a,b] 2=jN x (jN x [a,b] 0) 1 from rfl,q1,q2],?_,?_⟩
 ·rintro rfl; rw[Bool.or_true]
 ·rintro rfl; simp
theorem aTZ {x:cM} {e0 e1 r00 r01 r10 r11:RF} (h1:x.exit=[e0,e1]) (h2:x.rates=[[r00,r01],[r10,r11]]) (h3:bR e1=true) (h4:bR r01=true):pZ x=true:=by
 unfold pZ
 rw[h1]
 show ((fP x 3).all id)=true
 have e:∀ r,fP x (r+1)=eE x (fP x r) 2:=fun r=>by rw[fP,h1]; rfl
 have e0:fP x 0=[false,false]:=by rw[fP,h1]; rfl
 obtain⟨c1,k1,-,-⟩:=JZ h1 h2 h3 h4 false false
 obtain⟨c2,k2,k3,-⟩:=JZ h1 h2 h3 h4 c1 true
 obtain⟨c3,k4,k5,-⟩:=JZ h1 h2 h3 h4 c2 true
 rw[e,e,e,e0,k1,k2,k4,k5 rfl]
 rfl
theorem aqW {c:Nat}:∀ {cs:List Nat},c∈cs→c≤cs.sum
 | k::t,h=>by
  rw[List.sum_cons]
  rcases bhF.1 h with rfl | h
  ·omega
  ·have:=aqW h; omega
theorem MX {α:Type} {l:List α} (h:l.length=2):∃ a b,l=[a,b]:=by
 match l,h with
 | [a,b],_=>exact⟨a,b,rfl⟩
theorem a5O (cs:List Nat) (h:cs.sum=8):(match oS ((cs.map fun c=>mkT ((c:Nat):Int) ((8:Nat):Int)).map RF.v) with
  | .ok (n,a,b)=>decide (vQ n a b false 1 1=0)
  | .error _=>false)=true:=by
 have hle:∀ c∈cs,c≤8:=fun c hc=>by
  have:=aqW hc
  omega
 have e:((cs.map fun c=>mkT ((c:Nat):Int) ((8:Nat):Int)).map RF.v)=cs.map eV:=by
  rw[List.map_map]
  refine List.map_congr_left fun c hc=>?_
  have:=hle c hc
  exact (SmF.mk' (a:=c) (b:=8) (by omega) (by decide) (by decide)).v
 rw[e]
 exact a2P cs h
theorem uJ {α:Type} {p:α→Bool} {l:List α} (h:∀ i (hi:i<l.length),p l[i]=true):l.all p=true:=by
 rw[bhW]
 intro x hx
 obtain⟨i,hi,rfl⟩:=biL hx
 exact h i hi
theorem aJY (l:List Nat) (a:Nat) (nm:List UInt8):oP { (nO l 2 a).1 with name:=nm }=true∧({ (nO l 2 a).1 with name:=nm }:cM).Ok:=by
 obtain⟨n,hn⟩:∃ n,n=1+(aC l 2 a).1:=⟨_,rfl⟩
 have hn2:n=1∨n=2:=by have:=bM l (show 0<2 by decide) a; omega
 obtain⟨cs,h1,⟨h2,h3,h4⟩,⟨h5,h5'⟩,h6,h7⟩:=aeM l n (aC l 2 a).2 n (bgX _)
 generalize hs:eS l n (aC l 2 a).2 n=s at *
 have e:({ (nO l 2 a).1 with name:=nm }:cM)=⟨nm,s.start,s.rates,s.exit⟩:=by
  simp only[nO,← hn,hs]
 rw[e]
 have hsum:cs.sum=8:=by have:=h5' rfl (by omega); omega
 have hle:∀ c∈cs,c≤8:=fun c hc=>by
  have:=aqW hc
  omega
 have hstart:∀ x∈s.start,pM x:=by
  intro x hx
  rw[h1] at hx
  obtain⟨c,hc,rfl⟩:=biA.1 hx
  have:=hle c hc
  exact (SmF.mk' (a:=c) (b:=8) (by omega) (by decide) (by decide)).o
 have hsl:s.start.length=n:=by rw[h1,bgT,h4]
 have hends:pZ ⟨nm,s.start,s.rates,s.exit⟩=true:=by
  rcases hn2 with rfl | rfl
  ·obtain⟨e,he⟩:=List.length_eq_one_iff.1 h2
   obtain⟨rw_,hr⟩:=List.length_eq_one_iff.1 h3
   have hrl:=(h7 0 (by omega)).1
   obtain⟨r,hr2⟩:=List.length_eq_one_iff.1 hrl
   have hx:=(h6 0 (by omega)).2 rfl
   simp only[hr,List.getElem_cons_zero] at hr2
   simp only[he,List.getElem_cons_zero] at hx
   exact aTY he (by rw[hr,hr2]) hx
  ·obtain⟨e0,e1,he⟩:=MX h2
   obtain⟨r0,r1,hr⟩:=MX h3
   have hr0:=(h7 0 (by omega)).1
   have hr1:=(h7 1 (by omega)).1
   have hx:=(h6 1 (by omega)).2 rfl
   have hy:=((h7 0 (by omega)).2 1 (by omega)).2.2 rfl
   simp only[he,List.getElem_cons_succ,List.getElem_cons_zero] at hx
   simp only[hr,List.getElem_cons_succ,List.getElem_cons_zero] at hr0 hr1 hy
   obtain⟨r00,r01,h00⟩:=MX hr0
   obtain⟨r10,r11,h10⟩:=MX hr1
   simp only[h00,List.getElem_cons_succ,List.getElem_cons_zero] at hy
   exact aTZ he (by rw[hr,h00,h10]) hx hy
 constructor
 ·unfold oP
  simp only[bhO]
  refine⟨⟨⟨⟨⟨⟨⟨?_,?_⟩,?_⟩,?_⟩,?_⟩,?_⟩,?_⟩,hends⟩
  ·rw[within_iff]; omega
  ·exact decide_eq_true (by omega)
  ·exact decide_eq_true (by omega)
  ·exact bhW.2 fun x hx=>(hstart x hx).lim
  ·exact uJ fun i hi=>(h6 i hi).1.lim
  ·rw[bhW]
   intro i hi
   rw[biM] at hi
   obtain⟨k1,k2⟩:=h7 i hi
   have eg:s.rates.getD i []=s.rates[i]:=by simp[bhQ,hi]
   rw[eg,bhO,bhO]
   refine⟨⟨decide_eq_true (by omega),uJ fun j hj=>(k2 j hj).1.lim⟩,?_⟩
   have hij:i<s.rates[i].length:=by omega
   rw[getD_at hij,(k2 i hij).2.1 rfl]
   rfl
  ·rw[h1]; exact a5O cs hsum
 ·have hf:∀ m:Nat,m≤2→m≤9223372036854775807:=fun m hm=>by omega
  have hnl:n≤2:=by omega
  refine⟨⟨?_,fun x hx=>(hstart x hx).ok⟩,⟨?_,fun x hx=>?_⟩,?_,fun r hr=>⟨?_,fun x hx=>?_⟩⟩
  ·exact hf s.start.length (by omega)
  ·exact hf s.exit.length (by omega)
  ·obtain⟨i,hi,rfl⟩:=biL hx
   exact (h6 i hi).1.ok
  ·exact hf s.rates.length (by omega)
  ·obtain⟨i,hi,rfl⟩:=biL hr
   have:=(h7 i hi).1
   exact hf (s.rates[i]'hi).length (by omega)
  ·obtain⟨i,hi,rfl⟩:=biL hr
   obtain⟨j,hj,rfl⟩:=biL hx
   exact ((h7 i hi).2 j hj).1.ok
theorem NV (l:List Nat) (a:Nat):∀ n,(fL l a n).1.length=n∧∀ i (hi:i<(fL l a n).1.length),(fL l a n).1[i].name=[108,97,119]++bO i∧oP (fL l a n).1[i]=true∧(fL l a n).1[i].Ok
 | 0=>⟨rfl,fun i hi=>absurd hi (by simp[fL])⟩
 | n+1=>by
  obtain⟨h1,h2⟩:=NV l a n
  have e:(fL l a (n+1)).1=(fL l a n).1++[{ (nO l 2 (fL l a n).2).1 with name:=[108,97,119]++bO n }]:=rfl
  rw[e]
  refine⟨by simp[h1],oR (P:=fun i (x:cM)=>x.name=[108,97,119]++bO i∧oP x=true∧x.Ok) h2 ?_⟩
  rw[h1]
  exact⟨rfl,aJY l _ _⟩
theorem GN (l:List Nat) (laws:Nat) (hl:0<laws) (a:Nat):∀ n,(dJ l laws a n).1.length=n∧∀ i (hi:i<(dJ l laws a n).1.length),(dJ l laws a n).1[i].name=[109]++bO i∧∃ e p w:Nat,(dJ l laws a n).1[i].extents=e∧1≤e∧e≤4∧(dJ l laws a n).1[i].port=p∧1≤p∧p≤8∧(dJ l laws a n).1[i].law=w∧w<laws
 | 0=>⟨rfl,fun i hi=>absurd hi (by simp[dJ])⟩
 | n+1=>by
  obtain⟨h1,h2⟩:=GN l laws hl a n
  obtain⟨s,hs⟩:∃ s,s=dJ l laws a n:=⟨_,rfl⟩
  have e:(dJ l laws a (n+1)).1=(dJ l laws a n).1++[⟨[109]++bO n,(1+(aC l 4 s.2).1:Nat),(1+(aC l 8 (aC l 4 s.2).2).1:Nat),((aC l laws (aC l 8 (aC l 4 s.2).2).2).1:Nat)⟩]:=by rw[hs]; rfl
  rw[e]
  refine⟨by simp[h1],oR (P:=fun i (x:cT)=>x.name=[109]++bO i∧∃ e p w:Nat,x.extents=e∧1≤e∧e≤4∧x.port=p∧1≤p∧p≤8∧x.law=w∧w<laws) h2 ?_⟩
  rw[h1]
  have k1:=bM l (show 0<4 by decide) s.2
  have k2:=bM l (show 0<8 by decide) (aC l 4 s.2).2
  have k3:=bM l hl (aC l 8 (aC l 4 s.2).2).2
  exact⟨rfl,_,_,_,rfl,by omega,by omega,rfl,by omega,by omega,rfl,k3⟩
end Go.PM
namespace Go.PM
open Go Go.Na
theorem tZ (l:List Nat) (a:Nat):∃ n:Nat,(fN l a).1=n∧n≤3:=by
 have h:=bM l (show 0<3 by decide) (aC l 3 a).2
 unfold fN
 simp only
 split
 ·exact⟨1+(aC l 3 (aC l 3 a).2).1,rfl,by omega⟩
 ·exact⟨0,rfl,by omega⟩
theorem dM {n lo hi:Int} (h1:lo≤n) (h2:n≤hi):within n lo hi=true:=within_iff.2 ⟨h1,h2⟩
theorem a5C {nm:List UInt8} {k m q s1 s2 s3 s4 g h:Nat} {ms:List Int} {rp:List RF} {mc:Nat} (hk1:1≤k) (hk2:k≤2) (hm:m≤2) (hq1:k≤q) (hq2:q≤k+m) (h1:s1≤3) (h2:s2≤3) (h3:s3≤3) (h4:s4≤3) (hg:g≤8) (hh:h≤4)
  (hrl:rp.length=max m 1) (hrp:∀ x∈rp,pM x∧bR x=true)
  (hmc:mc≤2) (hms:∃ f:Nat,f<mc∧(ms=[(f:Int)]∨mc=2∧ms=[(f:Int),1-(f:Int)])) :
  iH mc ⟨nm,(k:Nat),(m:Nat),(q:Nat),0,(s1:Nat),(s2:Nat),(s3:Nat),(s4:Nat),ms,rp,mkT (g:Nat) ((8:Nat):Int),mkT (h:Nat) ((1:Nat):Int)⟩=true ∧
  (⟨nm,(k:Nat),(m:Nat),(q:Nat),0,(s1:Nat),(s2:Nat),(s3:Nat),(s4:Nat),ms,rp,mkT (g:Nat) ((8:Nat):Int),mkT (h:Nat) ((1:Nat):Int)⟩:cG).Ok:=by
 have G:=SmF.mk' (a:=g) (b:=8) (by omega) (by decide) (by decide)
 have Z:=SmF.mk' (a:=h) (b:=1) (by omega) (by decide) (by decide)
 obtain⟨f,hf,hms⟩:=hms
 constructor
 ·unfold iH TM NF
  simp only[bhO,List.all_cons,List.all_nil,bjD]
  refine⟨⟨⟨⟨⟨⟨⟨⟨dM (by omega) (by omega),dM (by omega) (by omega)⟩,decide_eq_true (by omega)⟩,dM (by omega) (by omega)⟩,rfl⟩,dM (by omega) (by omega),dM (by omega) (by omega),dM (by omega) (by omega),dM (by omega) (by omega),dM (by omega) (by omega)⟩,?_⟩,⟨⟨⟨⟨decide_eq_true (by rw[hrl]; omega),?_⟩,G.lim⟩,G.one (by omega)⟩,Z.lim⟩⟩,?_⟩
  ·rcases hms with e | ⟨-,e⟩<;>rw[e]<;>rfl
  ·rw[bhW]
   intro x hx
   rw[(hrp x hx).1.lim,(hrp x hx).2]
   rfl
  ·rw[bhW]
   rcases hms with rfl | ⟨rfl,rfl⟩
   ·intro j hj
    simp only[bjJ,bjB,biM] at hj
    have:j=0:=by omega
    subst this
    rw[bhO]
    exact⟨dM (by simp) (by simp; omega),by simp⟩
   ·intro j hj
    simp only[bjJ,bjB,biM] at hj
    have:j=0∨j=1:=by omega
    rcases this with rfl | rfl
    ·rw[bhO]
     exact⟨dM (by simp) (by simp; omega),by simp⟩
    ·rw[bhO]
     refine⟨dM (by simp; omega) (by simp; omega),?_⟩
     have:¬ (1-(f:Int)=f):=by omega
     simp[this]
 ·refine⟨by unfold dV; constructor<;>simp only<;>omega,by unfold dV; constructor<;>simp only<;>omega,by unfold dV; constructor<;>simp only<;>omega,?_,?_,⟨?_,fun x hx=>(hrp x hx).1.ok⟩,G.ok,Z.ok⟩
  ·show ms.length≤_
   rcases hms with e | ⟨-,e⟩<;>rw[e]<;>simp
  ·show ∀ x∈ms,dV x
   unfold dV
   rcases hms with e | ⟨h2,e⟩<;>rw[e]<;>intro x hx<;>simp only[bhF,bhM,or_false] at hx
   ·subst hx; omega
   ·rcases hx with rfl | rfl<;>omega
  ·show rp.length≤_
   rw[hrl]; omega
theorem akY (l:List Nat) {mc:Nat} (h0:0<mc) (h2:mc≤2) (i a:Nat):(jV l mc i a).1.name=[112]++bO i∧iH mc (jV l mc i a).1=true∧(jV l mc i a).1.Ok:=by
 refine⟨rfl,?_⟩
 have hk:=bM l (show 0<2 by decide) a
 have hm:=bM l (show 0<3 by decide) (aC l 2 a).2
 have hh:=bM l (show 0<4 by decide) (aC l 3 (aC l 2 a).2).2
 unfold jV
 simp only
 generalize aC l 2 a=k at *
 generalize aC l 3 k.2=m at *
 generalize aC l 4 m.2=h at *
 have hq:=bM l (show 0<m.1+1 by omega) h.2
 generalize aC l (m.1+1) h.2=q at *
 obtain⟨r1,r2⟩:=aGS l q.2 (max m.1 1)
 generalize gY l q.2 (max m.1 1)=r at *
 have hg:=bM l (show 0<9 by decide) r.2
 generalize aC l 9 r.2=g at *
 obtain⟨n1,e1,b1⟩:=tZ l g.2
 generalize fN l g.2=s1 at *
 obtain⟨n2,e2,b2⟩:=tZ l s1.2
 generalize fN l s1.2=s2 at *
 obtain⟨n3,e3,b3⟩:=tZ l s2.2
 generalize fN l s2.2=s3 at *
 obtain⟨n4,e4,b4⟩:=tZ l s3.2
 generalize fN l s3.2=s4 at *
 have hf:=bM l h0 s4.2
 generalize aC l mc s4.2=f at *
 generalize aC l 2 f.2=b at *
 rw[e1,e2,e3,e4]
 refine a5C (by omega) (by omega) (by omega) (by omega) (by omega) b1 b2 b3 b4 (by omega) (by omega) r1 r2 h2 ⟨f.1,hf,?_⟩
 split
 ·rename_i hmc
  split
  ·exact .inr ⟨by omega,rfl⟩
  ·exact .inl rfl
 ·exact .inl rfl
theorem wU (l:List Nat) {mc:Nat} (h0:0<mc) (h2:mc≤2) (a:Nat):∀ n,(cV l mc a n).1.length=n∧∀ i (hi:i<(cV l mc a n).1.length),(cV l mc a n).1[i].name=[112]++bO i∧iH mc (cV l mc a n).1[i]=true∧(cV l mc a n).1[i].Ok
 | 0=>⟨rfl,fun i hi=>absurd hi (by simp[cV])⟩
 | n+1=>by
  obtain⟨k1,k2⟩:=wU l h0 h2 a n
  have e:(cV l mc a (n+1)).1=(cV l mc a n).1++[(jV l mc n (cV l mc a n).2).1]:=rfl
  rw[e]
  refine⟨by simp[k1],oR (P:=fun i (x:cG)=>x.name=[112]++bO i∧iH mc x=true∧x.Ok) k2 ?_⟩
  rw[k1]
  exact akY l h0 h2 n _
theorem BT (l:List Nat) {pc:Nat} (h0:0<pc) (a:Nat):∀ n,(dL l pc a n).1.length=n∧∀ i (hi:i<(dL l pc a n).1.length),(dL l pc a n).1[i].name=[118]++bO i∧∃ p:Nat,(dL l pc a n).1[i].policy=p∧p<pc
 | 0=>⟨rfl,fun i hi=>absurd hi (by simp[dL])⟩
 | n+1=>by
  obtain⟨k1,k2⟩:=BT l h0 a n
  have e:(dL l pc a (n+1)).1=(dL l pc a n).1++[⟨[118]++bO n,((aC l pc (dL l pc a n).2).1:Nat)⟩]:=rfl
  rw[e]
  refine⟨by simp[k1],oR (P:=fun i (x:fK)=>x.name=[118]++bO i∧∃ p:Nat,x.policy=p∧p<pc) k2 ?_⟩
  rw[k1]
  exact⟨rfl,_,rfl,bM l h0 _⟩
abbrev lvs (ds:List cK):List Int:=ds.map cK.level
def a9U (ds:List cK) (i:Nat) (d:cK):Prop:=∃ lev p u:Nat,d.name=[jE lev]++bO (i+1)∧d.level=lev∧1≤lev∧lev≤4∧d.parent=p∧p≤i∧(lvs ds)[p]?=some ((lev:Int)-1)∧d.uplink=u∧1≤u∧u≤16∧pM d.shock
def a4D (ds:List cK) (mc i:Nat) (d:cQ):Prop:=∃ m c:Nat,d.name=[100]++bO i∧d.model=m∧m<mc∧d.machine=c∧(lvs ds)[c]?=some 4
structure GV (mc drives:Nat) (s:GS):Prop where
 len:s.doms.length≤35
 drvs:s.drvs.length≤drives
 root:s.doms[0]?=some kE
 dom:∀ i (hi:i+1<s.doms.length),a9U s.doms i s.doms[i+1]
 drv:∀ i (hi:i<s.drvs.length),a4D s.doms mc i s.drvs[i]
theorem GV.a {mc drives:Nat} {s:GS} (h:GV mc drives s) (x:Nat):GV mc drives { s with a:=x }:=⟨h.len,h.drvs,h.root,h.dom,h.drv⟩
theorem apM (l:List Nat) {mc drives dom:Nat} (hmc:0<mc) {s:GS} (h:GV mc drives s) (hd:(lvs s.doms)[dom]?=some 4):∀ n,GV mc drives (gP l mc drives dom s n)∧(gP l mc drives dom s n).doms=s.doms
 | 0=>⟨h,rfl⟩
 | n+1=>by
  obtain⟨h1,h2⟩:=apM l hmc h hd n
  simp only[gP]
  generalize gP l mc drives dom s n=t at *
  split
  ·rename_i hlt
   refine⟨⟨h1.len,by simp only[bgW,bhA]; omega,h1.root,h1.dom,?_⟩,h2⟩
   refine oR (P:=fun i d=>a4D t.doms mc i d) h1.drv ?_
   exact⟨_,dom,rfl,rfl,bM l hmc _,rfl,by rw[h2]; exact hd⟩
  ·exact⟨h1,h2⟩
theorem MZ {ds:List cK} {p:Nat} {x:Int} {t:List cK} (h:(lvs ds)[p]?=some x):(lvs (ds++t))[p]?=some x:=by
 unfold lvs at *
 rw[biS,bjQ]
 ·exact h
 ·exact (biG.1 h).1
theorem aZN (l:List Nat) {mc drives dom level:Nat} {s:GS} (h:GV mc drives s) (hl1:1≤level) (hl:level≤4) (hd:(lvs s.doms)[dom]?=some ((level:Int)-1)) (hf:mZ drives s=false) :
  GV mc drives (kS l level dom s)∧(∃ t,(kS l level dom s).doms=s.doms++t)∧(kS l level dom s).doms.length=s.doms.length+1∧(lvs (kS l level dom s).doms)[s.doms.length]?=some (level:Int):=by
 unfold mZ at hf
 simp only[Bool.or_eq_false_iff,decide_eq_false_iff_not] at hf
 have hdl:dom<s.doms.length:=by
  have:=(biG.1 hd).1
  rwa [bgT] at this
 have hu:=bM l (show 0<16 by decide) s.a
 have hk:=bM l (show 0<6 by decide) (aC l 3 (aC l 16 s.a).2).2
 unfold kS
 simp only
 generalize aC l 16 s.a=u at *
 generalize aC l 3 u.2=t at *
 generalize aC l 6 t.2=k at *
 have hsh:pM (if t.1=0 then (mkT 1 ((2+k.1:Nat):Int),k.2) else (hJ,t.2)).1:=by
  split
  ·exact (SmF.mk' (a:=1) (b:=2+k.1) (by omega) (by omega) (by omega)).o
  ·exact mR.o
 generalize (if t.1=0 then (mkT 1 ((2+k.1:Nat):Int),k.2) else (hJ,t.2))=sh at *
 refine⟨⟨by simp only[bgW,bhA]; omega,h.drvs,?_,?_,fun i hi=>?_⟩,⟨_,rfl⟩,by simp,?_⟩
 ·rw[bjQ (by omega)]; exact h.root
 ·intro i hi
  simp only[bgW,bhA] at hi
  by_cases hlt:i+1<s.doms.length
  ·rw[List.getElem_append_left hlt]
   obtain⟨lev,p,v,h1,h2,h3,h4,h5,h6,h7,h8⟩:=h.dom i hlt
   exact⟨lev,p,v,h1,h2,h3,h4,h5,h6,MZ h7,h8⟩
  ·have:i+1=s.doms.length:=by omega
   rw[List.getElem_append_right (by omega)]
   simp only[List.getElem_singleton]
   exact⟨level,dom,1+u.1,by rw[this],rfl,hl1,hl,rfl,by omega,MZ hd,rfl,by omega,by omega,hsh⟩
 ·obtain⟨m,c,h1,h2,h3,h4,h5⟩:=h.drv i hi
  exact⟨m,c,h1,h2,h3,h4,MZ h5⟩
 ·unfold lvs
  rw[biS,bjU (by rw[bgT]; exact bgX _),bgT,Nat.sub_self]
  rfl
theorem apN (l:List Nat) {mc drives dom level:Nat} (hl1:1≤level) (hl:level≤4) {rec:Nat→GS→GS}
  (hrec:∀ d t,GV mc drives t→(lvs t.doms)[d]?=some (level:Int)→GV mc drives (rec d t)∧∃ u,(rec d t).doms=t.doms++u) {s:GS} (h:GV mc drives s) (hd:(lvs s.doms)[dom]?=some ((level:Int)-1)) :
  ∀ n,GV mc drives (fB l level drives dom rec s n)∧∃ u,(fB l level drives dom rec s n).doms=s.doms++u
 | 0=>⟨h,[],by simp[fB]⟩
 | n+1=>by
  obtain⟨h1,u,h2⟩:=apN l hl1 hl hrec h hd n
  simp only[fB]
  generalize fB l level drives dom rec s n=t at *
  split
  ·exact⟨h1,u,h2⟩
  ·rename_i hf
   have hdt:(lvs t.doms)[dom]?=some ((level:Int)-1):=by rw[h2]; exact MZ hd
   obtain⟨k1,⟨v,k2⟩,k3,k4⟩:=aZN l h1 hl1 hl hdt (by simpa using hf)
   obtain⟨m1,w,m2⟩:=hrec ((kS l level dom t).doms.length-1) (kS l level dom t) k1 (by rw[k3,Nat.add_sub_cancel]; exact k4)
   exact⟨m1,u++(v++w),by rw[m2,k2,h2]; simp⟩
theorem apO (l:List Nat) {mc drives:Nat} (hmc:0<mc):∀ (k:Nat),k≤4→∀ (dom:Nat) {s:GS},GV mc drives s→(lvs s.doms)[dom]?=some (4-(k:Int))→GV mc drives (dX l mc drives k dom s)∧∃ u,(dX l mc drives k dom s).doms=s.doms++u
 | 0,_,dom,s,h,hd=>by
  simp only[dX]
  obtain⟨h1,h2⟩:=apM l hmc (h.a (aC l 2 s.a).2) hd (1+(aC l 2 s.a).1)
  exact⟨h1,[],by rw[h2]; simp⟩
 | k+1,hk,dom,s,h,hd=>by
  simp only[dX]
  refine apN l (by omega) (by omega) (fun d t ht hdt=>apO l hmc k (by omega) d ht ?_) (h.a (aC l 2 s.a).2) ?_ _
  ·rw[hdt]; congr 1; omega
  ·rw[hd]; congr 1; omega
end Go.PM
namespace Go.PM
open Go Go.Na
theorem aeS (lev:Nat) (h1:1≤lev) (h4:lev≤4):gB (jE lev).toNat=true∧jE lev≠100:=by
 have:lev=1∨lev=2∨lev=3∨lev=4:=by omega
 rcases this with rfl | rfl | rfl | rfl<;>decide
theorem aaI (c:UInt8) {k:Nat} (hk:k<100):NK (([c]++bO k).drop 1)=k:=by
 show NK (bO k)=k
 rw[IH hk]
 exact (amU ⟨k,hk⟩).1
theorem aAG {mc drives:Nat} {s:GS} (h:GV mc drives s) (hd:drives≤60):distinct ((s.doms.drop 1).map cK.name++s.drvs.map cQ.name)=true:=by
 have hA:∀ i (hi:i<((s.doms.drop 1).map cK.name).length),∃ lev:Nat,1≤lev∧lev≤4∧((s.doms.drop 1).map cK.name)[i]=[jE lev]++bO (i+1):=by
  intro i hi
  rw[bgT,biR] at hi
  obtain⟨lev,p,u,h1,-,h3,h4,-⟩:=h.dom i (by omega)
  refine⟨lev,h3,h4,?_⟩
  rw[biI,List.getElem_drop]
  simp only[Nat.add_comm 1 i]
  exact h1
 have hB:∀ i (hi:i<(s.drvs.map cQ.name).length),(s.drvs.map cQ.name)[i]=[100]++bO i:=by
  intro i hi
  rw[bgT] at hi
  obtain⟨m,c,h1,-⟩:=h.drv i hi
  rw[biI]; exact h1
 have lA:((s.doms.drop 1).map cK.name).length≤40:=by rw[bgT,biR]; have:=h.len; omega
 have lB:(s.drvs.map cQ.name).length≤60:=by rw[bgT]; have:=h.drvs; omega
 generalize (s.doms.drop 1).map cK.name=A at *
 generalize s.drvs.map cQ.name=B at *
 refine NP ?_ ?_
 ·intro x hx
  rcases biO.1 hx with hx | hx
  ·obtain⟨i,hi,rfl⟩:=biL hx
   obtain⟨lev,h1,h4,e⟩:=hA i hi
   rw[e]
   exact acG rfl (aeS lev h1 h4).1 rfl (by simp) (by omega)
  ·obtain⟨i,hi,rfl⟩:=biL hx
   rw[hB i hi]
   exact acG rfl (by decide) rfl (by simp) (by omega)
 ·rw[bjK]
  refine⟨?_,?_,?_⟩
  ·refine JF (g:=fun s=>NK (s.drop 1)-1) fun i hi=>?_
   obtain⟨lev,-,-,e⟩:=hA i hi
   rw[e,aaI _ (by omega)]
   omega
  ·refine JF (g:=fun s=>NK (s.drop 1)) fun i hi=>?_
   rw[hB i hi]
   exact aaI _ (by omega)
  ·intro x hx y hy e
   obtain⟨i,hi,rfl⟩:=biL hx
   obtain⟨j,hj,rfl⟩:=biL hy
   obtain⟨lev,h1,h4,e1⟩:=hA i hi
   rw[e1,hB j hj] at e
   exact (aeS lev h1 h4).2 (List.cons.inj e).1
theorem aWQ {mc drives a:Nat}:GV mc drives ⟨[kE],[],a⟩ :=
 ⟨by simp,bhE _,rfl,fun i hi=>absurd hi (by simp),fun i hi=>absurd hi (by simp)⟩
theorem a0O {mc drives:Nat} {s:GS} (h:GV mc drives s) (f:aG) (hf:f.domains=s.doms):lZ f=true:=by
 have hr:=h.root
 have hdom:=h.dom
 unfold lZ
 rw[hf]
 cases hdm:s.doms with
 | nil=>rw[hdm] at hr; cases hr
 | cons r t =>
  rw[hdm] at hr
  have:r=kE:=by simpa using hr
  subst this
  show MK f kE t=true
  unfold MK
  simp only[bhO]
  refine⟨⟨⟨⟨⟨⟨rfl,rfl⟩,rfl⟩,rfl⟩,mR.lim⟩,by rw[show kE.shock=hJ from rfl,mR.zero]; rfl⟩,?_⟩
  rw[bhW]
  intro i hi
  rw[biM] at hi
  rw[bhH hi]
  obtain⟨lev,p,u,h1,h2,h3,h4,h5,h6,h7,h8,h9,h10,h11⟩:=hdom i (by rw[hdm]; simp; omega)
  have e:s.doms[i+1]'(by rw[hdm]; simp; omega)=t[i]:=by simp[hdm]
  rw[e] at h1 h2 h5 h8 h11
  show RC f i t[i]=true
  unfold RC
  simp only[bhO]
  refine⟨⟨⟨⟨?_,?_⟩,?_⟩,?_⟩,h11.lim⟩
  ·rw[h5]; exact dM (by omega) (by omega)
  ·rw[h5,h2,hf,bjT,bhQ,h7,aaX (by omega) (by omega)]
   exact decide_eq_true rfl
  ·rw[h2]; exact dM (by omega) (by omega)
  ·rw[h8]; exact dM (by omega) (by omega)
theorem mJ (l:List Nat) (drives volumes a:Nat) (hd:drives≤24) (hv:volumes≤12) :
  cU (fD l drives volumes a).1=true∧(fD l drives volumes a).1.Ok:=by
 unfold fD
 simp only
 have he:=bM l (show 0<2 by decide) a
 generalize aC l 2 a=e at *
 have hlw:=bM l (show 0<2 by decide) e.2
 generalize aC l 2 e.2=lw at *
 obtain⟨w1,w2⟩:=NV l lw.2 (1+lw.1)
 generalize fL l lw.2 (1+lw.1)=laws at *
 have hmd:=bM l (show 0<2 by decide) laws.2
 generalize aC l 2 laws.2=md at *
 obtain⟨m1,m2⟩:=GN l (1+lw.1) (by omega) md.2 (1+md.1)
 generalize dJ l (1+lw.1) md.2 (1+md.1)=models at *
 obtain⟨G,-⟩:=apO l (mc:=1+md.1) (drives:=drives) (by omega) 4 (by decide) 0 (s:=⟨[kE],[],models.2⟩) aWQ rfl
 generalize dX l (1+md.1) drives 4 0 ⟨[kE],[],models.2⟩=g at *
 have hpl:=bM l (show 0<2 by decide) g.a
 generalize aC l 2 g.a=pl at *
 obtain⟨p1,p2⟩:=wU l (mc:=1+md.1) (by omega) (by omega) pl.2 (1+pl.1)
 generalize cV l (1+md.1) pl.2 (1+pl.1)=pols at *
 have hvo:=bM l (show 0<volumes+1 by omega) pols.2
 generalize aC l (volumes+1) pols.2=vo at *
 obtain⟨v1,v2⟩:=BT l (pc:=1+pl.1) (by omega) vo.2 vo.1
 generalize dL l (1+pl.1) vo.2 vo.1=vols at *
 have g1:=G.len
 have g2:=G.drvs
 have hdp:∀ f:aG,f.domains=g.doms→lZ f=true:=fun f hf=>a0O G f hf
 have hfit:∀ n:Nat,n≤1000→n≤9223372036854775807:=fun n h=>by omega
 have hdrv:∀ x∈g.drvs,∃ m c:Nat,x.model=m∧m<1+md.1∧x.machine=c∧c<g.doms.length∧(lvs g.doms)[c]?=some 4:=by
  intro x hx
  obtain⟨i,hi,rfl⟩:=biL hx
  obtain⟨m,c,-,h2,h3,h4,h5⟩:=G.drv i hi
  refine⟨m,c,h2,h3,h4,?_,h5⟩
  have:=(biG.1 h5).1
  rwa [bgT] at this
 constructor
 ·unfold cU
  rw[hdp _ rfl]
  simp only[bhO,bjD]
  refine⟨⟨?_,⟨⟨⟨⟨?_,?_⟩,?_⟩,?_⟩,?_⟩⟩,⟨⟨⟨?_,?_⟩,aAG G (by omega)⟩,?_⟩,?_⟩
  ·unfold mO
   simp only[bhO]
   exact⟨⟨⟨⟨⟨⟨dM (by omega) (by omega),decide_eq_true (by omega)⟩,decide_eq_true (by omega)⟩,decide_eq_true (by omega)⟩,decide_eq_true (by omega)⟩,decide_eq_true (by omega)⟩,decide_eq_true (by omega)⟩
  ·exact uJ fun i hi=>(w2 i hi).2.1
  ·refine uJ fun i hi=>?_
   obtain⟨-,x,y,z,e1,e2,e3,e4,e5,e6,e7,e8⟩:=m2 i hi
   unfold kC
   simp only[bhO]
   rw[e1,e4,e7,w1]
   exact⟨⟨dM (by omega) (by omega),dM (by omega) (by omega)⟩,dM (by omega) (by omega)⟩
  ·rw[bhW]
   intro x hx
   obtain⟨m,c,e1,e2,e3,e4,e5⟩:=hdrv x hx
   unfold iO
   simp only[bhO]
   rw[e1,e3,m1,bjT,bhQ,e5]
   exact⟨⟨dM (by omega) (by omega),dM (by omega) (by omega)⟩,rfl⟩
  ·refine uJ fun i hi=>?_
   rw[m1]; exact (p2 i hi).2.1
  ·refine uJ fun i hi=>?_
   obtain⟨-,p,e1,e2⟩:=v2 i hi
   unfold lW
   rw[e1,p1]
   exact dM (by omega) (by omega)
  ·refine pW (p:=[108,97,119]) rfl (by decide) (by decide) (by decide) (by rw[bgT]; omega) fun i hi=>?_
   rw[biI]; exact (w2 i (by simpa using hi)).1
  ·refine pW (p:=[109]) rfl (by decide) (by decide) (by decide) (by rw[bgT]; omega) fun i hi=>?_
   rw[biI]; exact (m2 i (by simpa using hi)).1
  ·refine pW (p:=[112]) rfl (by decide) (by decide) (by decide) (by rw[bgT]; omega) fun i hi=>?_
   rw[biI]; exact (p2 i (by simpa using hi)).1
  ·refine pW (p:=[118]) rfl (by decide) (by decide) (by decide) (by rw[bgT]; omega) fun i hi=>?_
   rw[biI]; exact (v2 i (by simpa using hi)).1
 ·refine⟨hfit laws.1.length (by omega),hfit models.1.length (by omega),hfit g.doms.length (by omega),hfit g.drvs.length (by omega),hfit pols.1.length (by omega),hfit vols.1.length (by omega),?_,?_,?_,?_,?_⟩
  ·intro x hx
   obtain⟨i,hi,rfl⟩:=biL hx
   exact (w2 i hi).2.2
  ·intro x hx
   obtain⟨i,hi,rfl⟩:=biL hx
   rcases bjA i with rfl | hp
   ·have:g.doms[0]=kE:=by have:=G.root; rw[bhH hi] at this; exact biY.inj this
    rw[this]
    exact⟨mR.ok,by unfold dV; decide,by unfold dV; decide⟩
   ·obtain⟨k,rfl⟩:∃ k,i=k+1:=⟨i-1,by omega⟩
    obtain⟨lev,p,u,h1,h2,h3,h4,h5,h6,h7,h8,h9,h10,h11⟩:=G.dom k hi
    have hi':k+1<g.doms.length:=hi
    rw[h2,h5]
    exact⟨h11.ok,by unfold dV; omega,by unfold dV; omega⟩
  ·intro x hx
   obtain⟨m,c,e1,e2,e3,e4,e5⟩:=hdrv x hx
   rw[e1,e3]
   unfold dV; omega
  ·intro x hx
   obtain⟨i,hi,rfl⟩:=biL hx
   exact (p2 i hi).2.2
  ·intro x hx
   obtain⟨i,hi,rfl⟩:=biL hx
   obtain⟨-,p,e1,e2⟩:=v2 i hi
   rw[e1]
   unfold dV; omega
end Go.PM
namespace Go.PM
open Go
def aiK:Rg:=[iA 1 (.box true (Tm 0)),iA 2 (.mv (.const (.bool false)))]
def aiL:Rg:=[iA 3 (.load (some 7) (Tm 1)),iA 4 (.call 96 [(Tm 3)]),iC 5 .eql 4 0,iM 2 5]
def zW:aD:=(.seq (.region aiK) (.seq (.region aiL) .ret))
def aSF:List Nat:=[1]
def KV:bG:=⟨1,6,zW,[.tmp 2]⟩
def awN:Rg:=[iA 2 (.box true (Tm 0)),iI 4 0]
def awO:Rd:=[(iF 6 5 2,false),(iL 7 6,false),(iF 8 6 2,false),(iL 9 8,false),(iM 10 1,false),(iX 11 2 9 10,false),(iF 12 1 11,false),(iL 13 12,false),(iX 14 17 7 13,false),(iA 15 (.load (some 17) (Tm 14)),false),(iA 5 (.alloc [(.str []),(.int .i64 0),(.int .i64 0),(.int .i64 0),(.int .i64 0),(.int .i64 0),(.int .i64 0),(.int .i64 0),(.int .i64 0),.nils,.nils,(.bool false),.nils,.nils,(.bool false),.nils,.nils]),true),(iS 17 5 15,true)]
def awP:Rg:=[iF 16 1 5,iL 17 16,iF 18 2 5,iL 19 18,iB 20 .add 17 19,iM 4 20]
def FD:aD:=(.seq (.region awN) (.seq (.draw awO) (.seq (.region awP) .ret)))
def aXD:List Nat:=[2]
def ZP:bG:=⟨2,21,FD,[.tmp 4]⟩
def ahF:Rg:=[iA 3 (.box true (Tm 0)),iI 6 0]
def ahG:Rg:=[iF 8 4 3,iL 9 8,iM 10 1,iX 11 3 9 10,iF 12 2 11,iL 13 12,iM 7 13]
def ahH:Rg:=[iF 14 3 3,iL 15 14,iM 16 7,iX 17 7 15 16,iF 18 1 17,iL 19 18,iM 20 2,iB 21 .gtr 19 20]
def ahI:Rg:=[iF 22 3 3,iL 23 22,iM 24 7,iX 25 7 23 24,iF 26 2 25,iL 27 26,iM 7 27]
def ahE:aD:=(.seq (.seq (.region ahH) (.cond (Tm 21) .skip (.exit 0))) (.block 1 (.region ahI)))
def ahJ:Rg:=[iM 28 7,iM 6 28]
def zR:aD:=(.seq (.region ahF) (.seq (.region ahG) (.seq (.block 0 (.loop ahE)) (.seq (.region ahJ) .ret))))
def aRM:List Nat:=[3]
def KL:bG:=⟨3,29,zR,[.tmp 6]⟩
def awS:Rg:=[iA 2 (.box true (Tm 0)),iA 4 (.mv (.const .nils))]
def awT:Rg:=[iA 7 (.load (some 7) (Tm 2)),iA 8 (.call 161 [(Tm 7)]),iA 9 (.un .not (Tm 8))]
def awU:Rg:=[iA 4 (.mv (.const .nils))]
def awV:Rg:=[iF 10 4 2,iL 11 10,iN 12 11,iA 13 (.mkslice 1 8 [(.int .i64 0)] (Tm 12) (Tm 12)),iM 5 13]
def awW:Rg:=[iM 14 5,iN 15 14,iI 16 0]
def awX:Rg:=[iB 17 .lss 16 15]
def awY:Rg:=[iM 18 16,iM 6 18]
def awZ:Rd:=[(iM 19 5,false),(iM 20 6,false),(iF 21 2 2,false),(iL 22 21,false),(iF 23 4 2,false),(iL 24 23,false),(iM 25 6,false),(iX 26 3 24 25,false),(iF 27 1 26,false),(iL 28 27,false),(iX 29 4 22 28,false),(iF 30 1 29,false),(iL 31 30,false),(iX 32 1 19 20,false),(iS 1 32 31,true)]
def axA:Rg:=[iM 33 1,iN 34 33,iM 35 5,iN 36 35,iB 37 .eql 34 36]
def axB:Rd:=[(iM 38 5,false),(iM 39 6,false),(iM 40 1,false),(iM 41 6,false),(iX 42 1 40 41,false),(iL 43 42,false),(iA 44 (.minmax true (Tm 43) (Ci 0)),false),(iM 45 5,false),(iM 46 6,false),(iX 47 1 45 46,false),(iL 48 47,false),(iA 49 (.minmax false (Tm 44) (Tm 48)),false),(iX 50 1 38 39,false),(iS 1 50 49,true)]
def KT:Rg:=[iC 51 .add 16 1,iM 16 51]
def aiB:aD:=(.seq (.region awX) (.seq (.cond (Tm 17) .skip (.exit 0)) (.seq (.block 1 (.seq (.region awY) (.seq (.draw awZ) (.seq (.region axA) (.cond (Tm 37) (.draw axB) .skip))))) (.region KT))))
def aiC:Rg:=[iM 52 5,iM 4 52]
def FH:aD:=(.seq (.region awS) (.seq (.seq (.region awT) (.cond (Tm 9) (.seq (.region awU) .ret) .skip)) (.seq (.region awV) (.seq (.seq (.region awW) (.block 0 (.loop aiB))) (.seq (.region aiC) .ret)))))
def aXF:List Nat:=[2]
def uC:bG:=⟨2,53,FH,[.tmp 4]⟩
def aRN:Rg:=[iA 3 (.box true (Tm 0)),iI 6 0]
def aRO:Rg:=[iA 7 (.load (some 7) (Tm 3)),iA 8 (.call 161 [(Tm 7)]),iA 9 (.un .not (Tm 8)),iM 10 9,iG 11 (.mv (Tm 1)) 10 false,iG 12 (.bin .lss (Tm 11) (Ci 0)) 10 false,iA 13 (.pick (Tm 10) (.const (.bool true)) (Tm 12)),iM 14 13,iG 15 (.mv (Tm 1)) 14 false,iG 16 (.fieldA 4 (Tm 3)) 14 false,iG 17 (.load none (Tm 16)) 14 false,iG 18 (.len (Tm 17)) 14 false,iG 19 (.bin .geq (Tm 15) (Tm 18)) 14 false,iA 20 (.pick (Tm 14) (.const (.bool true)) (Tm 19)),iM 21 20,iG 22 (.mv (Tm 2)) 21 false,iG 23 (.bin .lss (Tm 22) (Ci 0)) 21 false,iA 24 (.pick (Tm 21) (.const (.bool true)) (Tm 23)),iM 25 24,iG 26 (.mv (Tm 2)) 25 false,iG 27 (.bin .geq (Tm 26) (Ci 5)) 25 false,iA 28 (.pick (Tm 25) (.const (.bool true)) (Tm 27))]
def BO:Rg:=[iI 6 (-1)]
def aRP:Rg:=[iA 29 (.load (some 7) (Tm 3)),iM 30 1,iM 31 2,iA 32 (.call 155 [(Tm 29),(Tm 30),(Tm 31)]),iM 6 32]
def TX:aD:=(.seq (.region aRN) (.seq (.seq (.region aRO) (.cond (Tm 28) (.seq (.region BO) .ret) .skip)) (.seq (.region aRP) .ret)))
def a5Q:List Nat:=[3]
def tat:bG:=⟨3,33,TX,[.tmp 6]⟩
def ZH:Rg:=[iA 2 (.box true (Tm 0)),iA 4 (.mv (.const .nils))]
def ZI:Rg:=[iA 5 (.mv (.const .nils))]
def ZJ:Rg:=[iA 7 (.load (some 7) (Tm 2)),iA 8 (.call 161 [(Tm 7)]),iA 9 (.un .not (Tm 8)),iM 10 9,iG 11 (.mv (Tm 1)) 10 false,iG 12 (.bin .lss (Tm 11) (Ci 0)) 10 false,iA 13 (.pick (Tm 10) (.const (.bool true)) (Tm 12)),iM 14 13,iG 15 (.mv (Tm 1)) 14 false,iG 16 (.fieldA 3 (Tm 2)) 14 false,iG 17 (.load none (Tm 16)) 14 false,iG 18 (.len (Tm 17)) 14 false,iG 19 (.bin .geq (Tm 15) (Tm 18)) 14 false,iA 20 (.pick (Tm 14) (.const (.bool true)) (Tm 19))]
def uA:Rg:=[iM 21 5,iM 4 21]
def ZK:Rg:=[iF 22 4 2,iL 23 22,iN 24 23,iI 25 0]
def ZL:Rg:=[iB 26 .lss 25 24]
def ZM:Rg:=[iM 27 25,iM 6 27]
def ZN:Rd:=[(iA 28 (.load (some 7) (Tm 2)),false),(iM 29 6,false),(iF 30 3 2,false),(iL 31 30,false),(iM 32 1,false),(iX 33 7 31 32,false),(iF 34 1 33,false),(iL 35 34,false),(iA 36 (.call 155 [(Tm 28),(Tm 29),(Tm 35)]),true),(iM 37 1,true),(iB 38 .eql 36 37,false)]
def ZO:Rg:=[iM 39 5,iM 40 6,iA 41 (.bslice true 1 1 [(.int .i64 0)] [(0,(Tm 40))]),iA 42 (.append 1 8 (Tm 39) (Tm 41)),iM 5 42]
def FC:Rg:=[iC 43 .add 25 1,iM 25 43]
def QF:aD:=(.seq (.region ZL) (.seq (.cond (Tm 26) .skip (.exit 0)) (.seq (.block 1 (.seq (.region ZM) (.seq (.draw ZN) (.cond (Tm 38) (.region ZO) .skip)))) (.region FC))))
def QG:Rg:=[iM 44 5,iM 4 44]
def wB:aD:=(.seq (.region ZH) (.seq (.region ZI) (.seq (.seq (.region ZJ) (.cond (Tm 20) (.seq (.region uA) .ret) .skip)) (.seq (.seq (.region ZK) (.block 0 (.loop QF))) (.seq (.region QG) .ret)))))
def aMK:List Nat:=[2,41]
def BP:bG:=⟨2,45,wB,[.tmp 4]⟩
def ahK:Rg:=[iA 2 (.box true (Tm 0)),iA 4 (.mv (.const .nils))]
def ahL:Rg:=[iA 5 (.mv (.const .nils))]
def ahM:Rg:=[iA 8 (.load (some 7) (Tm 2)),iA 9 (.call 161 [(Tm 8)]),iA 10 (.un .not (Tm 9)),iM 11 10,iG 12 (.mv (Tm 1)) 11 false,iG 13 (.bin .lss (Tm 12) (Ci 0)) 11 false,iA 14 (.pick (Tm 11) (.const (.bool true)) (Tm 13))]
def KN:Rg:=[iM 15 5,iM 4 15]
def ahN:Rg:=[iF 16 3 2,iL 17 16,iN 18 17,iI 19 0]
def ahO:Rg:=[iB 20 .lss 19 18]
def ahP:Rg:=[iM 21 19,iX 22 7 17 19,iA 23 (.load (some 7) (Tm 22)),iA 7 (.alloc [(.str []),(.int .i64 0),(.int .i64 0),(.int .i64 0),(.bool false),.nils,.nils]),iM 6 21,iS 7 7 23]
def KO:Rg:=[iF 24 2 7,iL 25 24,iM 26 1,iB 27 .eql 25 26]
def ahQ:Rg:=[iM 28 5,iM 29 6,iA 30 (.bslice true 1 1 [(.int .i64 0)] [(0,(Tm 29))]),iA 31 (.append 1 8 (Tm 28) (Tm 30)),iM 5 31]
def KP:Rg:=[iC 32 .add 19 1,iM 19 32]
def ZF:aD:=(.seq (.region ahO) (.seq (.cond (Tm 20) .skip (.exit 0)) (.seq (.block 1 (.seq (.region ahP) (.seq (.region KO) (.cond (Tm 27) (.region ahQ) .skip)))) (.region KP))))
def ZG:Rg:=[iM 33 5,iM 4 33]
def zS:aD:=(.seq (.region ahK) (.seq (.region ahL) (.seq (.seq (.region ahM) (.cond (Tm 14) (.seq (.region KN) .ret) .skip)) (.seq (.seq (.region ahN) (.block 0 (.loop ZF))) (.seq (.region ZG) .ret)))))
def aRR:List Nat:=[2,30]
def KM:bG:=⟨2,34,zS,[.tmp 4]⟩
def ahT:Rg:=[iA 2 (.box true (Tm 0)),iA 4 (.mv (.const .nils))]
def ahU:Rg:=[iF 10 4 2,iL 11 10,iN 12 11,iA 13 (.mkslice 1 8 [(.int .i64 0)] (Tm 12) (Tm 12)),iM 5 13]
def ahV:Rg:=[iM 14 1,iN 15 14,iI 16 0]
def ahW:Rg:=[iB 17 .lss 16 15]
def ahX:Rg:=[iX 18 1 14 16,iL 19 18,iM 7 19]
def ahY:Rg:=[iM 20 7,iN 21 20,iI 22 0]
def ahZ:Rg:=[iB 23 .lss 22 21]
def wZ:Rg:=[iX 24 1 20 22,iL 25 24,iM 9 25]
def xA:Rg:=[iM 26 9,iC 27 .geq 26 0,iM 28 27,iG 29 (.mv (Tm 9)) 28 true,iG 30 (.mv (Tm 5)) 28 true,iG 31 (.len (Tm 30)) 28 true,iG 32 (.bin .lss (Tm 29) (Tm 31)) 28 true,iA 33 (.pick (Tm 28) (Tm 32) (.const (.bool false)))]
def aiA:Rg:=[iM 34 5,iM 35 9,iX 36 1 34 35,iL 37 36,iC 38 .add 37 1,iX 39 1 34 35,iS 1 39 38]
def uB:Rg:=[iC 40 .add 22 1,iM 22 40]
def ZQ:aD:=(.seq (.region ahZ) (.seq (.cond (Tm 23) .skip (.exit 2)) (.seq (.block 3 (.seq (.region wZ) (.seq (.region xA) (.cond (Tm 33) (.region aiA) .skip)))) (.region uB))))
def FF:Rg:=[iC 41 .add 16 1,iM 16 41]
def ZR:aD:=(.seq (.region ahW) (.seq (.cond (Tm 17) .skip (.exit 0)) (.seq (.block 1 (.seq (.region ahX) (.seq (.region ahY) (.block 2 (.loop ZQ))))) (.region FF))))
def FG:Rg:=[iM 42 5,iM 4 42]
def zU:aD:=(.seq (.region ahT) (.seq (.region ahU) (.seq (.seq (.region ahV) (.block 0 (.loop ZR))) (.seq (.region FG) .ret))))
def aRW:List Nat:=[2]
def KR:bG:=⟨2,43,zU,[.tmp 4]⟩
def ahA:Rg:=[iA 2 (.box true (Tm 0)),iA 4 (.mv (.const .nils))]
def ahB:Rg:=[iA 5 (.load (some 7) (Tm 2)),iA 6 (.call 161 [(Tm 5)]),iA 7 (.un .not (Tm 6))]
def ahC:Rg:=[iA 4 (.mv (.const .nils))]
def ahD:Rg:=[iA 8 (.load (some 7) (Tm 2)),iM 9 1,iA 10 (.call 157 [(Tm 8),(Tm 9)]),iM 4 10]
def zQ:aD:=(.seq (.region ahA) (.seq (.seq (.region ahB) (.cond (Tm 7) (.seq (.region ahC) .ret) .skip)) (.seq (.region ahD) .ret)))
def aRK:List Nat:=[2]
def KK:bG:=⟨2,11,zQ,[.tmp 4]⟩
def aiE:Rg:=[iA 3 (.box true (Tm 0)),iA 6 (.alloc [(.int .i64 0),(.int .i64 0),(.int .i64 0)]),iA 7 (.mv (.const (.bool false)))]
def aiF:Rd:=[(iM 10 1,true),(iM 11 2,true),(iX 12 1 10 11,true),(iL 13 12,true),(iN 14 13,true),(iA 15 (.load (some 7) (Tm 3)),false),(iM 16 2,false),(iA 17 (.call 156 [(Tm 15),(Tm 16)]),true),(iB 18 .neq 14 17,false)]
def aiG:Rg:=[iM 19 2,iM 20 1,iM 21 2,iX 22 1 20 21,iL 23 22,iN 24 23,iA 25 (.build [(.int .i64 0),(.int .i64 0),(.int .i64 0)] [(0,1,(Ci 1)),(1,1,(Tm 19)),(2,1,(Tm 24))]),iS 3 6 25,iA 7 (.mv (.const (.bool true)))]
def aiH:Rg:=[iM 26 1,iM 27 2,iX 28 1 26 27,iL 29 28,iN 30 29,iI 31 0]
def aiI:Rg:=[iB 32 .lss 31 30]
def xB:Rg:=[iM 33 31,iX 34 1 29 31,iL 35 34,iM 8 33,iM 9 35]
def xC:Rg:=[iM 36 9,iC 37 .lss 36 (-1),iM 38 37,iG 39 (.mv (Tm 9)) 38 false,iG 40 (.fieldA 4 (Tm 3)) 38 false,iG 41 (.load none (Tm 40)) 38 false,iG 42 (.len (Tm 41)) 38 false,iG 43 (.bin .geq (Tm 39) (Tm 42)) 38 false,iA 44 (.pick (Tm 38) (.const (.bool true)) (Tm 43))]
def KU:Rg:=[iM 45 2,iM 46 8,iA 47 (.build [(.int .i64 0),(.int .i64 0),(.int .i64 0)] [(0,1,(Ci 1)),(1,1,(Tm 45)),(2,1,(Tm 46))]),iS 3 6 47,iA 7 (.mv (.const (.bool true)))]
def aiJ:Rg:=[iC 48 .add 31 1,iM 31 48]
def aiD:aD:=(.seq (.region aiI) (.seq (.cond (Tm 32) .skip (.exit 0)) (.seq (.block 1 (.seq (.region xB) (.seq (.region xC) (.cond (Tm 44) (.seq (.region KU) .ret) .skip)))) (.region aiJ))))
def ZU:Rg:=[iA 49 (.build [(.int .i64 0),(.int .i64 0),(.int .i64 0)] []),iS 3 6 49,iA 7 (.mv (.const (.bool false)))]
def zV:aD:=(.seq (.region aiE) (.seq (.seq (.draw aiF) (.cond (Tm 18) (.seq (.region aiG) .ret) .skip)) (.seq (.seq (.region aiH) (.block 0 (.loop aiD))) (.seq (.region ZU) .ret))))
def aSD:List Nat:=[3]
def wC:bG:=⟨3,50,zV,[.cell 6 (some 3),.tmp 7]⟩
def YW:Rg:=[iA 2 (.box true (Tm 0)),iA 4 (.mv (.const (.bool false)))]
def YX:Rg:=[iA 8 (.load (some 7) (Tm 2)),iA 9 (.call 161 [(Tm 8)]),iA 10 (.un .not (Tm 9)),iM 11 10,iG 12 (.mv (Tm 1)) 11 false,iG 13 (.len (Tm 12)) 11 false,iG 14 (.fieldA 6 (Tm 2)) 11 false,iG 15 (.load none (Tm 14)) 11 false,iG 16 (.len (Tm 15)) 11 false,iG 17 (.bin .neq (Tm 13) (Tm 16)) 11 false,iA 18 (.pick (Tm 11) (.const (.bool true)) (Tm 17))]
def EZ:Rg:=[iA 4 (.mv (.const (.bool false)))]
def YY:Rg:=[iM 19 1,iN 20 19,iI 21 0]
def YZ:Rg:=[iB 22 .lss 21 20]
def ZA:Rg:=[iM 23 21,iM 5 23]
def ZB:Rg:=[iA 25 (.load (some 7) (Tm 2)),iM 26 1,iM 27 5,iA 28 (.call 160 [(Tm 25),(Tm 26),(Tm 27)]),iM 24 28,iA 29 (.extract (Tm 24) 0),iA 30 (.extract (Tm 24) 1),iA 6 (.alloc [(.int .i64 0),(.int .i64 0),(.int .i64 0)]),iS 3 6 29,iM 7 30]
def FA:Rg:=[iM 31 7]
def ZC:Rg:=[iA 4 (.mv (.const (.bool false)))]
def ZD:Rg:=[iC 32 .add 21 1,iM 21 32]
def QD:aD:=(.seq (.region YZ) (.seq (.cond (Tm 22) .skip (.exit 0)) (.seq (.block 1 (.seq (.region ZA) (.seq (.region ZB) (.seq (.region FA) (.cond (Tm 31) (.seq (.region ZC) .ret) .skip))))) (.region ZD))))
def QE:Rg:=[iA 4 (.mv (.const (.bool true)))]
def wA:aD:=(.seq (.region YW) (.seq (.seq (.region YX) (.cond (Tm 18) (.seq (.region EZ) .ret) .skip)) (.seq (.seq (.region YY) (.block 0 (.loop QD))) (.seq (.region QE) .ret))))
def aMI:List Nat:=[2]
def BN:bG:=⟨2,33,wA,[.tmp 4]⟩
def aiW:Rg:=[iA 5 (.alloc [(.int .i64 0),(.int .i64 0),(.int .i64 0)])]
def aiX:Rg:=[iM 6 0,iL 7 2,iM 8 1,iA 9 (.build [(.int .i64 0),(.int .i64 0),(.int .i64 0)] [(0,1,(Tm 6)),(1,1,(Tm 7)),(2,1,(Tm 8))]),iS 3 5 9]
def zX:aD:=(.seq (.region aiW) (.seq (.region aiX) .ret))
def aSH:List Nat:=[]
def LC:bG:=⟨2,10,zX,[.cell 5 (some 3)]⟩
def axM:Rg:=[iA 3 (.box true (Tm 0)),iA 5 (.box false (Tm 2)),iA 6 (.mv (.const .nils))]
def axN:Rd:=[(iF 25 5 3,false),(iL 26 25,false),(iF 27 6 3,false),(iL 28 27,false),(iL 29 5,false),(iX 30 2 28 29,false),(iF 31 1 30,false),(iL 32 31,false),(iX 33 17 26 32,false),(iA 34 (.load (some 17) (Tm 33)),false),(iA 7 (.alloc [(.str []),(.int .i64 0),(.int .i64 0),(.int .i64 0),(.int .i64 0),(.int .i64 0),(.int .i64 0),(.int .i64 0),(.int .i64 0),.nils,.nils,(.bool false),.nils,.nils,(.bool false),.nils,.nils]),true),(iS 17 7 34,true)]
def axO:Rg:=[iF 35 2 3,iL 36 35,iN 37 36,iA 38 (.mkslice 1 1 [(.bool false)] (Tm 37) (Tm 37)),iM 8 38]
def axP:Rg:=[iF 39 9 7,iL 40 39,iN 41 40,iI 42 0]
def axQ:Rg:=[iB 43 .lss 42 41]
def axR:Rg:=[iX 44 1 40 42,iL 45 44,iM 10 45]
def axS:Rg:=[iM 46 8,iM 47 10,iX 48 1 46 47,⟨none,.store 1 (Tm 48) (.const (.bool true)),none⟩]
def axT:Rg:=[iC 49 .add 42 1,iM 42 49]
def axL:aD:=(.seq (.region axQ) (.seq (.cond (Tm 43) .skip (.exit 0)) (.seq (.block 1 (.seq (.region axR) (.region axS))) (.region axT))))
def axU:Rg:=[iA 50 (.mkfn 159 [(Tm 5)]),iM 11 50]
def aiY:Rg:=[iA 12 (.mv (.const .nils)),iA 13 (.mv (.const .nils))]
def aiZ:Rd:=[(iF 51 4 3,false),(iL 52 51,false),(iN 53 52,false),(iA 54 (.mkslice 1 8 [(.int .i64 0)] (Tm 53) (Tm 53)),true),(iF 55 3 3,false),(iL 56 55,false),(iN 57 56,false),(iA 58 (.mkslice 1 8 [(.int .i64 0)] (Tm 57) (Tm 57)),true),(iM 14 54,false),(iM 15 58,false)]
def ajA:Rg:=[iM 59 1,iL 60 5,iX 61 1 59 60,iL 62 61,iN 63 62,iI 64 0]
def sY:Rg:=[iB 65 .lss 64 63]
def xE:Rg:=[iM 66 64,iX 67 1 62 64,iL 68 67,iM 16 66,iM 17 68]
def xF:Rg:=[iM 69 17,iC 70 .lss 69 0]
def ajB:Rg:=[iM 71 12,iM 72 11,iM 73 16,iA 74 (.callv (Tm 72) [(Ci 2),(Tm 73)]),iA 75 (.bslice true 3 1 [(.int .i64 0),(.int .i64 0),(.int .i64 0)] [(0,(Tm 74))]),iA 76 (.append 3 24 (Tm 71) (Tm 75)),iM 12 76]
def LF:Rg:=[iM 77 8,iF 78 4 3,iL 79 78,iM 80 17,iX 81 3 79 80,iF 82 1 81,iL 83 82,iX 84 1 77 83,iL 85 84,iA 86 (.un .not (Tm 85))]
def ajC:Rg:=[iM 87 13,iM 88 11,iM 89 16,iA 90 (.callv (Tm 88) [(Ci 4),(Tm 89)]),iA 91 (.bslice true 3 1 [(.int .i64 0),(.int .i64 0),(.int .i64 0)] [(0,(Tm 90))]),iA 92 (.append 3 24 (Tm 87) (Tm 91)),iM 13 92]
def LG:Rg:=[iM 93 14,iM 94 17,iX 95 1 93 94,iL 96 95,iC 97 .add 96 1,iX 98 1 93 94,iS 1 98 97]
def LH:Rg:=[iF 99 4 3,iL 100 99,iM 101 17,iX 102 3 100 101,iF 103 2 102,iL 104 103,iM 18 104]
def ajD:Rg:=[iM 105 18,iC 106 .gtr 105 0]
def ajE:Rg:=[iM 113 15,iM 114 18,iX 115 1 113 114,iL 116 115,iC 117 .add 116 1,iX 118 1 113 114,iS 1 118 117]
def ajF:Rg:=[iF 107 3 3,iL 108 107,iM 109 18,iX 110 7 108 109,iF 111 2 110,iL 112 111,iM 18 112]
def xD:aD:=(.seq (.seq (.region ajD) (.cond (Tm 106) .skip (.exit 4))) (.seq (.block 5 (.region ajE)) (.region ajF)))
def xG:Rg:=[iC 119 .add 64 1,iM 64 119]
def pH:aD:=(.seq (.region sY) (.seq (.cond (Tm 65) .skip (.exit 2)) (.seq (.block 3 (.seq (.region xE) (.seq (.seq (.region xF) (.cond (Tm 70) (.seq (.region ajB) (.exit 3)) .skip)) (.seq (.seq (.region LF) (.cond (Tm 86) (.region ajC) .skip)) (.seq (.region LG) (.seq (.region LH) (.block 4 (.loop xD)))))))) (.region xG))))
def ajG:Rg:=[iM 120 12,iM 19 120]
def ajH:Rg:=[iM 121 14,iN 122 121,iI 123 0]
def ajI:Rg:=[iB 124 .lss 123 122]
def ajJ:Rg:=[iM 125 123,iX 126 1 121 123,iL 127 126,iM 20 125,iM 21 127]
def ajK:Rg:=[iM 128 21,iC 129 .gtr 128 1]
def ajL:Rg:=[iM 130 19,iM 131 11,iM 132 20,iA 133 (.callv (Tm 131) [(Ci 3),(Tm 132)]),iA 134 (.bslice true 3 1 [(.int .i64 0),(.int .i64 0),(.int .i64 0)] [(0,(Tm 133))]),iA 135 (.append 3 24 (Tm 130) (Tm 134)),iM 19 135]
def LJ:Rg:=[iC 136 .add 123 1,iM 123 136]
def LD:aD:=(.seq (.region ajI) (.seq (.cond (Tm 124) .skip (.exit 6)) (.seq (.block 7 (.seq (.region ajJ) (.seq (.region ajK) (.cond (Tm 129) (.region ajL) .skip)))) (.region LJ))))
def ajM:Rg:=[iM 137 19,iM 138 13,iA 139 (.append 3 24 (Tm 137) (Tm 138)),iM 19 139]
def ajN:Rg:=[iM 140 15,iN 141 140,iI 142 0]
def ajO:Rg:=[iB 143 .lss 142 141]
def ajP:Rg:=[iM 144 142,iX 145 1 140 142,iL 146 145,iM 22 144,iM 23 146]
def LK:Rg:=[iF 147 3 3,iL 148 147,iM 149 22,iX 150 7 148 149,iF 151 1 150,iL 152 151,iF 153 4 7,iA 154 (.idxA 5 1 (Tm 153) (Tm 152)),iL 155 154,iM 24 155]
def xH:Rg:=[iM 156 24,iC 157 .gtr 156 0,iM 158 157,iG 159 (.mv (Tm 23)) 158 true,iG 160 (.mv (Tm 24)) 158 true,iG 161 (.bin .gtr (Tm 159) (Tm 160)) 158 true,iA 162 (.pick (Tm 158) (Tm 161) (.const (.bool false)))]
def ajQ:Rg:=[iM 163 19,iM 164 11,iM 165 22,iA 166 (.callv (Tm 164) [(Ci 5),(Tm 165)]),iA 167 (.bslice true 3 1 [(.int .i64 0),(.int .i64 0),(.int .i64 0)] [(0,(Tm 166))]),iA 168 (.append 3 24 (Tm 163) (Tm 167)),iM 19 168]
def xI:Rg:=[iC 169 .add 142 1,iM 142 169]
def LE:aD:=(.seq (.region ajO) (.seq (.cond (Tm 143) .skip (.exit 8)) (.seq (.block 9 (.seq (.region ajP) (.seq (.region LK) (.seq (.region xH) (.cond (Tm 162) (.region ajQ) .skip))))) (.region xI))))
def ajR:Rg:=[iM 170 19,iM 6 170]
def FJ:aD:=(.seq (.region axM) (.seq (.draw axN) (.seq (.region axO) (.seq (.seq (.region axP) (.block 0 (.loop axL))) (.seq (.region axU) (.seq (.region aiY) (.seq (.draw aiZ) (.seq (.seq (.region ajA) (.block 2 (.loop pH))) (.seq (.region ajG) (.seq (.seq (.region ajH) (.block 6 (.loop LD))) (.seq (.region ajM) (.seq (.seq (.region ajN) (.block 8 (.loop LE))) (.seq (.region ajR) .ret)))))))))))))
def aXK:List Nat:=[3,75,91,134,167]
def alJ:bG:=⟨3,171,FJ,[.tmp 6]⟩
def axC:Rg:=[iA 3 (.box true (Tm 0)),iA 6 (.mv (.const .nils))]
def axD:Rg:=[iA 15 (.load (some 7) (Tm 3)),iA 16 (.call 161 [(Tm 15)]),iA 17 (.un .not (Tm 16)),iM 14 17]
def axE:Rg:=[iA 6 (.mv (.const .nils))]
def TY:Rg:=[iM 19 1,iN 20 19,iF 21 6 3,iL 22 21,iN 23 22,iB 24 .neq 20 23,iM 18 24]
def axF:Rg:=[iM 25 1,iN 26 25,iA 27 (.build [(.int .i64 0),(.int .i64 0),(.int .i64 0)] [(0,1,(Ci 1)),(1,1,(Ci (-1))),(2,1,(Tm 26))]),iA 28 (.bslice true 3 1 [(.int .i64 0),(.int .i64 0),(.int .i64 0)] [(0,(Tm 27))]),iM 6 28]
def axG:Rg:=[iA 7 (.mv (.const .nils))]
def axH:Rg:=[iM 29 1,iN 30 29,iI 31 0]
def axI:Rg:=[iB 32 .lss 31 30]
def axJ:Rg:=[iM 33 31,iM 8 33]
def axK:Rg:=[iA 35 (.load (some 7) (Tm 3)),iM 36 1,iM 37 8,iA 38 (.call 160 [(Tm 35),(Tm 36),(Tm 37)]),iM 34 38,iA 39 (.extract (Tm 34) 0),iA 40 (.extract (Tm 34) 1),iA 9 (.alloc [(.int .i64 0),(.int .i64 0),(.int .i64 0)]),iS 3 9 39,iM 10 40]
def KX:Rg:=[iM 41 10]
def aiN:Rg:=[iM 42 7,iA 43 (.load (some 3) (Tm 9)),iA 44 (.bslice true 3 1 [(.int .i64 0),(.int .i64 0),(.int .i64 0)] [(0,(Tm 43))]),iA 45 (.append 3 24 (Tm 42) (Tm 44)),iM 7 45]
def aiO:Rg:=[iM 46 7,iA 47 (.load (some 7) (Tm 3)),iM 48 1,iM 49 8,iA 50 (.call 158 [(Tm 47),(Tm 48),(Tm 49)]),iA 51 (.append 3 24 (Tm 46) (Tm 50)),iM 7 51]
def KY:Rg:=[iC 52 .add 31 1,iM 31 52]
def aiM:aD:=(.seq (.region axI) (.seq (.cond (Tm 32) .skip (.exit 1)) (.seq (.block 2 (.seq (.region axJ) (.seq (.seq (.region axK) (.seq (.region KX) (.cond (Tm 41) (.seq (.region aiN) (.exit 2)) .skip))) (.region aiO)))) (.region KY))))
def aiP:Rg:=[iA 53 (.load (some 7) (Tm 3)),iM 54 2,iA 55 (.call 152 [(Tm 53),(Tm 54)]),iM 11 55]
def aiQ:Rg:=[iA 56 (.load (some 7) (Tm 3)),iM 57 1,iA 58 (.call 157 [(Tm 56),(Tm 57)]),iN 59 58,iI 60 0]
def aiR:Rg:=[iB 61 .lss 60 59]
def aiS:Rg:=[iM 62 60,iX 63 1 58 60,iL 64 63,iM 12 62,iM 13 64]
def aiT:Rg:=[iM 65 13,iM 66 11,iM 67 12,iX 68 1 66 67,iL 69 68,iB 70 .gtr 65 69]
def aiU:Rg:=[iM 71 7,iM 72 12,iA 73 (.build [(.int .i64 0),(.int .i64 0),(.int .i64 0)] [(0,1,(Ci 6)),(1,1,(Ci (-1))),(2,1,(Tm 72))]),iA 74 (.bslice true 3 1 [(.int .i64 0),(.int .i64 0),(.int .i64 0)] [(0,(Tm 73))]),iA 75 (.append 3 24 (Tm 71) (Tm 74)),iM 7 75]
def KZ:Rg:=[iC 76 .add 60 1,iM 60 76]
def KW:aD:=(.seq (.region aiR) (.seq (.cond (Tm 61) .skip (.exit 3)) (.seq (.block 4 (.seq (.region aiS) (.seq (.region aiT) (.cond (Tm 70) (.region aiU) .skip)))) (.region KZ))))
def aiV:Rg:=[iM 77 7,iM 6 77]
def FI:aD:=(.seq (.region axC) (.seq (.block 0 (.seq (.region axD) (.cond (Tm 14) (.seq (.region axE) .ret) (.seq (.region TY) (.cond (Tm 18) (.seq (.region axF) .ret) .skip))))) (.seq (.region axG) (.seq (.seq (.region axH) (.block 1 (.loop aiM))) (.seq (.region aiP) (.seq (.seq (.region aiQ) (.block 3 (.loop KW))) (.seq (.region aiV) .ret)))))))
def aXI:List Nat:=[3,28,44,74]
def ZV:bG:=⟨3,78,FI,[.tmp 6]⟩
def ahR:Rg:=[iA 3 (.box true (Tm 0)),iA 6 (.mv (.const (.bool false)))]
def ahS:Rg:=[iA 7 (.load (some 7) (Tm 3)),iA 8 (.call 161 [(Tm 7)]),iM 9 8,iG 10 (.load (some 7) (Tm 3)) 9 true,iG 11 (.mv (Tm 1)) 9 true,iG 12 (.mv (Tm 2)) 9 true,iG 13 (.call 154 [(Tm 10),(Tm 11),(Tm 12)]) 9 true,iG 14 (.len (Tm 13)) 9 true,iG 15 (.bin .eql (Tm 14) (Ci 0)) 9 true,iA 16 (.pick (Tm 9) (Tm 15) (.const (.bool false))),iM 6 16]
def zT:aD:=(.seq (.region ahR) (.seq (.region ahS) .ret))
def aRU:List Nat:=[3]
def KQ:bG:=⟨3,17,zT,[.tmp 6]⟩
end Go.PM
namespace Go.PM
open Go Go.Na
theorem aSE {C:Ctx} (h:∀ f:aG,f.Ok→aJ C 96 [.agg f.cells] .nil (aL (.int .i64 (GB f)))) (f:aG) (hf:f.Ok) :
  zW.wp C (aY KV.res (bY (.bool (cU f)))) (PF.args [.agg f.cells]) .nil:=by
 simp -implicitDefEqProofs only[go_sem,δ,γ,zW,aiK,aiL,KV]
 refine aB (h f hf) rfl ?_
 simp -implicitDefEqProofs only[go_sem,γ]
 refine aU rfl ?_
 unfold GB
 cases cU f<;>rfl
theorem oW {f:aG} {d:Nat} (h:d<f.drives.length):(f.drives.map cQ.cells)[d]?=some (f.drives[d]).cells:=by simp[h]
theorem mV {f:aG} {d:Nat} (h:d<f.domains.length):(f.domains.map cK.cells)[d]?=some (f.domains[d]).cells:=by simp[h]
theorem uG {f:aG} {d:Nat} (h:d<f.volumes.length):(f.volumes.map fK.cells)[d]?=some (f.volumes[d]).cells:=by simp[h]
theorem sB {f:aG} {d:Nat} (h:d<f.policies.length):(f.policies.map cG.cells)[d]?=some (f.policies[d]).cells:=by simp[h]
theorem aPR {f:aG} {d:Nat} (h:d<f.models.length):(f.models.map cT.cells)[d]?=some (f.models[d]).cells:=by simp[h]
theorem arL {f:aG} {d:Nat} (h:d<f.domains.length):(f.domains[d]).level=lvl f d:=by rw[lvl,getD_at h]
theorem YO {f:aG} {d:Nat} (h:d<f.domains.length):(f.domains[d]).parent=par f d:=by rw[par,getD_at h]
theorem VF.aED {f:aG} (h:VF f) {d:Nat} (hd:d<f.drives.length):(f.drives[d]).machine=((fG f d:Nat):Int):=by
 have:=(h.drive d hd).2.2.1
 rw[fG,getD_at hd]; omega
theorem VF.WP {f:aG} (h:VF f) {d:Nat} (hd:d<f.drives.length):(f.drives[d]).model=((mdl f d:Nat):Int):=by
 have:=(h.drive d hd).1
 rw[mdl,getD_at hd]; omega
theorem VF.YQ {f:aG} (h:VF f) {v:Nat} (hv:v<f.volumes.length):(f.volumes[v]).policy=((JY f v:Nat):Int):=by
 have:=(h.volume v hv).1
 rw[JY,getD_at hv]; omega
theorem VF.aGQ {f:aG} (h:VF f) {i:Nat} (h0:0<i) (hi:i<f.domains.length):par f i=((TQ f i:Nat):Int):=by
 have:=(h.dom i h0 hi).1
 rw[TQ]; omega
theorem mN {f:aG} (h:VF f) {v:Nat} (hv:v<f.volumes.length):∃ hp:JY f v<f.policies.length,f.policies[JY f v]=eJ f v:=by
 have hp:=(h.volume v hv).2
 exact⟨hp,by simp[eJ,bhQ,hp]⟩
theorem aXC {C:Ctx} (f:aG) (hv:VF f) (v:Nat) (h:v<f.volumes.length) :
  FD.wp C (aY ZP.res (bY (.int .i64 (fR f v)))) (PF.args [.agg f.cells,.int .i64 v]) .nil:=by
 obtain⟨hp,he⟩:=mN hv h
 have hpol:=hv.policy _ (bgY hp)
 rw[he] at hpol
 have hw:IntKind.i64.wrap ((eJ f v).k+(eJ f v).m)=(eJ f v).k+(eJ f v).m:=wrap_i64 (by omega) (by omega)
 simp -implicitDefEqProofs only[go_sem,FD,awN,ZP]
 refine cA .nil dU PH.nil_le ?_
 simp -implicitDefEqProofs only[go_sem,δ,γ,θ,awO,uG h,hv.YQ h,sB hp,he]
 refine aQ fun o ho=>?_
 simp -implicitDefEqProofs only[go_sem,δ,γ,θ,awP,hw]
 refine⟨PH.nil_le,?_⟩
 exact fH (n:=(eJ f v).k+(eJ f v).m) rfl rfl
def abF (f:aG) (level:Int) (i:Nat):PF:=(((PF.nil.set 3 (.rptr f.cells)).set 2 (.int .i64 level)).set 7 (.int .i64 i))
theorem aRL {C:Ctx} (f:aG) (hv:VF f) (d:Nat) (h:d<f.drives.length) (level:Int) (h0:0≤level) (h4:level≤4) :
  zR.wp C (aY KL.res (bY (.int .i64 (fO f d level:Nat)))) (PF.args [.agg f.cells,.int .i64 d,.int .i64 level]) .nil:=by
 simp -implicitDefEqProofs only[go_sem,δ,γ,θ,zR,ahF,ahG,KL,oW h,hv.aED h]
 refine wp_loop (α:=Nat) (fun k=>abF f level (upN f k (fG f d))) (fun _=>.nil) (fun k=>k≤4-level.toNat) (fun k=>4-level.toNat-k) 0 (bhE _) ?_ PH.nil_le ?_
 ·unfold abF
  (repeat' (first|exact PF.nil_le|refine PF.aA ?_ ?_))<;>first|(simp -implicitDefEqProofs only[go_sem,γ,upN]<;>rfl)|rfl
 intro k hk
 obtain⟨u1,u2⟩:=LZ hv h (k:=k) (by omega)
 simp -implicitDefEqProofs only[go_sem,δ,γ,θ,ahE,ahH,abF,mV u1,arL u1]
 by_cases hlt:k<4-level.toNat
 ·have hc:lvl f (upN f k (fG f d))>level:=by rw[u2]; omega
  have hne:0<upN f k (fG f d):=by
   rcases bjA (upN f k (fG f d)) with e | e
   ·rw[e,hv.root.2.1] at u2; omega
   ·exact e
  simp -implicitDefEqProofs only[go_sem,δ,γ,θ,hc,ahI,mV u1,YO u1,hv.aGQ hne u1]
  refine aI (k+1) hlt (by omega) ?_ PH.nil_le
  (repeat' (first|exact PF.nil_le|refine PF.aA ?_ ?_))<;>first|(simp -implicitDefEqProofs only[go_sem,γ,upN]<;>rfl)|rfl
 ·have hc:¬ lvl f (upN f k (fG f d))>level:=by rw[u2]; omega
  have:k=4-level.toNat:=by omega
  subst this
  simp -implicitDefEqProofs only[go_sem,γ,hc,ahJ]
  exact fH rfl rfl
structure MI (C:Ctx):Prop where
 valid:∀ f:aG,f.Ok→aJ C 161 [.agg f.cells] .nil (aL (.bool (cU f)))
 lY:∀ (f:aG) (d:Nat) (level:Int),VF f→d<f.drives.length→0≤level→level≤4→aJ C 155 [.agg f.cells,.int .i64 d,.int .i64 level] .nil (aL (.int .i64 (fO f d level:Nat)))
 frag:∀ (f:aG) (v:Nat),VF f→v<f.volumes.length→aJ C 156 [.agg f.cells,.int .i64 v] .nil (aL (.int .i64 (fR f v)))
def atP (f:aG) (d level:Int):Int:=if cU f∧0≤d∧d<f.drives.length∧0≤level∧level<5 then (fO f d.toNat level:Nat) else -1
theorem a5P {C:Ctx} (L:MI C) (f:aG) (hf:f.Ok) (d level:Int) :
  TX.wp C (aY tat.res (bY (.int .i64 (atP f d level)))) (PF.args [.agg f.cells,.int .i64 d,.int .i64 level]) .nil:=by
 simp -implicitDefEqProofs only[go_sem,δ,γ,TX,aRN,aRO,tat]
 refine aB (L.valid f hf) rfl ?_
 unfold atP
 cases hv:cU f with
 | false =>
  simp -implicitDefEqProofs only[go_sem,ο,γ,reduceCtorEq,bhN,BO]
  exact fH rfl (by simp)
 | true =>
  have hV:=VF.of hv
  by_cases c1:d<0
  ·simp -implicitDefEqProofs only[go_sem,ο,γ,reduceCtorEq,bhC,c1,BO]
   exact fH rfl (by rw[if_neg (by omega)])
  ·by_cases c2:d≥(f.drives.length:Nat)
   ·simp -implicitDefEqProofs only[go_sem,ο,δ,γ,θ,reduceCtorEq,bhC,c1,bgT,c2,BO]
    exact fH rfl (by rw[if_neg (by omega)])
   ·by_cases c3:level<0
    ·simp -implicitDefEqProofs only[go_sem,ο,δ,γ,θ,reduceCtorEq,bhC,c1,bgT,c2,c3,BO]
     exact fH rfl (by rw[if_neg (by omega)])
    ·by_cases c4:level≥5
     ·simp -implicitDefEqProofs only[go_sem,ο,δ,γ,θ,reduceCtorEq,bhC,c1,bgT,c2,c3,c4,BO]
      exact fH rfl (by rw[if_neg (by omega)])
     ·simp -implicitDefEqProofs only[go_sem,ο,δ,γ,θ,reduceCtorEq,bhC,c1,bgT,c2,c3,c4,aRP]
      have hc:=L.lY f d.toNat level hV (by omega) (by omega) (by omega)
      rw[Int.toNat_of_nonneg (by omega)] at hc
      refine aB hc rfl ?_
      simp -implicitDefEqProofs only[go_sem,ο,γ]
      exact fH rfl (by rw[if_pos (by omega)])
end Go.PM
