/-
  Texts of ours, joined: FrW3 FrW4 FlCode Pm33 FlW1 FlPlain FlW2 Pm34 R1W1 R1W2 R1W3 R1W4 FlW3 FlW4 FlW5 FlW6 FlW7 FlW8 FlW9 ToPlain MkPlain Mv1 Mv2 Mv3 Mv4 ToCode ToW1. No condition.
-/
import Derived.Test.YtelckcmlobadkaaGreatDoorM1
import Derived.Test.YtelckcmlobadkaaGreatDoorM2
import Derived.Lib.ItoaNum
set_option linter.unusedSimpArgs false
set_option linter.unusedVariables false
open Nat renaming reduceEqDiff → γ, reduceAdd → δ, reduceSub → ε, reduceMul → ζ, reduceLT → η, reduceLeDiff → θ, reduceBEq → τ
open Int renaming reduceLT → ι, reduceLE → κ, reduceEq → μ, reduceToNat → ν, reduceAdd → ξ, reduceNeg → ο, reduceBEq → ρ, reduceBNe → σ
open List renaming reduceReplicate → υ
open List renaming length_map → bfT, replicate → bfV, length_append → bfW, length_singleton → bfZ, getElem_mem → bgA, mem_cons → bgD, getElem?_eq_getElem → bgF, take_of_length_le → bgH, length_take → bgJ, not_mem_nil → bgL, range → bgN, getD_eq_getElem?_getD → bgT, drop_zero → bgV, append_assoc → bgY, mem_map → bgZ, map_cons → bhA, take_length → bhB, getElem?_eq_none → bhD, all_eq_true → bhE, getElem?_eq_some_iff → bhF, getElem?_map → bhG, mem_append → bhJ, getElem_map → bhL, getElem_of_mem → bhM, append_nil → bhN, length_set → bhO, drop_eq_getElem_cons → bhP, length_drop → bhQ, length_nil → bhR, map_append → bhS, Sublist → bhU, map_nil → bhV, mem_range → bhW, take_append_drop → biC, mem_of_getElem? → biF, take_succ_eq_append_getElem → biG, length_cons → biH, nodup_append → biI, ext_getElem → biO, getElem?_append_left → biP, getElem?_take → biQ, nil_append → biR, getElem?_append_right → biT, set_append_right → biU, drop_of_length_le → bjA
open Nat renaming gcd → bfU, le_refl → bfX, mul_add → bgC, zero_le → bgE, lt_or_ge → bgI, mul_assoc → bgK, mul_comm → bgO, zero_add → bgQ, add_mul → bgS, mul_le_mul_right → bgU, mod_eq_of_lt → bgW, mod_lt → bgX, pow_succ → bhH, min_eq_left → bhT, add_assoc → bhX, add_zero → bhY, mul_le_mul_left → bhZ, eq_zero_or_pos → biB, pos_of_ne_zero → biD, pow_pos → biE, div_lt_iff_lt_mul → biJ, le_trans → biK, div_le_self → biS, div_add_mod → biV, div_eq_of_lt → biW
open Option renaming map_eq_some_iff → bfY, map_some → bhC, some → biA, getD_some → biM, bind_eq_some_iff → biX, bind_some → bjB
open Bool renaming not_true → bgB, false_and → bgG, not_false → bgM, and_eq_true → bgP, true_and → bgR, and_false → bhK, and_true → biN, false_eq_true → biZ
open Array renaming replicate → bhI, length_toList → biL, getElem?_eq_getElem → biY, getElem?_eq_some_iff → bjC
namespace Go.PM
open Go Go.Na
structure AR (C:Ctx):Prop extends pH C where
 times:∀ a b,Lim a→Lim b→a.length≤16777216→b.length≤16777216→nl (val a)≤256→nl (val b)≤256→aI C 121 [aF a,aF b] .nil (aL (aF (aG (val a*val b))))
 zero:∀ neg a b,Lim a→a.length≤16777216→aI C 122 [.agg (eW neg a b)] .nil (aL (.bool (decide (val a=0))))
 valid:∀ neg a b,Lim a→Lim b→a.length≤16777216→b.length≤16777216→aI C 118 [.agg (eW neg a b)] .nil (aL (.bool (dH (val a) (val b))))
 abs:∀ v:Int,-9223372036854775808≤v→v≤9223372036854775807→aI C 119 [.int .i64 v] .nil (aL (aF (aG v.natAbs)))
 lowest:∀ neg a b,Lim a→Lim b→a.length≤16777216→b.length≤16777216→nl (val a)≤512→nl (val b)≤512→val b≠0→aI C 120 [.bool neg,aF a,aF b] .nil (aL (CL neg (val a) (val b)))
def UU (n d:Int):PV:=if d=0 then vP 3 else CL (decide (n<0) != decide (d<0)) n.natAbs d.natAbs
theorem mI {n k:Nat} (h:n<4294967296 ^ k):nl n≤k:=(gM _ _).2 h
theorem apX (neg:Bool) (a b:Nat):∃ neg' x y e,CL neg a b=.tup [.agg (eW neg' x y),.int .i64 e]:=by
 unfold CL
 split
 ·exact⟨_,_,_,_,rfl⟩
 ·exact⟨_,_,_,_,rfl⟩
theorem aTP {C:Ctx} (L:AR C) (n d:Int) (h1:-9223372036854775808≤n) (h2:n≤9223372036854775807) (h3:-9223372036854775808≤d) (h4:d≤9223372036854775807) :
  BD.wp C (aX LP.res (bY (UU n d))) (PF.args [.int .i64 n,.int .i64 d]) .nil:=by
 simp -implicitDefEqProofs only[go_sem,δ,BD,alU,alV]
 refine aP fun o ho=>?_
 unfold UU
 by_cases c:d=0
 ·subst c
  simp -implicitDefEqProofs only[go_sem,ρ,δ,γ,alW]
  refine kX ?_
  simp -implicitDefEqProofs only[go_sem,δ,γ,LP]
 ·rw[if_neg c]
  simp -implicitDefEqProofs only[go_sem,γ,reduceCtorEq,bD c,alX]
  refine aB (L.abs n h1 h2) rfl ?_
  simp -implicitDefEqProofs only[go_sem,γ]
  refine aB (L.abs d h3 h4) rfl ?_
  simp -implicitDefEqProofs only[go_sem]
  have n1:nl n.natAbs≤2:=mI (by omega)
  have n2:nl d.natAbs≤2:=mI (by omega)
  have low:=L.lowest (decide (n<0) != decide (d<0)) (aG n.natAbs) (aG d.natAbs) (bE _) (bE _) (by rw[bH]; omega) (by rw[bH]; omega)
  rw[aY,aY] at low
  have low:=low (by omega) (by omega) (by omega)
  refine aB low rfl ?_
  obtain⟨neg',x,y,e,hl⟩:=apX (decide (n<0) != decide (d<0)) n.natAbs d.natAbs
  rw[hl]
  simp -implicitDefEqProofs only[go_sem,δ,γ]
  exact aW (.inr rfl) .nil (vs:=[.agg (eW neg' x y),.int .i64 e]) (by simp -implicitDefEqProofs only[go_sem,δ,γ,LP]) PH.nil_le ⟨.refl _,rfl⟩
theorem lD {a b:Nat}:dH a b=true↔b≠0∧nl b≤128∧nl a≤128:=by
 have h1:=tR b 128
 have h2:=tR a 128
 have h3:=@gQ b
 simp only[dH,bgP,decide_eq_true_eq]
 omega
def MM (neg:Bool) (a b:Nat):PV:=if dH a b then CL neg a b else vP 1
theorem aJK {C:Ctx} (L:AR C) (neg:Bool) (a b:List Nat) (ha:Lim a) (hb:Lim b) (la:a.length≤16777216) (lb:b.length≤16777216) :
  uJ.wp C (aX tU.res (bY (MM neg (val a) (val b)))) (PF.args [.agg (eW neg a b)]) .nil:=by
 simp -implicitDefEqProofs only[go_sem,δ,uJ,TQ,TR]
 refine aP fun o ho=>?_
 simp -implicitDefEqProofs only[go_sem,δ,γ]
 refine aB (L.valid neg a b ha hb la lb) rfl ?_
 unfold MM
 cases hv:dH (val a) (val b) with
 | false =>
  simp -implicitDefEqProofs only[go_sem,δ,γ,reduceCtorEq,TS,bgM]
  refine kX ?_
  simp -implicitDefEqProofs only[go_sem,δ,γ,tU]
 | true =>
  obtain⟨v1,v2,v3⟩:=lD.1 hv
  simp -implicitDefEqProofs only[go_sem,δ,γ,θ,TT,bgB]
  refine aB (L.lowest neg a b ha hb la lb (by omega) (by omega) v1) rfl ?_
  obtain⟨neg',x,y,e,hl⟩:=apX neg (val a) (val b)
  rw[hl]
  simp -implicitDefEqProofs only[go_sem,δ,γ]
  exact aW (.inr rfl) .nil (vs:=[.agg (eW neg' x y),.int .i64 e]) (by simp -implicitDefEqProofs only[go_sem,δ,γ,tU]) PH.nil_le ⟨.refl _,rfl⟩
def uV (n1:Bool) (a1 b1:Nat) (n2:Bool) (a2 b2:Nat):Int :=
 match n1&&decide (a1≠0),n2&&decide (a2≠0) with
 | true,true=>- dD (a1*b2) (a2*b1)
 | true,false=>-1
 | false,true=>1
 | false,false=>dD (a1*b2) (a2*b1)
def vM (n1:Bool) (a1 b1:Nat) (n2:Bool) (a2 b2:Nat):PV :=
 if dH a1 b1&&dH a2 b2 then .tup [.int .i64 (uV n1 a1 b1 n2 a2 b2),.int .i64 0] else .tup [.int .i64 0,.int .i64 1]
def fr1:PV→List Nat
 | .agg [_,a,_]=>jD a
 | _=>[]
def frS:Spec:=fun name vs=>match name,vs with
 | 121,[x,y]=>some ([],fun _=>aL (aF (aG (val (jD x)*val (jD y)))))
 | 129,[x,y]=>some ([],fun _=>aL (.int .i64 (dD (val (jD x)) (val (jD y)))))
 | 122,[x]=>some ([],fun _=>aL (.bool (decide (val (fr1 x)=0))))
 | _,_=>none
theorem rW (a b:List Nat):frS 121 [aF a,aF b]=some ([],fun _=>aL (aF (aG (val a*val b)))):=by
 show some _=_; rw[eH,eH]
theorem aZD (a b:List Nat):frS 129 [aF a,aF b]=some ([],fun _=>aL (.int .i64 (dD (val a) (val b)))):=by
 show some _=_; rw[eH,eH]
theorem PP (neg:Bool) (a b:List Nat):frS 122 [.agg (eW neg a b)]=some ([],fun _=>aL (.bool (decide (val a=0)))):=by
 show some _=_; rw[fr1,eH]
theorem aTC (a b:Nat):IntKind.i64.wrap (0-dD a b)=- dD a b:=by
 unfold dD; split
 ·rfl
 ·split<;>rfl
theorem aYZ {C:Ctx} (L:AR C) (n1 n2:Bool) (a1 b1 a2 b2:List Nat) (ha1:Lim a1) (hb1:Lim b1) (ha2:Lim a2) (hb2:Lim b2)
  (la1:a1.length≤16777216) (lb1:b1.length≤16777216) (la2:a2.length≤16777216) (lb2:b2.length≤16777216) :
  GN.wp C (aX alQ.res (bY (vM n1 (val a1) (val b1) n2 (val a2) (val b2)))) (PF.args [.agg (eW n1 a1 b1),.agg (eW n2 a2 b2)]) .nil:=by
 simp -implicitDefEqProofs only[go_sem,δ,γ,GN,aCH,aCI]
 refine aB (L.valid n1 a1 b1 ha1 hb1 la1 lb1) rfl ?_
 unfold vM
 cases hv:dH (val a1) (val b1) with
 | false =>
  simp -implicitDefEqProofs only[go_sem,γ,reduceCtorEq,bgM,ZN,bgG]
  exact aW (.inr rfl) .nil (vs:=[.int .i64 0,.int .i64 1]) rfl PH.nil_le ⟨.refl _,rfl⟩
 | true =>
  obtain⟨v1,v2,v3⟩:=lD.1 hv
  simp -implicitDefEqProofs only[go_sem,δ,γ,bgB]
  refine aB (L.valid n2 a2 b2 ha2 hb2 la2 lb2) rfl ?_
  cases hw:dH (val a2) (val b2) with
  | false =>
   simp -implicitDefEqProofs only[go_sem,γ,reduceCtorEq,bgM,ZN,bhK]
   exact aW (.inr rfl) .nil (vs:=[.int .i64 0,.int .i64 1]) rfl PH.nil_le ⟨.refl _,rfl⟩
  | true =>
   obtain⟨w1,w2,w3⟩:=lD.1 hw
   simp -implicitDefEqProofs only[go_sem,γ,reduceCtorEq,bgB,biN]
   refine cD .nil frS PH.nil_le ?_
   simp -implicitDefEqProofs only[go_sem,δ,γ,θ,aCJ]
   refine cU (rW a1 b2) (L.times a1 b2 ha1 hb2 la1 lb2 (by omega) (by omega)) rfl PH.nil_le ?_
   simp -implicitDefEqProofs only[go_sem,δ,γ,θ]
   refine cU (rW a2 b1) (L.times a2 b1 ha2 hb1 la2 lb1 (by omega) (by omega)) rfl PH.nil_le ?_
   simp -implicitDefEqProofs only[go_sem]
   have m1:=sB v3 w2
   have m2:=sB w3 v2
   have hc:=L.cmp (aG (val a1*val b2)) (aG (val a2*val b1)) (bE _) (bE _) (by rw[bH]; omega) (by rw[bH]; omega)
   have hs:=aZD (aG (val a1*val b2)) (aG (val a2*val b1))
   rw[aY,aY] at hc hs
   refine cU hs hc rfl PH.nil_le ?_
   simp -implicitDefEqProofs only[go_sem,γ]
   refine cD .nil frS PH.nil_le ?_
   have z1:(!decide (val a1=0))=decide (val a1≠0):=by by_cases h:val a1=0<;>simp[h]
   have z2:(!decide (val a2=0))=decide (val a2≠0):=by by_cases h:val a2=0<;>simp[h]
   have fin:∀ (F:PF) (A B:Bool),F 6=some (.int .i64 (dD (val a1*val b2) (val a2*val b1)))→F 7=some (.bool A)→F 8=some (.bool B)→A=(n1&&decide (val a1≠0))→B=(n2&&decide (val a2≠0)) →
     aD.wp C (.seq (.block 0 (.seq (.region tT) (.cond (.tmp 42) (.seq (.region ZO) .ret) (.seq (.region zT) (.cond (.tmp 49) (.seq (.region ZP) .ret) (.seq (.region LN) (.cond (.tmp 51) (.seq (.region PL) .ret) .skip))))))) (.seq (.region PN) .ret)) (aX alQ.res (bY (.tup [.int .i64 (uV n1 (val a1) (val b1) n2 (val a2) (val b2)),.int .i64 0]))) F .nil:=by
    intro F A B f6 f7 f8 hA hB
    rw[uV,← hA,← hB]
    cases A<;>cases B
    ·simp -implicitDefEqProofs only[go_sem,γ,reduceCtorEq,tT,zT,LN,PN,f6,f7,f8]
     exact aW (.inr rfl) .nil rfl PH.nil_le ⟨.refl _,rfl⟩
    ·simp -implicitDefEqProofs only[go_sem,γ,reduceCtorEq,tT,zT,LN,PL,f6,f7,f8]
     exact aW (.inr rfl) .nil rfl PH.nil_le ⟨.refl _,rfl⟩
    ·simp -implicitDefEqProofs only[go_sem,ο,γ,tT,zT,ZP,f6,f7,f8]
     exact aW (.inr rfl) .nil rfl PH.nil_le ⟨.refl _,rfl⟩
    ·simp -implicitDefEqProofs only[go_sem,γ,tT,ZO,f6,f7,f8,aTC]
     exact aW (.inr rfl) .nil rfl PH.nil_le ⟨.refl _,rfl⟩
   simp only[aD.wp,go_sem] at fin
   simp -implicitDefEqProofs only[go_sem,δ,γ,θ,aCK]
   cases n1 with
   | false =>
    simp -implicitDefEqProofs only[go_sem,δ,γ,θ,reduceCtorEq]
    cases n2 with
    | false =>
     simp -implicitDefEqProofs only[go_sem,γ,reduceCtorEq]
     exact fin _ false false rfl rfl rfl rfl rfl
    | true =>
     simp -implicitDefEqProofs only[go_sem,δ,γ]
     refine cU (PP true a2 b2) (L.zero true a2 b2 ha2 la2) rfl PH.nil_le ?_
     simp -implicitDefEqProofs only[go_sem,γ,z2]
     exact fin _ false (decide (val a2≠0)) rfl rfl rfl rfl (by rw[bgR])
   | true =>
    simp -implicitDefEqProofs only[go_sem,δ,γ]
    refine cU (PP true a1 b1) (L.zero true a1 b1 ha1 la1) rfl PH.nil_le ?_
    simp -implicitDefEqProofs only[go_sem,δ,γ,θ,z1]
    cases n2 with
    | false =>
     simp -implicitDefEqProofs only[go_sem,γ,reduceCtorEq]
     exact fin _ (decide (val a1≠0)) false rfl rfl rfl (by rw[bgR]) rfl
    | true =>
     simp -implicitDefEqProofs only[go_sem,δ,γ]
     refine cU (PP true a2 b2) (L.zero true a2 b2 ha2 la2) rfl PH.nil_le ?_
     simp -implicitDefEqProofs only[go_sem,γ,z2]
     exact fin _ (decide (val a1≠0)) (decide (val a2≠0)) rfl rfl rfl (by rw[bgR]) (by rw[bgR])
end Go.PM
namespace Go.PM
open Go Go.Na
abbrev FV:=Bool × Nat × Nat
abbrev FR:=Except Int FV
def jP (neg:Bool) (a b:Nat):FR :=
 if cA (a/bfU a b)>4096∨cA (b/bfU a b)>4096 then .error 2 else .ok (neg&&decide (a/bfU a b≠0),a/bfU a b,b/bfU a b)
def frV:FR→PV
 | .ok (n,a,b)=>aJM n a b
 | .error e=>vP e
theorem aaE (neg:Bool) (a b:Nat):CL neg a b=frV (jP neg a b):=by
 unfold CL jP
 split<;>rfl
def iQ:FV→FV→FR
 | (n1,a1,b1),(n2,a2,b2)=>if dH a1 b1&&dH a2 b2 then
   (if n1=n2 then jP n1 (a1*b2+a2*b1) (b1*b2) else if a2*b1≤a1*b2 then jP n1 (a1*b2-a2*b1) (b1*b2) else jP n2 (a2*b1-a1*b2) (b1*b2))
  else .error 1
theorem a3Z {a b m:Nat} (ha:nl a≤m) (hb:nl b≤m):nl (a+b)≤m+1:=by
 rw[gM] at ha hb ⊢
 rw[bhH]; omega
theorem aBM (a b:Nat):(dD a b≥0)↔b≤a:=by
 unfold dD
 split
 ·constructor
  ·intro h; exact absurd h (by decide)
  ·intro h; omega
 ·split
  ·constructor
   ·intro h; omega
   ·intro h; decide
  ·constructor
   ·intro h; omega
   ·intro h; decide
theorem LS (r:FR):∃ neg' x y e,frV r=.tup [.agg (eW neg' x y),.int .i64 e]:=by
 rcases r with e | ⟨n,a,b⟩
 ·exact⟨_,_,_,_,rfl⟩
 ·exact⟨_,_,_,_,rfl⟩
theorem aYX {C:Ctx} (L:AR C) (n1 n2:Bool) (a1 b1 a2 b2:List Nat) (ha1:Lim a1) (hb1:Lim b1) (ha2:Lim a2) (hb2:Lim b2)
  (la1:a1.length≤16777216) (lb1:b1.length≤16777216) (la2:a2.length≤16777216) (lb2:b2.length≤16777216) :
  GM.wp C (aX GL.res (bY (frV (iQ (n1,val a1,val b1) (n2,val a2,val b2))))) (PF.args [.agg (eW n1 a1 b1),.agg (eW n2 a2 b2)]) .nil:=by
 simp -implicitDefEqProofs only[go_sem,δ,γ,GM,aBY]
 refine aP fun o ho=>?_
 simp -implicitDefEqProofs only[go_sem,δ,γ,aBZ]
 refine aB (L.valid n1 a1 b1 ha1 hb1 la1 lb1) rfl ?_
 simp only[iQ]
 cases hv:dH (val a1) (val b1) with
 | false =>
  simp -implicitDefEqProofs only[go_sem,δ,γ,reduceCtorEq,bgM,ZM,bgG]
  refine kX ?_
  simp -implicitDefEqProofs only[go_sem,δ,γ,GL]
 | true =>
  obtain⟨v1,v2,v3⟩:=lD.1 hv
  simp -implicitDefEqProofs only[go_sem,δ,γ,bgB]
  refine aB (L.valid n2 a2 b2 ha2 hb2 la2 lb2) rfl ?_
  cases hw:dH (val a2) (val b2) with
  | false =>
   simp -implicitDefEqProofs only[go_sem,δ,γ,reduceCtorEq,bgM,ZM,bhK]
   refine kX ?_
   simp -implicitDefEqProofs only[go_sem,δ,γ,GL]
  | true =>
   obtain⟨w1,w2,w3⟩:=lD.1 hw
   simp -implicitDefEqProofs only[go_sem,γ,reduceCtorEq,bgB,biN]
   refine cD .nil frS PH.nil_le ?_
   simp -implicitDefEqProofs only[go_sem,δ,γ,θ,aCA]
   refine cU (rW a1 b2) (L.times a1 b2 ha1 hb2 la1 lb2 (by omega) (by omega)) rfl PH.nil_le ?_
   simp -implicitDefEqProofs only[go_sem,δ,γ,θ]
   refine cU (rW a2 b1) (L.times a2 b1 ha2 hb1 la2 lb1 (by omega) (by omega)) rfl PH.nil_le ?_
   simp -implicitDefEqProofs only[go_sem,γ]
   refine cU (rW b1 b2) (L.times b1 b2 hb1 hb2 lb1 lb2 (by omega) (by omega)) rfl PH.nil_le ?_
   simp -implicitDefEqProofs only[go_sem,γ]
   have m1:=sB v3 w2
   have m2:=sB w3 v2
   have m3:=sB v2 w2
   have d0:val b1*val b2≠0:=Nat.mul_ne_zero v1 w1
   generalize hA:val a1*val b2=A at *
   generalize hB:val a2*val b1=B at *
   generalize hD:val b1*val b2=D at *
   have fin:∀ (F:PF) (H:PH) (r:FR),(∃ neg' x y e,frV r=.tup [.agg (eW neg' x y),.int .i64 e]∧F 4=some (.ptr o 3 0 0)∧F 5=some (.int .i64 e)∧H o=some (.rows 3 [eW neg' x y]))→aX GL.res (bY (frV r)) .ret F H:=by
    rintro F H r ⟨neg',x,y,e,he,f4,f5,hH⟩
    rw[he]
    exact aW (.inr rfl) .nil (vs:=[.agg (eW neg' x y),.int .i64 e]) (by simp -implicitDefEqProofs only[go_sem,δ,GL,f4,f5,hH]) PH.nil_le ⟨.refl _,rfl⟩
   have eb:(n1==n2)=decide (n1=n2):=by cases n1<;>cases n2<;>rfl
   have low:∀ neg x,nl x≤257→aI C 120 [.bool neg,aF (aG x),aF (aG D)] .nil (aL (frV (jP neg x D))):=by
    intro neg x hx
    have h1:(aG x).length≤16777216:=by rw[bH]; omega
    have h2:(aG D).length≤16777216:=by rw[bH]; omega
    have:=L.lowest neg (aG x) (aG D) (bE _) (bE _) h1 h2
    rw[aY,aY,aaE] at this
    exact this (by omega) (by omega) d0
   have lA:(aG A).length≤16777216:=by rw[bH]; omega
   have lB:(aG B).length≤16777216:=by rw[bH]; omega
   simp -implicitDefEqProofs only[go_sem,δ,γ,θ,aCB]
   by_cases c:n1=n2
   ·rw[if_pos c]
    have c':(n1==n2)=true:=by rw[eb,decide_eq_true c]
    simp -implicitDefEqProofs only[go_sem,γ,c',aCC]
    have hadd:=L.add (aG A) (aG B) (bE _) (bE _) lA lB
    have nab:=a3Z m1 m2
    rw[aY,aY,iR (by omega) (by omega),opV,avC (by omega)] at hadd
    refine aB hadd rfl ?_
    simp -implicitDefEqProofs only[go_sem,δ,γ,θ,reduceCtorEq,aCD]
    refine aB (low n1 _ (by omega)) rfl ?_
    obtain⟨neg',x,y,e,hl⟩:=LS (jP n1 (A+B) D)
    rw[hl]
    simp -implicitDefEqProofs only[go_sem,δ,γ]
    rw[← hl]
    exact fin _ _ _ ⟨neg',x,y,e,hl,by simp -implicitDefEqProofs only[go_sem,γ],by simp -implicitDefEqProofs only[go_sem,γ],by simp -implicitDefEqProofs only[go_sem]⟩
   ·rw[if_neg c]
    have c':(n1==n2)=false:=by rw[eb,decide_eq_false c]
    simp -implicitDefEqProofs only[go_sem,γ,c',aCE]
    have hc:=L.cmp (aG A) (aG B) (bE _) (bE _) lA lB
    rw[aY,aY] at hc
    refine aB hc rfl ?_
    have hsub:∀ X Y:Nat,nl X≤256→nl Y≤256→Y≤X→aI C 134 [aF (aG X),aF (aG Y)] .nil (aL (.tup [aF (aG (X-Y)),.int .i64 0])):=by
     intro X Y h1 h2 h
     have:=L.sub (aG X) (aG Y) (bE _) (bE _) (by rw[bH]; omega) (by rw[bH]; omega)
     have h3:=gK (show X-Y≤X by omega)
     rw[aY,aY,vC,iR (by omega) (by omega),if_neg (by decide),if_neg (by omega),avC (by omega)] at this
     exact this
    by_cases g:B≤A
    ·have g':dD A B≥0:=(aBM A B).2 g
     rw[if_pos g]
     simp -implicitDefEqProofs only[go_sem,γ,g',aCF]
     refine aB (hsub A B (by omega) (by omega) g) rfl ?_
     simp -implicitDefEqProofs only[go_sem,δ,γ,θ,aCG]
     have h3:=gK (show A-B≤A by omega)
     refine aB (low n1 (A-B) (by omega)) rfl ?_
     obtain⟨neg',x,y,e,hl⟩:=LS (jP n1 (A-B) D)
     rw[hl]
     simp -implicitDefEqProofs only[go_sem,δ,γ]
     rw[← hl]
     exact fin _ _ _ ⟨neg',x,y,e,hl,by simp -implicitDefEqProofs only[go_sem,γ],by simp -implicitDefEqProofs only[go_sem,γ],by simp -implicitDefEqProofs only[go_sem]⟩
    ·have g':¬ dD A B≥0:=fun h=>g ((aBM A B).1 h)
     rw[if_neg g]
     simp -implicitDefEqProofs only[go_sem,γ,g',alO]
     refine aB (hsub B A (by omega) (by omega) (by omega)) rfl ?_
     simp -implicitDefEqProofs only[go_sem,δ,γ,θ,alP]
     have h3:=gK (show B-A≤B by omega)
     refine aB (low n2 (B-A) (by omega)) rfl ?_
     obtain⟨neg',x,y,e,hl⟩:=LS (jP n2 (B-A) D)
     rw[hl]
     simp -implicitDefEqProofs only[go_sem,δ,γ]
     rw[← hl]
     exact fin _ _ _ ⟨neg',x,y,e,hl,by simp -implicitDefEqProofs only[go_sem,γ],by simp -implicitDefEqProofs only[go_sem,γ],by simp -implicitDefEqProofs only[go_sem]⟩
structure RF where
 neg:Bool
 num:List Nat
 den:List Nat
abbrev RF.cells (x:RF):List PV:=eW x.neg x.num x.den
def RF.Ok (x:RF):Prop:=Lim x.num∧Lim x.den∧x.num.length≤16777216∧x.den.length≤16777216
def RF.v (x:RF):FV:=(x.neg,val x.num,val x.den)
abbrev frs (l:List RF):PV:=.sl 3 (l.map RF.cells)
def FV.rf:FV→RF
 | (n,a,b)=>⟨n,aG a,aG b⟩
def FV.Small:FV→Prop
 | (_,a,b)=>nl a≤900000∧nl b≤900000
theorem FV.beE (x:FV):x.rf.v=x:=by
 obtain⟨n,a,b⟩:=x
 show (n,val (aG a),val (aG b))=_
 rw[aY,aY]
def oM (l:List FV):FR:=l.foldlM iQ (false,0,1)
theorem pV {neg:Bool} {a b:Nat} {r:FV} (h:jP neg a b=.ok r):r.Small∧r.rf.Ok:=by
 unfold jP at h
 split at h
 ·cases h
 ·rename_i hc
  have h1:=(tR (a/bfU a b) 128).1 (by omega)
  have h2:=(tR (b/bfU a b) 128).1 (by omega)
  injection h with h
  subst h
  refine⟨⟨by omega,by omega⟩,bE _,bE _,?_,?_⟩
  ·show (aG _).length≤_
   rw[bH]; omega
  ·show (aG _).length≤_
   rw[bH]; omega
theorem aBH {x y r:FV} (h:iQ x y=.ok r):r.rf.Ok:=by
 obtain⟨n1,a1,b1⟩:=x
 obtain⟨n2,a2,b2⟩:=y
 simp only[iQ] at h
 split at h
 ·split at h
  ·exact (pV h).2
  ·split at h
   ·exact (pV h).2
   ·exact (pV h).2
 ·cases h
theorem ayV {α β:Type} {f:β→α→Except Int β} (l:List α) (b:β) {k:Nat} (h:k<l.length):(l.take (k+1)).foldlM f b=((l.take k).foldlM f b).bind fun x=>f x l[k]:=by
 rw[biG h,List.foldlM_append]
 cases (l.take k).foldlM f b with
 | error e=>rfl
 | ok x =>
  show ([l[k]]:List α).foldlM f x=f x l[k]
  rw[List.foldlM_cons]
  cases f x l[k]<;>rfl
theorem aJI {α β:Type} {f:β→α→Except Int β} (l:List α) (b:β) {k:Nat} {e:Int} (h:(l.take k).foldlM f b=.error e):l.foldlM f b=.error e:=by
 conv=>lhs; rw[← biC k l,List.foldlM_append,h]
 rfl
def aWN (l:List RF) (o2 o4:Nat) (k:Nat):PF:=((((((PF.nil.set 2 (.ptr o2 3 0 0)).set 3 (.int .i64 0)).set 4 (.ptr o4 3 0 0)).set 11 (frs l)).set 12 (.int .i64 (l.length:Nat))).set 13 (.int .i64 k))
def SF (o2 o4:Nat) (c:List PV):PH:=(PH.nil.set o2 (.rows 3 [[.bool false,.nils,.nils]])).set o4 (.rows 3 [c])
theorem aZF {C:Ctx} (L:AR C) (hadd:∀ x y:RF,x.Ok→y.Ok→aI C 113 [.agg x.cells,.agg y.cells] .nil (aL (frV (iQ x.v y.v)))) (l:List RF) (hl:∀ x∈l,x.Ok) (hlen:l.length≤9223372036854775807) :
  GT.wp C (aX PR.res (bY (frV (oM (l.map RF.v))))) (PF.args [frs l]) .nil:=by
 simp -implicitDefEqProofs only[go_sem,δ,GT,aCM]
 refine aP fun o2 ho2=>?_
 simp -implicitDefEqProofs only[go_sem,aCN]
 refine aB (L.make 1 (by decide)) rfl ?_
 simp -implicitDefEqProofs only[go_sem,δ,γ]
 refine aP fun o4 ho4=>?_
 have hne:o4≠o2:=by rintro rfl; simp only[aV,if_true] at ho4; cases ho4
 have hne':o2≠o4:=Ne.symm hne
 simp -implicitDefEqProofs only[go_sem,δ,γ,reduceCtorEq,aCO]
 refine wp_loop (α:=Nat × FV × PV) (fun t=>aWN l o2 o4 t.1) (fun t=>SF o2 o4 [.bool t.2.1.1,t.2.2,aF (aG t.2.1.2.2)]) (fun t=>t.1≤l.length∧((l.map RF.v).take t.1).foldlM iQ (false,0,1)=.ok t.2.1∧(t.2.2=.nils∧t.2.1.2.1=0∨t.2.2=aF (aG t.2.1.2.1))∧(FV.rf t.2.1).Ok) (fun t=>l.length-t.1)
  (0,(false,0,1),.nils) ⟨bgE _,rfl,.inl ⟨rfl,rfl⟩,⟨bE _,bE _,?_,?_⟩⟩ ?_ ?_ ?_
 ·show (aG 0).length≤_
  rw[eY]; simp
 ·show (aG 1).length≤_
  rw[lI (by decide) (by decide)]; simp
 ·unfold aWN
  (repeat' (first|exact PF.nil_le|refine PF.aA ?_ ?_))<;>first|(simp -implicitDefEqProofs only[go_sem,γ,bfT]<;>rfl)|rfl
 ·unfold SF
  exact PH.aA (PH.aA PH.nil_le (by simp -implicitDefEqProofs only[go_sem,hne',hne])) (by simp -implicitDefEqProofs only[go_sem,hne',hne])
 rintro⟨k,⟨an,aa,ab⟩,cy⟩ ⟨hk,hf,hco,hacc⟩
 simp only at hk hf hco hacc ⊢
 have hco':CoL [.bool an,cy,aF (aG ab)] (FV.rf (an,aa,ab)).cells:=by
  refine .cons (.refl _) (.cons ?_ (.cons (.refl _) .nil))
  rcases hco with ⟨rfl,rfl⟩ | rfl
  ·show Co .nils (aF (aG 0))
   rw[eY]; exact .nil 1
  ·exact .refl _
 simp -implicitDefEqProofs only[go_sem,γ,alZ,aCP,aWN]
 by_cases hlt:k<l.length
 ·have hlt':(k:Int)<(l.length:Nat):=by omega
  have hr:(l.map RF.cells)[k]?=some (l[k]).cells:=by simp[hlt]
  simp -implicitDefEqProofs only[go_sem,δ,γ,hlt',aCQ,hr]
  refine aP fun o6 ho6=>?_
  have n64:o4≠o6:=by rintro rfl; simp only[SF,aV,if_true] at ho6; cases ho6
  have n62:o2≠o6:=by rintro rfl; simp only[SF,aV,if_true,if_neg hne'] at ho6; cases ho6
  simp -implicitDefEqProofs only[go_sem,δ,γ,aCR,SF,n64,n62,hne,hne']
  refine aB ((hadd (FV.rf (an,aa,ab)) l[k] hacc (hl _ (bgA hlt))).args (.cons (CoL.agg hco') (.cons (.refl _) .nil))) rfl ?_
  rw[FV.beE]
  have hstep:=ayV (f:=iQ) (l.map RF.v) (false,0,1) (k:=k) (by simpa using hlt)
  rw[hf] at hstep
  simp only[Except.bind,bhL] at hstep
  cases he:iQ (an,aa,ab) (l[k]).v with
  | error e =>
   simp -implicitDefEqProofs only[go_sem,δ,γ,frV]
   refine aP fun o7 ho7=>?_
   have he0:e≠0:=by
    revert he
    obtain⟨n2,a2,b2⟩:=(l[k]).v
    simp only[iQ,jP]
    repeat' split
    all_goals (intro h; first | (injection h with h; subst h; decide) | cases h)
   have n72:o2≠o7:=by rintro rfl; simp only[aV,n62,hne',if_true,if_false] at ho7; cases ho7
   simp -implicitDefEqProofs only[go_sem,δ,γ,ZR,dR he0,aCS,n72,n62,hne']
   rw[he] at hstep
   rw[oM,aJI _ _ hstep]
   refine kX ?_
   simp -implicitDefEqProofs only[go_sem,δ,γ,PR]
  | ok r =>
   obtain⟨rn,ra,rb⟩:=r
   simp -implicitDefEqProofs only[go_sem,δ,γ,frV]
   refine aP fun o7 ho7=>?_
   have n74:o4≠o7:=by rintro rfl; simp only[aV,n64,if_true,if_false] at ho7; cases ho7
   have n72:o2≠o7:=by rintro rfl; simp only[aV,n62,hne',if_true,if_false] at ho7; cases ho7
   simp -implicitDefEqProofs only[go_sem,σ,δ,γ,ZR,aCT,n74,n72,n64,n62,hne,hne',Ne.symm n74,aCU,aN (show k<9223372036854775807 by omega)]
   rw[he] at hstep
   refine aJ (k+1,(rn,ra,rb),aF (aG ra)) ⟨hlt,hstep,.inr rfl,aBH he⟩ (by simp only; omega) ?_ ?_
   ·(repeat' (first|exact PF.nil_le|refine PF.aA ?_ ?_))<;>first|(simp -implicitDefEqProofs only[go_sem,γ]<;>rfl)|rfl
   ·refine PH.aA (PH.aA PH.nil_le ?_) ?_
    ·simp -implicitDefEqProofs only[go_sem,hne',hne,n74,n72,n64,n62]
    ·simp -implicitDefEqProofs only[go_sem,hne',hne,n74,n72,n64,n62]
 ·have hlt':¬ (k:Int)<(l.length:Nat):=by omega
  have:k=l.length:=by omega
  subst this
  rw[bgH (by simp)] at hf
  rw[oM,hf]
  have hfin:bY (frV (.ok (an,aa,ab))) (cN [.agg [.bool an,cy,aF (aG ab)],.int .i64 0]) .nil:=⟨CoL.tup (.cons (CoL.agg hco') (.cons (.refl _) .nil)),rfl⟩
  rcases hco with ⟨rfl,rfl⟩ | rfl
  ·simp -implicitDefEqProofs only[go_sem,δ,γ,hlt',PS,SF,hne,hne']
   refine aW (.inr rfl) .nil ?_ PH.nil_le hfin
   simp -implicitDefEqProofs only[go_sem,δ,γ,PR,hne,hne']
  ·simp -implicitDefEqProofs only[go_sem,δ,γ,hlt',PS,SF,hne,hne']
   refine aW (.inr rfl) .nil ?_ PH.nil_le hfin
   simp -implicitDefEqProofs only[go_sem,δ,γ,PR,hne,hne']
end Go.PM
namespace Go.PM
open Go
def mW:Rg:=[iA 2 (.mv (.const (.bool false)))]
def mX:Rg:=[iM 3 0,iA 4 (.bin .geq (Tm 3) (.const (.int .u8 97))),iM 5 4,iG 6 (.mv (Tm 0)) 5 true,iG 7 (.bin .leq (Tm 6) (.const (.int .u8 122))) 5 true,iA 8 (.pick (Tm 5) (Tm 7) (.const (.bool false))),iM 9 8,iG 10 (.mv (Tm 0)) 9 false,iG 11 (.bin .geq (Tm 10) (.const (.int .u8 65))) 9 false,iG 12 (.mv (Tm 11)) 9 false,iG 13 (.mv (Tm 0)) 12 true,iG 14 (.bin .leq (Tm 13) (.const (.int .u8 90))) 12 true,iG 15 (.pick (Tm 12) (Tm 14) (.const (.bool false))) 9 false,iA 16 (.pick (Tm 9) (.const (.bool true)) (Tm 15)),iM 2 16]
def jH:aD:=(.seq (.region mW) (.seq (.region mX) .ret))
def aKQ:List Nat:=[]
def tZ:bG:=⟨1,17,jH,[.tmp 2]⟩
def vY:Rg:=[iA 2 (.mv (.const (.bool false)))]
def vZ:Rg:=[iM 3 0,iA 4 (.bin .geq (Tm 3) (.const (.int .u8 48))),iM 5 4,iG 6 (.mv (Tm 0)) 5 true,iG 7 (.bin .leq (Tm 6) (.const (.int .u8 57))) 5 true,iA 8 (.pick (Tm 5) (Tm 7) (.const (.bool false))),iM 2 8]
def nM:aD:=(.seq (.region vY) (.seq (.region vZ) .ret))
def aOI:List Nat:=[]
def zZ:bG:=⟨1,9,nM,[.tmp 2]⟩
def adC:Rg:=[iA 2 (.mv (.const (.bool false)))]
def adD:Rg:=[iM 3 0,iA 4 (.call 126 [(Tm 3)]),iM 5 4,iG 6 (.mv (Tm 0)) 5 false,iG 7 (.call 124 [(Tm 6)]) 5 false,iA 8 (.pick (Tm 5) (.const (.bool true)) (Tm 7)),iM 9 8,iG 10 (.mv (Tm 0)) 9 false,iG 11 (.bin .eql (Tm 10) (.const (.int .u8 45))) 9 false,iA 12 (.pick (Tm 9) (.const (.bool true)) (Tm 11)),iM 13 12,iG 14 (.mv (Tm 0)) 13 false,iG 15 (.bin .eql (Tm 14) (.const (.int .u8 46))) 13 false,iA 16 (.pick (Tm 13) (.const (.bool true)) (Tm 15)),iM 2 16]
def xH:aD:=(.seq (.region adC) (.seq (.region adD) .ret))
def aOM:List Nat:=[]
def AA:bG:=⟨1,17,xH,[.tmp 2]⟩
def CG:Rg:=[iA 2 (.mv (.const (.bool false)))]
def CH:Rg:=[iM 4 0,iA 5 (.bin .eql (Tm 4) (.const (.str []))),iM 6 5,iG 7 (.mv (Tm 0)) 6 false,iG 8 (.lenStr (Tm 7)) 6 false,iG 9 (.bin .gtr (Tm 8) (Ci 16)) 6 false,iA 10 (.pick (Tm 6) (.const (.bool true)) (Tm 9)),iM 11 10,iG 12 (.mv (Tm 0)) 11 false,iG 13 (.idxStr (Tm 12) (Ci 0)) 11 false,iG 14 (.call 126 [(Tm 13)]) 11 false,iG 15 (.un .not (Tm 14)) 11 false,iA 16 (.pick (Tm 11) (.const (.bool true)) (Tm 15))]
def CI:Rg:=[iA 2 (.mv (.const (.bool false)))]
def apN:Rg:=[iI 3 0]
def apO:Rg:=[iM 17 3,iM 18 0,iA 19 (.lenStr (Tm 18)),iB 20 .lss 17 19]
def apP:Rg:=[iM 23 0,iM 24 3,iA 25 (.idxStr (Tm 23) (Tm 24)),iA 26 (.call 125 [(Tm 25)]),iA 27 (.un .not (Tm 26))]
def apQ:Rg:=[iA 2 (.mv (.const (.bool false)))]
def apR:Rg:=[iM 21 3,iC 22 .add 21 1,iM 3 22]
def apM:aD:=(.seq (.seq (.region apO) (.cond (Tm 20) .skip (.exit 0))) (.seq (.block 1 (.seq (.region apP) (.cond (Tm 27) (.seq (.region apQ) .ret) .skip))) (.region apR)))
def apS:Rg:=[iA 2 (.mv (.const (.bool true)))]
def pU:aD:=(.seq (.region CG) (.seq (.seq (.region CH) (.cond (Tm 16) (.seq (.region CI) .ret) .skip)) (.seq (.seq (.region apN) (.block 0 (.loop apM))) (.seq (.region apS) .ret))))
def aUW:List Nat:=[]
def ME:bG:=⟨1,28,pU,[.tmp 2]⟩
def UB:Rg:=[iA 6 (.mv (.const (.bool false)))]
def UC:Rg:=[iM 7 0,iM 8 1,iB 9 .geq 7 8,iM 10 9,iG 11 (.mv (Tm 0)) 10 true,iG 12 (.mv (Tm 2)) 10 true,iG 13 (.bin .leq (Tm 11) (Tm 12)) 10 true,iA 14 (.pick (Tm 10) (Tm 13) (.const (.bool false))),iM 6 14]
def uK:aD:=(.seq (.region UB) (.seq (.region UC) .ret))
def a3T:List Nat:=[]
def gin:bG:=⟨3,15,uK,[.tmp 6]⟩
def acC:Rg:=[iA 1 (.box true (Tm 0)),iA 2 (.mv (.const (.bool false)))]
def acD:Rg:=[iF 3 1 1,iL 4 3,iA 5 (.call 128 [(Tm 4)]),iC 6 .gtr 5 0,iM 2 6]
def xB:aD:=(.seq (.region acC) (.seq (.region acD) .ret))
def aNW:List Nat:=[1]
def GX:bG:=⟨1,7,xB,[.tmp 2]⟩
def aDJ:Rg:=[iA 1 (.box true (Tm 0)),iA 2 (.mv (.const (.bool false)))]
def aDK:Rg:=[iA 6 (.load (some 3) (Tm 1)),iA 7 (.call 116 [(Tm 6)]),iM 5 7,iA 8 (.extract (Tm 5) 0),iA 9 (.extract (Tm 5) 1),iA 3 (.alloc [(.bool false),.nils,.nils]),iS 3 3 8,iM 4 9]
def LW:Rg:=[iM 10 4,iC 11 .eql 10 0,iM 12 11,iG 13 (.fieldA 0 (Tm 3)) 12 true,iG 14 (.load none (Tm 13)) 12 true,iG 15 (.un .not (Tm 14)) 12 true,iA 16 (.pick (Tm 12) (Tm 15) (.const (.bool false))),iM 17 16,iG 18 (.fieldA 1 (Tm 3)) 17 true,iG 19 (.load none (Tm 18)) 17 true,iG 20 (.call 128 [(Tm 19)]) 17 true,iG 21 (.bin .leq (Tm 20) (Ci 32)) 17 true,iA 22 (.pick (Tm 17) (Tm 21) (.const (.bool false))),iM 23 22,iG 24 (.fieldA 2 (Tm 3)) 23 true,iG 25 (.load none (Tm 24)) 23 true,iG 26 (.call 128 [(Tm 25)]) 23 true,iG 27 (.bin .leq (Tm 26) (Ci 32)) 23 true,iA 28 (.pick (Tm 23) (Tm 27) (.const (.bool false))),iM 2 28]
def HC:aD:=(.seq (.region aDJ) (.seq (.region aDK) (.seq (.region LW) .ret)))
def aZM:List Nat:=[1]
def anP:bG:=⟨1,29,HC,[.tmp 2]⟩
def aDO:Rg:=[iA 1 (.box true (Tm 0)),iA 2 (.mv (.const (.bool false)))]
def aDP:Rg:=[iA 8 (.call 115 [(Ci 1),(Ci 1)]),iM 7 8,iA 9 (.extract (Tm 7) 0),iA 10 (.extract (Tm 7) 1),iA 3 (.alloc [(.bool false),.nils,.nils]),iS 3 3 9,iM 4 10]
def aDQ:Rg:=[iA 12 (.load (some 3) (Tm 1)),iA 13 (.load (some 3) (Tm 3)),iA 14 (.call 114 [(Tm 12),(Tm 13)]),iM 11 14,iA 15 (.extract (Tm 11) 0),iA 16 (.extract (Tm 11) 1),iM 5 15,iM 6 16]
def ZV:Rg:=[iM 17 6,iC 18 .eql 17 0,iM 19 18,iG 20 (.mv (Tm 5)) 19 true,iG 21 (.bin .leq (Tm 20) (Ci 0)) 19 true,iA 22 (.pick (Tm 19) (Tm 21) (.const (.bool false))),iM 2 22]
def HE:aD:=(.seq (.region aDO) (.seq (.region aDP) (.seq (.region aDQ) (.seq (.region ZV) .ret))))
def aZQ:List Nat:=[1]
def gone:bG:=⟨1,23,HE,[.tmp 2]⟩
def amM:Rg:=[iA 4 (.mv (.const (.bool false)))]
def amN:Rg:=[iM 7 0,iN 8 7,iI 9 0]
def amO:Rg:=[iB 10 .lss 9 8]
def amP:Rg:=[iX 11 3 7 9,iA 12 (.load (some 3) (Tm 11)),iA 6 (.alloc [(.bool false),.nils,.nils]),iS 3 6 12]
def amQ:Rg:=[iM 13 1,iA 14 (.load (some 3) (Tm 6)),iA 15 (.callv (Tm 13) [(Tm 14)]),iA 16 (.un .not (Tm 15))]
def amR:Rg:=[iA 4 (.mv (.const (.bool false)))]
def amS:Rg:=[iC 17 .add 9 1,iM 9 17]
def amL:aD:=(.seq (.region amO) (.seq (.cond (Tm 10) .skip (.exit 0)) (.seq (.block 1 (.seq (.region amP) (.seq (.region amQ) (.cond (Tm 16) (.seq (.region amR) .ret) .skip)))) (.region amS))))
def amT:Rg:=[iA 4 (.mv (.const (.bool true)))]
def BH:aD:=(.seq (.region amM) (.seq (.seq (.region amN) (.block 0 (.loop amL))) (.seq (.region amT) .ret)))
def aTW:List Nat:=[]
def TY:bG:=⟨2,18,BH,[.tmp 4]⟩
def amV:Rg:=[iA 4 (.mv (.const (.bool false)))]
def amW:Rg:=[iM 7 0,iN 8 7,iI 9 0]
def amX:Rg:=[iB 10 .lss 9 8]
def amY:Rg:=[iX 11 1 7 9,iL 12 11,iM 6 12]
def amZ:Rg:=[iM 13 1,iM 14 6,iA 15 (.callv (Tm 13) [(Tm 14)]),iA 16 (.un .not (Tm 15))]
def anA:Rg:=[iA 4 (.mv (.const (.bool false)))]
def anB:Rg:=[iC 17 .add 9 1,iM 9 17]
def amU:aD:=(.seq (.region amX) (.seq (.cond (Tm 10) .skip (.exit 0)) (.seq (.block 1 (.seq (.region amY) (.seq (.region amZ) (.cond (Tm 16) (.seq (.region anA) .ret) .skip)))) (.region anB))))
def anC:Rg:=[iA 4 (.mv (.const (.bool true)))]
def BI:aD:=(.seq (.region amV) (.seq (.seq (.region amW) (.block 0 (.loop amU))) (.seq (.region anC) .ret)))
def aTY:List Nat:=[]
def TZ:bG:=⟨2,18,BI,[.tmp 4]⟩
def amD:Rg:=[iA 4 (.mv (.const (.bool false)))]
def amE:Rg:=[iM 7 0,iN 8 7,iI 9 0]
def amF:Rg:=[iB 10 .lss 9 8]
def amG:Rg:=[iX 11 1 7 9,iL 12 11,iM 6 12]
def amH:Rg:=[iM 13 1,iM 14 6,iA 15 (.callv (Tm 13) [(Tm 14)]),iA 16 (.un .not (Tm 15))]
def amI:Rg:=[iA 4 (.mv (.const (.bool false)))]
def amJ:Rg:=[iC 17 .add 9 1,iM 9 17]
def amC:aD:=(.seq (.region amF) (.seq (.cond (Tm 10) .skip (.exit 0)) (.seq (.block 1 (.seq (.region amG) (.seq (.region amH) (.cond (Tm 16) (.seq (.region amI) .ret) .skip)))) (.region amJ))))
def amK:Rg:=[iA 4 (.mv (.const (.bool true)))]
def BG:aD:=(.seq (.region amD) (.seq (.seq (.region amE) (.block 0 (.loop amC))) (.seq (.region amK) .ret)))
def aTU:List Nat:=[]
def TX:bG:=⟨2,18,BG,[.tmp 4]⟩
def acE:Rg:=[iA 2 (.mv (.const (.bool false)))]
def acF:Rg:=[iM 3 0,iM 2 3]
def xC:aD:=(.seq (.region acE) (.seq (.region acF) .ret))
def aNY:List Nat:=[]
def GY:bG:=⟨1,4,xC,[.tmp 2]⟩
def anG:Rg:=[iA 1 (.box true (Tm 0)),iA 2 (.mv (.const (.bool false)))]
def anH:Rg:=[iF 8 3 1,iL 9 8,iN 10 9,iA 11 (.mkslice 1 1 [(.bool false)] (Tm 10) (Tm 10)),iM 3 11]
def anI:Rg:=[iI 4 0]
def anJ:Rg:=[iM 12 4,iM 13 3,iN 14 13,iB 15 .leq 12 14]
def anK:Rg:=[iM 18 3,iN 19 18,iI 20 0]
def PT:Rg:=[iB 21 .lss 20 19]
def anL:Rg:=[iM 22 20,iM 5 22]
def PU:Rg:=[iM 23 3,iM 24 5,iM 25 3,iM 26 5,iX 27 1 25 26,iL 28 27,iM 29 28,iG 30 (.fieldA 3 (Tm 1)) 29 false,iG 31 (.load none (Tm 30)) 29 false,iG 32 (.mv (Tm 5)) 29 false,iG 33 (.idxS 3 (Tm 31) (Tm 32)) 29 false,iG 34 (.load (some 3) (Tm 33)) 29 false,iG 35 (.call 97 [(Tm 34)]) 29 false,iA 36 (.pick (Tm 29) (.const (.bool true)) (Tm 35)),iX 37 1 23 24,iS 1 37 36]
def PW:Rg:=[iF 38 2 1,iL 39 38,iM 40 5,iX 41 1 39 40,iL 42 41,iN 43 42,iI 44 0]
def anM:Rg:=[iB 45 .lss 44 43]
def acH:Rg:=[iM 46 44,iX 47 3 42 44,iA 48 (.load (some 3) (Tm 47)),iA 7 (.alloc [(.bool false),.nils,.nils]),iM 6 46,iS 3 7 48]
def GZ:Rg:=[iM 49 3,iM 50 5,iM 51 3,iM 52 5,iX 53 1 51 52,iL 54 53,iM 55 54,iG 56 (.load (some 3) (Tm 7)) 55 false,iG 57 (.call 97 [(Tm 56)]) 55 false,iG 58 (.mv (Tm 57)) 55 false,iG 59 (.mv (Tm 3)) 58 true,iG 60 (.mv (Tm 6)) 58 true,iG 61 (.idxS 1 (Tm 59) (Tm 60)) 58 true,iG 62 (.load none (Tm 61)) 58 true,iG 63 (.pick (Tm 58) (Tm 62) (.const (.bool false))) 55 false,iA 64 (.pick (Tm 55) (.const (.bool true)) (Tm 63)),iX 65 1 49 50,iS 1 65 64]
def vX:Rg:=[iC 66 .add 44 1,iM 44 66]
def vT:aD:=(.seq (.region anM) (.seq (.cond (Tm 45) .skip (.exit 4)) (.seq (.block 5 (.seq (.region acH) (.region GZ))) (.region vX))))
def HA:Rg:=[iC 67 .add 20 1,iM 20 67]
def vW:aD:=(.seq (.region PT) (.seq (.cond (Tm 21) .skip (.exit 2)) (.seq (.block 3 (.seq (.region anL) (.seq (.region PU) (.seq (.region PW) (.block 4 (.loop vT)))))) (.region HA))))
def acI:Rg:=[iM 16 4,iC 17 .add 16 1,iM 4 17]
def acG:aD:=(.seq (.seq (.region anJ) (.cond (Tm 15) .skip (.exit 0))) (.seq (.block 1 (.seq (.region anK) (.block 2 (.loop vW)))) (.region acI)))
def acJ:Rg:=[iM 68 3,iA 69 (.call 98 [(Tm 68),(.const (.fn 103 []))]),iM 2 69]
def BJ:aD:=(.seq (.region anG) (.seq (.region anH) (.seq (.seq (.region anI) (.block 0 (.loop acG))) (.seq (.region acJ) .ret))))
def aUB:List Nat:=[1]
def UA:bG:=⟨1,70,BJ,[.tmp 2]⟩
def aDB:Rg:=[iA 1 (.box true (Tm 0)),iA 2 (.mv (.const (.bool false)))]
def aDC:Rg:=[iF 12 1 1,iL 13 12,iN 14 13,iM 3 14]
def aDD:Rg:=[iM 15 3,iA 16 (.call 104 [(Tm 15),(Ci 1),(Ci 4)]),iA 17 (.un .not (Tm 16)),iM 18 17,iG 19 (.fieldA 3 (Tm 1)) 18 false,iG 20 (.load none (Tm 19)) 18 false,iG 21 (.len (Tm 20)) 18 false,iG 22 (.mv (Tm 3)) 18 false,iG 23 (.bin .neq (Tm 21) (Tm 22)) 18 false,iA 24 (.pick (Tm 18) (.const (.bool true)) (Tm 23)),iM 25 24,iG 26 (.fieldA 2 (Tm 1)) 25 false,iG 27 (.load none (Tm 26)) 25 false,iG 28 (.len (Tm 27)) 25 false,iG 29 (.mv (Tm 3)) 25 false,iG 30 (.bin .neq (Tm 28) (Tm 29)) 25 false,iA 31 (.pick (Tm 25) (.const (.bool true)) (Tm 30)),iM 32 31,iG 33 (.fieldA 1 (Tm 1)) 32 false,iG 34 (.load none (Tm 33)) 32 false,iG 35 (.call 99 [(Tm 34),(.const (.fn 105 []))]) 32 false,iG 36 (.un .not (Tm 35)) 32 false,iA 37 (.pick (Tm 32) (.const (.bool true)) (Tm 36)),iM 38 37,iG 39 (.fieldA 3 (Tm 1)) 38 false,iG 40 (.load none (Tm 39)) 38 false,iG 41 (.call 99 [(Tm 40),(.const (.fn 105 []))]) 38 false,iG 42 (.un .not (Tm 41)) 38 false,iA 43 (.pick (Tm 38) (.const (.bool true)) (Tm 42))]
def tW:Rg:=[iA 2 (.mv (.const (.bool false)))]
def aDE:Rg:=[iF 44 2 1,iL 45 44,iN 46 45,iI 47 0]
def aDF:Rg:=[iB 48 .lss 47 46]
def aDG:Rg:=[iM 49 47,iX 50 1 45 47,iL 51 50,iM 4 49,iM 5 51]
def aDH:Rg:=[iM 52 5,iN 53 52,iM 54 3,iB 55 .neq 53 54,iM 56 55,iG 57 (.mv (Tm 5)) 56 false,iG 58 (.call 99 [(Tm 57),(.const (.fn 105 []))]) 56 false,iG 59 (.un .not (Tm 58)) 56 false,iA 60 (.pick (Tm 56) (.const (.bool true)) (Tm 59)),iM 61 60,iG 62 (.mv (Tm 5)) 61 false,iG 63 (.mv (Tm 4)) 61 false,iG 64 (.idxS 3 (Tm 62) (Tm 63)) 61 false,iG 65 (.load (some 3) (Tm 64)) 61 false,iG 66 (.call 97 [(Tm 65)]) 61 false,iA 67 (.pick (Tm 61) (.const (.bool true)) (Tm 66))]
def LT:Rg:=[iA 2 (.mv (.const (.bool false)))]
def aDI:Rg:=[iC 68 .add 47 1,iM 47 68]
def anO:aD:=(.seq (.region aDF) (.seq (.cond (Tm 48) .skip (.exit 0)) (.seq (.block 1 (.seq (.region aDG) (.seq (.region aDH) (.cond (Tm 67) (.seq (.region LT) .ret) .skip)))) (.region aDI))))
def PX:Rg:=[iF 70 1 1,iL 71 70,iA 72 (.call 117 [(Tm 71)]),iM 69 72,iA 73 (.extract (Tm 69) 0),iA 74 (.extract (Tm 69) 1),iA 6 (.alloc [(.bool false),.nils,.nils]),iS 3 6 73,iM 7 74]
def BK:Rg:=[iA 76 (.call 115 [(Ci 1),(Ci 1)]),iM 75 76,iA 77 (.extract (Tm 75) 0),iA 78 (.extract (Tm 75) 1),iA 8 (.alloc [(.bool false),.nils,.nils]),iS 3 8 77,iM 9 78]
def BL:Rg:=[iA 80 (.load (some 3) (Tm 6)),iA 81 (.load (some 3) (Tm 8)),iA 82 (.call 114 [(Tm 80),(Tm 81)]),iM 79 82,iA 83 (.extract (Tm 79) 0),iA 84 (.extract (Tm 79) 1),iM 10 83,iM 11 84]
def qP:Rg:=[iM 85 7,iC 86 .eql 85 0,iM 87 86,iG 88 (.mv (Tm 10)) 87 true,iG 89 (.bin .eql (Tm 88) (Ci 0)) 87 true,iA 90 (.pick (Tm 87) (Tm 89) (.const (.bool false))),iM 91 90,iG 92 (.load (some 4) (Tm 1)) 91 true,iG 93 (.call 102 [(Tm 92)]) 91 true,iA 94 (.pick (Tm 91) (Tm 93) (.const (.bool false))),iM 2 94]
def HB:aD:=(.seq (.region aDB) (.seq (.region aDC) (.seq (.seq (.region aDD) (.cond (Tm 43) (.seq (.region tW) .ret) .skip)) (.seq (.seq (.region aDE) (.block 0 (.loop anO))) (.seq (.region PX) (.seq (.region BK) (.seq (.region BL) (.seq (.region qP) .ret))))))))
def aZK:List Nat:=[1]
def anN:bG:=⟨1,95,HB,[.tmp 2]⟩
def aoE:Rg:=[iA 2 (.mv (.const (.bool false)))]
def aoF:Rg:=[iA 6 (.mkmap (false,[.str])),iM 3 6]
def aoG:Rg:=[iM 7 0,iN 8 7,iI 9 0]
def aoH:Rg:=[iB 10 .lss 9 8]
def aoI:Rg:=[iX 11 1 7 9,iL 12 11,iM 5 12]
def aoJ:Rg:=[iM 13 5,iA 14 (.call 123 [(Tm 13)]),iA 15 (.un .not (Tm 14)),iM 16 15,iG 17 (.mv (Tm 3)) 16 false,iG 18 (.mv (Tm 5)) 16 false,iG 19 (.lookup (false,[.str]) (.bool false) (Tm 17) (Tm 18) false) 16 false,iA 20 (.pick (Tm 16) (.const (.bool true)) (Tm 19))]
def QA:Rg:=[iA 2 (.mv (.const (.bool false)))]
def aoK:Rg:=[iM 21 3,iM 22 5,⟨none,.mapset (false,[.str]) (Tm 21) (Tm 22) (.const (.bool true)),none⟩]
def aoL:Rg:=[iC 23 .add 9 1,iM 9 23]
def aoD:aD:=(.seq (.region aoH) (.seq (.cond (Tm 10) .skip (.exit 0)) (.seq (.block 1 (.seq (.region aoI) (.seq (.seq (.region aoJ) (.cond (Tm 20) (.seq (.region QA) .ret) .skip)) (.region aoK)))) (.region aoL))))
def acM:Rg:=[iA 2 (.mv (.const (.bool true)))]
def BP:aD:=(.seq (.region aoE) (.seq (.region aoF) (.seq (.seq (.region aoG) (.block 0 (.loop aoD))) (.seq (.region acM) .ret))))
def aUI:List Nat:=[]
def UF:bG:=⟨1,24,BP,[.tmp 2]⟩
def ZT:Rg:=[iA 1 (.box true (Tm 0)),iA 2 (.mv (.const (.bool false)))]
def ZU:Rg:=[iF 6 3 1,iL 7 6,iN 8 7,iC 9 .eql 8 0]
def aCV:Rg:=[iA 2 (.mv (.const (.bool false)))]
def aCW:Rg:=[iF 10 3 1,iL 11 10,iA 12 (.idxS 7 (Tm 11) (Ci 0)),iA 13 (.load (some 7) (Tm 12)),iA 3 (.alloc [(.str []),(.int .i64 0),(.int .i64 0),(.int .i64 0),(.bool false),.nils,.nils]),iS 7 3 13]
def tV:Rg:=[iF 14 0 3,iL 15 14,iA 16 (.bin .neq (Tm 15) (.const (.str []))),iM 17 16,iG 18 (.fieldA 1 (Tm 3)) 17 false,iG 19 (.load none (Tm 18)) 17 false,iG 20 (.bin .neq (Tm 19) (Ci 0)) 17 false,iA 21 (.pick (Tm 17) (.const (.bool true)) (Tm 20)),iM 22 21,iG 23 (.fieldA 2 (Tm 3)) 22 false,iG 24 (.load none (Tm 23)) 22 false,iG 25 (.bin .neq (Tm 24) (Ci (-1))) 22 false,iA 26 (.pick (Tm 22) (.const (.bool true)) (Tm 25)),iM 27 26,iG 28 (.fieldA 3 (Tm 3)) 27 false,iG 29 (.load none (Tm 28)) 27 false,iG 30 (.bin .neq (Tm 29) (Ci 0)) 27 false,iA 31 (.pick (Tm 27) (.const (.bool true)) (Tm 30)),iM 32 31,iG 33 (.fieldA 4 (Tm 3)) 32 false,iG 34 (.load (some 3) (Tm 33)) 32 false,iG 35 (.call 105 [(Tm 34)]) 32 false,iG 36 (.un .not (Tm 35)) 32 false,iA 37 (.pick (Tm 32) (.const (.bool true)) (Tm 36)),iM 38 37,iG 39 (.fieldA 4 (Tm 3)) 38 false,iG 40 (.load (some 3) (Tm 39)) 38 false,iG 41 (.call 97 [(Tm 40)]) 38 false,iA 42 (.pick (Tm 38) (.const (.bool true)) (Tm 41))]
def qO:Rg:=[iA 2 (.mv (.const (.bool false)))]
def aCX:Rg:=[iF 43 3 1,iL 44 43,iA 45 (.slice 7 (Tm 44) (some (Ci 1)) none none),iN 46 45,iI 47 0]
def aCY:Rg:=[iB 48 .lss 47 46]
def aCZ:Rg:=[iM 49 47,iX 50 7 45 47,iA 51 (.load (some 7) (Tm 50)),iA 5 (.alloc [(.str []),(.int .i64 0),(.int .i64 0),(.int .i64 0),(.bool false),.nils,.nils]),iM 4 49,iS 7 5 51]
def aDA:Rd:=[(iF 52 2 5,false),(iL 53 52,false),(iM 54 4,false),(iA 55 (.call 104 [(Tm 53),(Ci 0),(Tm 54)]),true),(iA 56 (.un .not (Tm 55)),false),(iM 57 56,false),(iG 58 (.fieldA 3 (Tm 1)) 57 false,false),(iG 59 (.load none (Tm 58)) 57 false,false),(iG 60 (.fieldA 2 (Tm 5)) 57 false,false),(iG 61 (.load none (Tm 60)) 57 false,false),(iG 62 (.idxS 7 (Tm 59) (Tm 61)) 57 false,false),(iG 63 (.fieldA 1 (Tm 62)) 57 false,false),(iG 64 (.load none (Tm 63)) 57 false,false),(iG 65 (.fieldA 1 (Tm 5)) 57 false,false),(iG 66 (.load none (Tm 65)) 57 false,false),(iG 67 (.bin .sub (Tm 66) (Ci 1)) 57 false,false),(iG 68 (.bin .neq (Tm 64) (Tm 67)) 57 false,false),(iA 69 (.pick (Tm 57) (.const (.bool true)) (Tm 68)),false),(iM 70 69,false),(iG 71 (.fieldA 1 (Tm 5)) 70 false,false),(iG 72 (.load none (Tm 71)) 70 false,false),(iG 73 (.call 104 [(Tm 72),(Ci 1),(Ci 4)]) 70 false,true),(iG 74 (.un .not (Tm 73)) 70 false,false),(iA 75 (.pick (Tm 70) (.const (.bool true)) (Tm 74)),false),(iM 76 75,false),(iG 77 (.fieldA 3 (Tm 5)) 76 false,false),(iG 78 (.load none (Tm 77)) 76 false,false),(iG 79 (.call 104 [(Tm 78),(Ci 1),(Ci 64)]) 76 false,true),(iG 80 (.un .not (Tm 79)) 76 false,false),(iA 81 (.pick (Tm 76) (.const (.bool true)) (Tm 80)),false),(iM 82 81,false),(iG 83 (.fieldA 4 (Tm 5)) 82 false,false),(iG 84 (.load (some 3) (Tm 83)) 82 false,false),(iG 85 (.call 105 [(Tm 84)]) 82 false,true),(iG 86 (.un .not (Tm 85)) 82 false,false),(iA 87 (.pick (Tm 82) (.const (.bool true)) (Tm 86)),false)]
def qN:Rg:=[iA 2 (.mv (.const (.bool false)))]
def anE:Rg:=[iC 88 .add 47 1,iM 47 88]
def anD:aD:=(.seq (.region aCY) (.seq (.cond (Tm 48) .skip (.exit 0)) (.seq (.block 1 (.seq (.region aCZ) (.seq (.draw aDA) (.cond (Tm 87) (.seq (.region qN) .ret) .skip)))) (.region anE))))
def anF:Rg:=[iA 2 (.mv (.const (.bool true)))]
def vS:aD:=(.seq (.region ZT) (.seq (.seq (.region ZU) (.cond (Tm 9) (.seq (.region aCV) .ret) .skip)) (.seq (.region aCW) (.seq (.seq (.region tV) (.cond (Tm 42) (.seq (.region qO) .ret) .skip)) (.seq (.seq (.region aCX) (.block 0 (.loop anD))) (.seq (.region anF) .ret))))))
def aZI:List Nat:=[1]
def ZS:bG:=⟨1,89,vS,[.tmp 2]⟩
def anR:Rg:=[iA 2 (.mv (.const (.bool false)))]
def anS:Rg:=[iM 3 0,iA 4 (.call 104 [(Tm 3),(Ci 0),(Ci 8)]),iM 2 4]
def BM:aD:=(.seq (.region anR) (.seq (.region anS) .ret))
def aUD:List Nat:=[]
def UD:bG:=⟨1,5,BM,[.tmp 2]⟩
def aDL:Rg:=[iA 7 (.box true (Tm 3)),iA 8 (.mv (.const (.bool false)))]
def aDM:Rg:=[iM 9 0,iA 10 (.call 104 [(Tm 9),(Ci 1),(Ci 6)]),iA 11 (.un .not (Tm 10)),iM 12 11,iG 13 (.mv (Tm 1)) 12 false,iG 14 (.call 104 [(Tm 13),(Ci 0),(Ci 4)]) 12 false,iG 15 (.un .not (Tm 14)) 12 false,iA 16 (.pick (Tm 12) (.const (.bool true)) (Tm 15)),iM 17 16,iG 18 (.mv (Tm 0)) 17 false,iG 19 (.mv (Tm 1)) 17 false,iG 20 (.bin .add (Tm 18) (Tm 19)) 17 false,iG 21 (.bin .gtr (Tm 20) (Ci 8)) 17 false,iA 22 (.pick (Tm 17) (.const (.bool true)) (Tm 21)),iM 23 22,iG 24 (.mv (Tm 2)) 23 false,iG 25 (.mv (Tm 0)) 23 false,iG 26 (.mv (Tm 0)) 23 false,iG 27 (.mv (Tm 1)) 23 false,iG 28 (.bin .add (Tm 26) (Tm 27)) 23 false,iG 29 (.call 104 [(Tm 24),(Tm 25),(Tm 28)]) 23 false,iG 30 (.un .not (Tm 29)) 23 false,iA 31 (.pick (Tm 23) (.const (.bool true)) (Tm 30)),iM 32 31,iG 33 (.idxA 5 1 (Tm 7) (Ci 0)) 32 false,iG 34 (.load none (Tm 33)) 32 false,iG 35 (.bin .neq (Tm 34) (Ci 0)) 32 false,iA 36 (.pick (Tm 32) (.const (.bool true)) (Tm 35))]
def tX:Rg:=[iA 8 (.mv (.const (.bool false)))]
def aDN:Rg:=[iA 37 (.sliceA 5 1 (Tm 7) none none none),iA 38 (.call 100 [(Tm 37),(.const (.fn 107 []))]),iM 8 38]
def HD:aD:=(.seq (.region aDL) (.seq (.seq (.region aDM) (.cond (Tm 36) (.seq (.region tX) .ret) .skip)) (.seq (.region aDN) .ret)))
def aZO:List Nat:=[7]
def anQ:bG:=⟨4,39,HD,[.tmp 8]⟩
def acK:Rg:=[iA 1 (.box true (Tm 0)),iA 2 (.mv (.const (.bool false)))]
def acL:Rg:=[iA 3 (.load (some 3) (Tm 1)),iA 4 (.call 105 [(Tm 3)]),iM 5 4,iG 6 (.load (some 3) (Tm 1)) 5 true,iG 7 (.call 97 [(Tm 6)]) 5 true,iA 8 (.pick (Tm 5) (Tm 7) (.const (.bool false))),iM 2 8]
def xD:aD:=(.seq (.region acK) (.seq (.region acL) .ret))
def aOB:List Nat:=[1]
def HG:bG:=⟨1,9,xD,[.tmp 2]⟩
def anX:Rg:=[iA 6 (.box true (Tm 2)),iA 7 (.box true (Tm 3)),iA 8 (.mv (.const (.bool false)))]
def anY:Rg:=[iM 9 1,iN 10 9,iM 11 0,iA 12 (.minmax true (Tm 11) (Ci 1)),iB 13 .eql 10 12,iM 14 13,iG 15 (.mv (Tm 1)) 14 true,iG 16 (.call 99 [(Tm 15),(.const (.fn 109 []))]) 14 true,iA 17 (.pick (Tm 14) (Tm 16) (.const (.bool false))),iM 18 17,iG 19 (.load (some 3) (Tm 6)) 18 true,iG 20 (.call 105 [(Tm 19)]) 18 true,iA 21 (.pick (Tm 18) (Tm 20) (.const (.bool false))),iM 22 21,iG 23 (.load (some 3) (Tm 6)) 22 true,iG 24 (.call 101 [(Tm 23)]) 22 true,iA 25 (.pick (Tm 22) (Tm 24) (.const (.bool false))),iM 26 25,iG 27 (.load (some 3) (Tm 7)) 26 true,iG 28 (.call 105 [(Tm 27)]) 26 true,iA 29 (.pick (Tm 26) (Tm 28) (.const (.bool false))),iM 8 29]
def BN:aD:=(.seq (.region anX) (.seq (.region anY) .ret))
def aUF:List Nat:=[6,7]
def UE:bG:=⟨4,30,BN,[.tmp 8]⟩
def aDR:Rg:=[iA 2 (.box true (Tm 0)),iA 4 (.mv (.const (.bool false)))]
def aDS:Rg:=[iF 8 1 2,iL 9 8,iF 10 2 2,iL 11 10,iF 12 3 2,iL 13 12,iF 14 4 2,iA 15 (.load (some 5) (Tm 14)),iA 16 (.call 106 [(Tm 9),(Tm 11),(Tm 13),(Tm 15)]),iA 17 (.un .not (Tm 16)),iM 18 17,iG 19 (.fieldA 9 (Tm 2)) 18 false,iG 20 (.load none (Tm 19)) 18 false,iG 21 (.len (Tm 20)) 18 false,iG 22 (.bin .eql (Tm 21) (Ci 0)) 18 false,iA 23 (.pick (Tm 18) (.const (.bool true)) (Tm 22)),iM 24 23,iG 25 (.fieldA 2 (Tm 2)) 24 false,iG 26 (.load none (Tm 25)) 24 false,iG 27 (.fieldA 10 (Tm 2)) 24 false,iG 28 (.load none (Tm 27)) 24 false,iG 29 (.fieldA 11 (Tm 2)) 24 false,iG 30 (.load (some 3) (Tm 29)) 24 false,iG 31 (.fieldA 14 (Tm 2)) 24 false,iG 32 (.load (some 3) (Tm 31)) 24 false,iG 33 (.call 108 [(Tm 26),(Tm 28),(Tm 30),(Tm 32)]) 24 false,iG 34 (.un .not (Tm 33)) 24 false,iA 35 (.pick (Tm 24) (.const (.bool true)) (Tm 34))]
def LZ:Rg:=[iA 4 (.mv (.const (.bool false)))]
def aDT:Rg:=[iM 36 1,iA 37 (.mkslice 1 1 [(.bool false)] (Tm 36) (Tm 36)),iM 5 37]
def aDU:Rg:=[iF 38 9 2,iL 39 38,iN 40 39,iI 41 0]
def aDV:Rg:=[iB 42 .lss 41 40]
def aDW:Rg:=[iX 43 1 39 41,iL 44 43,iM 7 44]
def aDX:Rg:=[iM 45 7,iM 46 1,iC 47 .sub 46 1,iA 48 (.call 104 [(Tm 45),(Ci 0),(Tm 47)]),iA 49 (.un .not (Tm 48)),iM 50 49,iG 51 (.mv (Tm 5)) 50 false,iG 52 (.mv (Tm 7)) 50 false,iG 53 (.idxS 1 (Tm 51) (Tm 52)) 50 false,iG 54 (.load none (Tm 53)) 50 false,iA 55 (.pick (Tm 50) (.const (.bool true)) (Tm 54))]
def ZW:Rg:=[iA 4 (.mv (.const (.bool false)))]
def aDY:Rg:=[iM 56 5,iM 57 7,iX 58 1 56 57,⟨none,.store 1 (Tm 58) (.const (.bool true)),none⟩]
def anV:Rg:=[iC 59 .add 41 1,iM 41 59]
def anU:aD:=(.seq (.region aDV) (.seq (.cond (Tm 42) .skip (.exit 0)) (.seq (.block 1 (.seq (.region aDW) (.seq (.seq (.region aDX) (.cond (Tm 55) (.seq (.region ZW) .ret) .skip)) (.region aDY)))) (.region anV))))
def anW:Rg:=[iA 4 (.mv (.const (.bool true)))]
def HF:aD:=(.seq (.region aDR) (.seq (.seq (.region aDS) (.cond (Tm 35) (.seq (.region LZ) .ret) .skip)) (.seq (.region aDT) (.seq (.seq (.region aDU) (.block 0 (.loop anU))) (.seq (.region anW) .ret)))))
def aZS:List Nat:=[2]
def anT:bG:=⟨2,60,HF,[.tmp 4]⟩
def aDZ:Rg:=[iA 1 (.box true (Tm 0)),iI 2 0]
def aEA:Rg:=[iF 21 0 1,iL 22 21,iA 23 (.call 104 [(Tm 22),(Ci 1),(Ci 4)]),iA 24 (.un .not (Tm 23)),iM 25 24,iG 26 (.fieldA 1 (Tm 1)) 25 false,iG 27 (.load none (Tm 26)) 25 false,iG 28 (.len (Tm 27)) 25 false,iG 29 (.bin .gtr (Tm 28) (Ci 4)) 25 false,iA 30 (.pick (Tm 25) (.const (.bool true)) (Tm 29)),iM 31 30,iG 32 (.fieldA 2 (Tm 1)) 31 false,iG 33 (.load none (Tm 32)) 31 false,iG 34 (.len (Tm 33)) 31 false,iG 35 (.bin .gtr (Tm 34) (Ci 4)) 31 false,iA 36 (.pick (Tm 31) (.const (.bool true)) (Tm 35)),iM 37 36,iG 38 (.fieldA 3 (Tm 1)) 37 false,iG 39 (.load none (Tm 38)) 37 false,iG 40 (.len (Tm 39)) 37 false,iG 41 (.bin .gtr (Tm 40) (Ci 40)) 37 false,iA 42 (.pick (Tm 37) (.const (.bool true)) (Tm 41)),iM 43 42,iG 44 (.fieldA 4 (Tm 1)) 43 false,iG 45 (.load none (Tm 44)) 43 false,iG 46 (.len (Tm 45)) 43 false,iG 47 (.bin .gtr (Tm 46) (Ci 24)) 43 false,iA 48 (.pick (Tm 43) (.const (.bool true)) (Tm 47)),iM 49 48,iG 50 (.fieldA 5 (Tm 1)) 49 false,iG 51 (.load none (Tm 50)) 49 false,iG 52 (.len (Tm 51)) 49 false,iG 53 (.bin .gtr (Tm 52) (Ci 4)) 49 false,iA 54 (.pick (Tm 49) (.const (.bool true)) (Tm 53)),iM 55 54,iG 56 (.fieldA 6 (Tm 1)) 55 false,iG 57 (.load none (Tm 56)) 55 false,iG 58 (.len (Tm 57)) 55 false,iG 59 (.bin .gtr (Tm 58) (Ci 12)) 55 false,iA 60 (.pick (Tm 55) (.const (.bool true)) (Tm 59)),iM 61 60,iG 62 (.load (some 7) (Tm 1)) 61 false,iG 63 (.call 111 [(Tm 62)]) 61 false,iG 64 (.un .not (Tm 63)) 61 false,iA 65 (.pick (Tm 61) (.const (.bool true)) (Tm 64))]
def mV:Rg:=[iI 2 1]
def aEB:Rg:=[iA 3 (.mv (.const .nils)),iA 4 (.mv (.const .nils)),iA 5 (.mv (.const .nils)),iA 6 (.mv (.const .nils)),iA 7 (.mv (.const .nils))]
def aEC:Rg:=[iA 8 (.mv (.const (.bool true)))]
def ZX:Rg:=[iF 66 1 1,iL 67 66,iN 68 67,iI 69 0]
def aED:Rg:=[iB 70 .lss 69 68]
def aEE:Rg:=[iX 71 4 67 69,iA 72 (.load (some 4) (Tm 71)),iA 10 (.alloc [(.str []),.nils,.nils,.nils]),iS 4 10 72]
def aEF:Rg:=[iM 73 3,iF 74 0 10,iL 75 74,iA 76 (.bslice true 1 1 [(.str [])] [(0,(Tm 75))]),iA 77 (.append 1 16 (Tm 73) (Tm 76)),iM 3 77]
def ZY:Rg:=[iM 78 8,iM 79 78,iG 80 (.load (some 4) (Tm 10)) 79 true,iG 81 (.call 95 [(Tm 80)]) 79 true,iA 82 (.pick (Tm 79) (Tm 81) (.const (.bool false))),iM 8 82]
def QB:Rg:=[iC 83 .add 69 1,iM 69 83]
def BQ:aD:=(.seq (.region aED) (.seq (.cond (Tm 70) .skip (.exit 0)) (.seq (.block 1 (.seq (.region aEE) (.seq (.region aEF) (.region ZY)))) (.region QB))))
def QC:Rg:=[iF 84 2 1,iL 85 84,iN 86 85,iI 87 0]
def aoN:Rg:=[iB 88 .lss 87 86]
def aoO:Rg:=[iX 89 4 85 87,iA 90 (.load (some 4) (Tm 89)),iA 12 (.alloc [(.str []),(.int .i64 0),(.int .i64 0),(.int .i64 0)]),iS 4 12 90]
def aoP:Rg:=[iM 91 4,iF 92 0 12,iL 93 92,iA 94 (.bslice true 1 1 [(.str [])] [(0,(Tm 93))]),iA 95 (.append 1 16 (Tm 91) (Tm 94)),iM 4 95]
def QD:Rg:=[iM 96 8,iM 97 96,iG 98 (.fieldA 1 (Tm 12)) 97 true,iG 99 (.load none (Tm 98)) 97 true,iG 100 (.call 104 [(Tm 99),(Ci 1),(Ci 16)]) 97 true,iA 101 (.pick (Tm 97) (Tm 100) (.const (.bool false))),iM 102 101,iG 103 (.fieldA 2 (Tm 12)) 102 true,iG 104 (.load none (Tm 103)) 102 true,iG 105 (.call 104 [(Tm 104),(Ci 1),(Ci 64)]) 102 true,iA 106 (.pick (Tm 102) (Tm 105) (.const (.bool false))),iM 107 106,iG 108 (.fieldA 3 (Tm 12)) 107 true,iG 109 (.load none (Tm 108)) 107 true,iG 110 (.fieldA 1 (Tm 1)) 107 true,iG 111 (.load none (Tm 110)) 107 true,iG 112 (.len (Tm 111)) 107 true,iG 113 (.bin .sub (Tm 112) (Ci 1)) 107 true,iG 114 (.call 104 [(Tm 109),(Ci 0),(Tm 113)]) 107 true,iA 115 (.pick (Tm 107) (Tm 114) (.const (.bool false))),iM 8 115]
def uN:Rg:=[iC 116 .add 87 1,iM 87 116]
def BR:aD:=(.seq (.region aoN) (.seq (.cond (Tm 88) .skip (.exit 2)) (.seq (.block 3 (.seq (.region aoO) (.seq (.region aoP) (.region QD)))) (.region uN))))
def QE:Rg:=[iF 117 3 1,iL 118 117,iA 119 (.slice 7 (Tm 118) (some (Ci 1)) none none),iN 120 119,iI 121 0]
def aoQ:Rg:=[iB 122 .lss 121 120]
def aoR:Rg:=[iX 123 7 119 121,iA 124 (.load (some 7) (Tm 123)),iA 14 (.alloc [(.str []),(.int .i64 0),(.int .i64 0),(.int .i64 0),(.bool false),.nils,.nils]),iS 7 14 124]
def aoS:Rg:=[iM 125 5,iF 126 0 14,iL 127 126,iA 128 (.bslice true 1 1 [(.str [])] [(0,(Tm 127))]),iA 129 (.append 1 16 (Tm 125) (Tm 128)),iM 5 129]
def aoT:Rg:=[iC 130 .add 121 1,iM 121 130]
def BS:aD:=(.seq (.region aoQ) (.seq (.cond (Tm 122) .skip (.exit 4)) (.seq (.block 5 (.seq (.region aoR) (.region aoS))) (.region aoT))))
def QF:Rg:=[iF 131 4 1,iL 132 131,iN 133 132,iI 134 0]
def aoU:Rg:=[iB 135 .lss 134 133]
def aoV:Rg:=[iX 136 3 132 134,iA 137 (.load (some 3) (Tm 136)),iA 16 (.alloc [(.str []),(.int .i64 0),(.int .i64 0)]),iS 3 16 137]
def aoW:Rg:=[iM 138 5,iF 139 0 16,iL 140 139,iA 141 (.bslice true 1 1 [(.str [])] [(0,(Tm 140))]),iA 142 (.append 1 16 (Tm 138) (Tm 141)),iM 5 142]
def QG:Rg:=[iM 143 8,iM 144 143,iG 145 (.fieldA 1 (Tm 16)) 144 true,iG 146 (.load none (Tm 145)) 144 true,iG 147 (.fieldA 2 (Tm 1)) 144 true,iG 148 (.load none (Tm 147)) 144 true,iG 149 (.len (Tm 148)) 144 true,iG 150 (.bin .sub (Tm 149) (Ci 1)) 144 true,iG 151 (.call 104 [(Tm 146),(Ci 0),(Tm 150)]) 144 true,iA 152 (.pick (Tm 144) (Tm 151) (.const (.bool false))),iM 153 152,iG 154 (.fieldA 2 (Tm 16)) 153 true,iG 155 (.load none (Tm 154)) 153 true,iG 156 (.fieldA 3 (Tm 1)) 153 true,iG 157 (.load none (Tm 156)) 153 true,iG 158 (.len (Tm 157)) 153 true,iG 159 (.bin .sub (Tm 158) (Ci 1)) 153 true,iG 160 (.call 104 [(Tm 155),(Ci 0),(Tm 159)]) 153 true,iA 161 (.pick (Tm 153) (Tm 160) (.const (.bool false))),iM 162 161,iG 163 (.fieldA 3 (Tm 1)) 162 true,iG 164 (.load none (Tm 163)) 162 true,iG 165 (.fieldA 2 (Tm 16)) 162 true,iG 166 (.load none (Tm 165)) 162 true,iG 167 (.idxS 7 (Tm 164) (Tm 166)) 162 true,iG 168 (.fieldA 1 (Tm 167)) 162 true,iG 169 (.load none (Tm 168)) 162 true,iG 170 (.bin .eql (Tm 169) (Ci 4)) 162 true,iA 171 (.pick (Tm 162) (Tm 170) (.const (.bool false))),iM 8 171]
def qQ:Rg:=[iC 172 .add 134 1,iM 134 172]
def BT:aD:=(.seq (.region aoU) (.seq (.cond (Tm 135) .skip (.exit 6)) (.seq (.block 7 (.seq (.region aoV) (.seq (.region aoW) (.region QG)))) (.region qQ))))
def QH:Rg:=[iF 173 5 1,iL 174 173,iN 175 174,iI 176 0]
def aoX:Rg:=[iB 177 .lss 176 175]
def aoY:Rg:=[iX 178 17 174 176,iA 179 (.load (some 17) (Tm 178)),iA 18 (.alloc [(.str []),(.int .i64 0),(.int .i64 0),(.int .i64 0),(.int .i64 0),(.int .i64 0),(.int .i64 0),(.int .i64 0),(.int .i64 0),.nils,.nils,(.bool false),.nils,.nils,(.bool false),.nils,.nils]),iS 17 18 179]
def aoZ:Rg:=[iM 180 6,iF 181 0 18,iL 182 181,iA 183 (.bslice true 1 1 [(.str [])] [(0,(Tm 182))]),iA 184 (.append 1 16 (Tm 180) (Tm 183)),iM 6 184]
def QI:Rg:=[iM 185 8,iM 186 185,iG 187 (.load (some 17) (Tm 18)) 186 true,iG 188 (.fieldA 2 (Tm 1)) 186 true,iG 189 (.load none (Tm 188)) 186 true,iG 190 (.len (Tm 189)) 186 true,iG 191 (.call 112 [(Tm 187),(Tm 190)]) 186 true,iA 192 (.pick (Tm 186) (Tm 191) (.const (.bool false))),iM 8 192]
def QJ:Rg:=[iC 193 .add 176 1,iM 176 193]
def BU:aD:=(.seq (.region aoX) (.seq (.cond (Tm 177) .skip (.exit 8)) (.seq (.block 9 (.seq (.region aoY) (.seq (.region aoZ) (.region QI)))) (.region QJ))))
def QK:Rg:=[iF 194 6 1,iL 195 194,iN 196 195,iI 197 0]
def apA:Rg:=[iB 198 .lss 197 196]
def apB:Rg:=[iX 199 2 195 197,iA 200 (.load (some 2) (Tm 199)),iA 20 (.alloc [(.str []),(.int .i64 0)]),iS 2 20 200]
def apC:Rg:=[iM 201 7,iF 202 0 20,iL 203 202,iA 204 (.bslice true 1 1 [(.str [])] [(0,(Tm 203))]),iA 205 (.append 1 16 (Tm 201) (Tm 204)),iM 7 205]
def QL:Rg:=[iM 206 8,iM 207 206,iG 208 (.fieldA 1 (Tm 20)) 207 true,iG 209 (.load none (Tm 208)) 207 true,iG 210 (.fieldA 5 (Tm 1)) 207 true,iG 211 (.load none (Tm 210)) 207 true,iG 212 (.len (Tm 211)) 207 true,iG 213 (.bin .sub (Tm 212) (Ci 1)) 207 true,iG 214 (.call 104 [(Tm 209),(Ci 0),(Tm 213)]) 207 true,iA 215 (.pick (Tm 207) (Tm 214) (.const (.bool false))),iM 8 215]
def QM:Rg:=[iC 216 .add 197 1,iM 197 216]
def BV:aD:=(.seq (.region apA) (.seq (.cond (Tm 198) .skip (.exit 10)) (.seq (.block 11 (.seq (.region apB) (.seq (.region apC) (.region QL)))) (.region QM))))
def uO:Rg:=[iM 217 8,iA 218 (.un .not (Tm 217)),iM 219 218,iG 220 (.mv (Tm 3)) 219 false,iG 221 (.call 110 [(Tm 220)]) 219 false,iG 222 (.un .not (Tm 221)) 219 false,iA 223 (.pick (Tm 219) (.const (.bool true)) (Tm 222)),iM 224 223,iG 225 (.mv (Tm 4)) 224 false,iG 226 (.call 110 [(Tm 225)]) 224 false,iG 227 (.un .not (Tm 226)) 224 false,iA 228 (.pick (Tm 224) (.const (.bool true)) (Tm 227)),iM 229 228,iG 230 (.mv (Tm 5)) 229 false,iG 231 (.call 110 [(Tm 230)]) 229 false,iG 232 (.un .not (Tm 231)) 229 false,iA 233 (.pick (Tm 229) (.const (.bool true)) (Tm 232)),iM 234 233,iG 235 (.mv (Tm 6)) 234 false,iG 236 (.call 110 [(Tm 235)]) 234 false,iG 237 (.un .not (Tm 236)) 234 false,iA 238 (.pick (Tm 234) (.const (.bool true)) (Tm 237)),iM 239 238,iG 240 (.mv (Tm 7)) 239 false,iG 241 (.call 110 [(Tm 240)]) 239 false,iG 242 (.un .not (Tm 241)) 239 false,iA 243 (.pick (Tm 239) (.const (.bool true)) (Tm 242))]
def kY:Rg:=[iI 2 1]
def BW:Rg:=[iI 2 0]
def HH:aD:=(.seq (.region aDZ) (.seq (.seq (.region aEA) (.cond (Tm 65) (.seq (.region mV) .ret) .skip)) (.seq (.region aEB) (.seq (.region aEC) (.seq (.seq (.region ZX) (.block 0 (.loop BQ))) (.seq (.seq (.region QC) (.block 2 (.loop BR))) (.seq (.seq (.region QE) (.block 4 (.loop BS))) (.seq (.seq (.region QF) (.block 6 (.loop BT))) (.seq (.seq (.region QH) (.block 8 (.loop BU))) (.seq (.seq (.region QK) (.block 10 (.loop BV))) (.seq (.seq (.region uO) (.cond (Tm 243) (.seq (.region kY) .ret) .skip)) (.seq (.region BW) .ret))))))))))))
def aZV:List Nat:=[1,76,94,128,141,183,204]
def aoM:bG:=⟨1,244,HH,[.tmp 2]⟩
end Go.PM
namespace Go.PM
open Go
@[go_sem] theorem a6F (a b:List UInt8):GA .eql a b=some (.bool (a==b)):=rfl
@[go_sem] theorem a6G (a b:List UInt8):GA .neq a b=some (.bool !(a==b)):=rfl
@[go_sem] theorem aIR (a b:List UInt8):GA .add a b=if ((a.length+b.length:Nat):Int)>9223372036854775807 then none else some (.str (a++b)):=rfl
@[go_sem] theorem a3C:(([]:List UInt8)==[])=true:=rfl
@[go_sem] theorem aYN (c:UInt8) (t:List UInt8):((c::t)==[])=false:=rfl
theorem mQ {a b:List UInt8} (h:a=b):(a==b)=true:=by simp[h]
theorem TA {a b:List UInt8} (h:a≠b):(a==b)=false:=by simp[h]
section
variable {C:Ctx} {F:PF} {H:PH}
theorem nO {name o s:Nat} {rs:List (List PV)} {vs:List PV} {v:PV} {args:List aM} {d:Option Nat} {K:PF→PH→Prop} (h:aI C name vs .nil (aL v)) (ho:H o=some (.rows s rs))
  (ha:aM.evs (F.frz o s rs) args=some vs) (hK:K ((F.frz o s rs).put d v) (H.frz o s rs)):fZ C name args [] d K F H:=by
 refine .inr ⟨_,_,.step o ho (.refl _ _),vs,.nil,aL v,?_,PH.nil_le,h,?_⟩
 ·rw[ha]; simp
 ·rintro r H' ⟨rfl,rfl⟩ -
  rw[PH.uW]
  exact hK
theorem gO.trans {F1 F2 F3:PF} {H1 H2 H3:PH} (h:gO F1 H1 F2 H2) (k:gO F2 H2 F3 H3):gO F1 H1 F3 H3:=by
 induction h with
 | refl=>exact k
 | step o ho h ih=>exact .step o ho (ih k)
theorem nF {c:aD} {K:cC} {s:Nat} {v:PV} {rows:List (List PV)} (ho:bB H s v rows)
  (h:∀ v1,Seen s v1 rows→∀ F1 H1,(∀ t,F t=some v→F1 t=some v1)→(∀ i u,F i=some u→Pure u→F1 i=some u)→aD.wp C (.loop c) K F1 H1):aD.wp C (.loop c) K F H:=by
 obtain⟨v1,hs,hf⟩:=ho.frz
 obtain⟨F1,H1,hz,h1,h2⟩:=hf F
 obtain⟨α,Fs,Hs,Pr,m,a0,F2,H2,hz2,rest⟩:=h v1 hs F1 H1 h1 h2
 exact⟨α,Fs,Hs,Pr,m,a0,F2,H2,hz.trans hz2,rest⟩
theorem aI.aLZ {name s:Nat} {v:PV} {rows:List (List PV)} {H0:PH} {R:PV→PH→Prop} (h:aI C name [.sl s rows] H0 R) (hs:Seen s v rows):aI C name [v] H0 R:=by
 rcases hs with ⟨rfl,rfl⟩ | rfl
 ·refine h.args ⟨rfl,fun j p q hp hq=>?_⟩
  cases j with
  | zero=>simp at hp hq; subst hp; subst hq; exact .nil s
  | succ j=>simp at hp
 ·exact h
theorem bB.fresh {s:Nat} {v:PV} {rows:List (List PV)} {o:Nat} (h:bB H s v rows) (ho:H o=none) (x:bV):bB (H.set o x) s v rows∧∀ l,v≠.osl o s 0 l:=by
 refine⟨h.ext fun q y hq=>?_,fun l e=>?_⟩
 ·have:q≠o:=by rintro rfl; rw[ho] at hq; cases hq
  simp only[aV,if_neg this,hq]
 ·rcases h with ⟨_,h2⟩ | ⟨q,rs,h1,h2,_⟩
  ·rw[h2] at e; cases e
  ·rw[h1] at e
   injection e with e1
   subst e1
   rw[ho] at h2; cases h2
theorem kK {s b:Nat} {v:PV} {rows:List (List PV)} {r:List PV} {o:Nat} {x:bV} {K:PV→PH→Prop} (h:bB H s v rows) (ho:H o=none) (hr:roomFor rows.length 1 b)
  (hk:∀ v' H',bB H' s v' (rows++[r])→H' o=some x→K v' H'):mM (H.set o x) s b v (.sl s [r]) K:=by
 obtain⟨h1,h2⟩:=h.fresh ho x
 refine fB (src:=[r]) h1 (by simp[dK]) hr fun v' H' hO hp=>hk v' H' hO (hp o x (by simp only[aV,if_true]) h2)
theorem zW {o s k:Nat} {rs:List (List PV)} (hk:k≤rs.length):PV.frz o s rs (.osl o s 0 k)=.sl s (rs.take k):=by
 have:0+k≤rs.length:=by omega
 simp only[PV.frz,PV.pR,PV.cR,if_true,true_and,if_pos this,bgV]
end
end Go.PM
namespace Go.PM
open Go Go.Na
def fY (n:Nat):Bool:=decide (97≤n)&&decide (n≤122)||decide (65≤n)&&decide (n≤90)
def pM (n:Nat):Bool:=decide (48≤n)&&decide (n≤57)
def fX (n:Nat):Bool:=fY n||pM n||decide (n=45)||decide (n=46)
theorem aKP {C:Ctx} (n:Nat):jH.wp C (aX tZ.res (aL (.bool (fY n)))) (PF.args [.int .u8 n]) .nil:=by
 have fin:∀ (F:PF) (b:Bool),F 2=some (.bool b)→b=fY n→aX tZ.res (aL (.bool (fY n))) .ret F .nil:=by
  intro F b h e
  subst e
  refine bZ (.inr rfl) (vs:=[.bool (fY n)]) (by simp -implicitDefEqProofs only[go_sem,tZ,h]) rfl
 unfold fY at *
 by_cases a:97≤n
 ·have a':(n:Int)≥97:=by omega
  by_cases b:n≤122
  ·have b':(n:Int)≤122:=by omega
   simp -implicitDefEqProofs only[go_sem,γ,reduceCtorEq,jH,mW,mX,a',b']
   exact fin _ _ rfl (by simp[a,b])
  ·have b':¬ (n:Int)≤122:=by omega
   by_cases c:65≤n
   ·have c':(n:Int)≥65:=by omega
    have d:¬ (n:Int)≤90:=by omega
    simp -implicitDefEqProofs only[go_sem,γ,reduceCtorEq,jH,mW,mX,a',b',c',d]
    exact fin _ _ rfl (by simp[a,b,c]; omega)
   ·omega
 ·have a':¬ (n:Int)≥97:=by omega
  by_cases c:65≤n
  ·have c':(n:Int)≥65:=by omega
   by_cases d:n≤90
   ·have d':(n:Int)≤90:=by omega
    simp -implicitDefEqProofs only[go_sem,γ,reduceCtorEq,jH,mW,mX,a',c',d']
    exact fin _ _ rfl (by simp[a,c,d])
   ·have d':¬ (n:Int)≤90:=by omega
    simp -implicitDefEqProofs only[go_sem,γ,reduceCtorEq,jH,mW,mX,a',c',d']
    exact fin _ _ rfl (by simp[a,c,d])
  ·have c':¬ (n:Int)≥65:=by omega
   simp -implicitDefEqProofs only[go_sem,γ,reduceCtorEq,jH,mW,mX,a',c']
   exact fin _ _ rfl (by simp[a,c])
theorem aOH {C:Ctx} (n:Nat):nM.wp C (aX zZ.res (aL (.bool (pM n)))) (PF.args [.int .u8 n]) .nil:=by
 have fin:∀ (F:PF) (b:Bool),F 2=some (.bool b)→b=pM n→aX zZ.res (aL (.bool (pM n))) .ret F .nil:=by
  intro F b h e
  subst e
  refine bZ (.inr rfl) (vs:=[.bool (pM n)]) (by simp -implicitDefEqProofs only[go_sem,zZ,h]) rfl
 unfold pM at *
 by_cases a:48≤n
 ·have a':(n:Int)≥48:=by omega
  by_cases b:n≤57
  ·have b':(n:Int)≤57:=by omega
   simp -implicitDefEqProofs only[go_sem,γ,reduceCtorEq,nM,vY,vZ,a',b']
   exact fin _ _ rfl (by simp[a,b])
  ·have b':¬ (n:Int)≤57:=by omega
   simp -implicitDefEqProofs only[go_sem,γ,reduceCtorEq,nM,vY,vZ,a',b']
   exact fin _ _ rfl (by simp[a,b])
 ·have a':¬ (n:Int)≥48:=by omega
  simp -implicitDefEqProofs only[go_sem,γ,reduceCtorEq,nM,vY,vZ,a']
  exact fin _ _ rfl (by simp[a])
theorem aOL {C:Ctx} (h1:∀ n:Nat,aI C 126 [.int .u8 n] .nil (aL (.bool (fY n)))) (h2:∀ n:Nat,aI C 124 [.int .u8 n] .nil (aL (.bool (pM n)))) (n:Nat) :
  xH.wp C (aX AA.res (aL (.bool (fX n)))) (PF.args [.int .u8 n]) .nil:=by
 have fin:∀ (F:PF) (b:Bool),F 2=some (.bool b)→b=fX n→aX AA.res (aL (.bool (fX n))) .ret F .nil:=by
  intro F b h e
  subst e
  refine bZ (.inr rfl) (vs:=[.bool (fX n)]) (by simp -implicitDefEqProofs only[go_sem,AA,h]) rfl
 simp -implicitDefEqProofs only[go_sem,reduceCtorEq,xH,adC,adD]
 refine aB (h1 n) rfl ?_
 cases hl:fY n with
 | true =>
  simp -implicitDefEqProofs only[go_sem,γ]
  exact fin _ _ rfl (by simp[fX,hl])
 | false =>
  simp -implicitDefEqProofs only[go_sem,γ,reduceCtorEq]
  refine aB (h2 n) rfl ?_
  cases hd:pM n with
  | true =>
   simp -implicitDefEqProofs only[go_sem,γ,reduceCtorEq]
   exact fin _ _ rfl (by simp[fX,hd])
  | false =>
   by_cases c:n=45
   ·simp -implicitDefEqProofs only[go_sem,γ,reduceCtorEq,bP (show (n:Int)=45 by omega)]
    exact fin _ _ rfl (by simp[fX,c])
   ·by_cases d:n=46
    ·simp -implicitDefEqProofs only[go_sem,γ,reduceCtorEq,bD (show (n:Int)≠45 by omega),bP (show (n:Int)=46 by omega)]
     exact fin _ _ rfl (by simp[fX,d])
    ·simp -implicitDefEqProofs only[go_sem,γ,reduceCtorEq,bD (show (n:Int)≠45 by omega),bD (show (n:Int)≠46 by omega)]
     exact fin _ _ rfl (by simp[fX,c,d,hl,hd])
def isName (s:List UInt8):Bool:=match s with
 | []=>false
 | c::_=>decide (s.length≤16)&&fY c.toNat&&s.all fun c=>fX c.toNat
theorem AS {α:Type} {p:α→Bool} {l:List α} {k:Nat} (hk:k<l.length) (h:(l.take k).all p=true) (hp:p l[k]=true):(l.take (k+1)).all p=true:=by
 rw[biG hk,List.all_append,h]; simp[hp]
theorem AU {α:Type} {p:α→Bool} {l:List α} {k:Nat} (hk:k<l.length) (hp:p l[k]=false):l.all p=false:=by
 rw[List.all_eq_false]
 exact⟨l[k],bgA hk,by simp[hp]⟩
def apL (s:List UInt8) (k:Nat):PF:=((PF.nil.set 0 (.str s)).set 3 (.int .i64 k))
theorem aUV {C:Ctx} (h1:∀ n:Nat,aI C 126 [.int .u8 n] .nil (aL (.bool (fY n)))) (h2:∀ n:Nat,aI C 125 [.int .u8 n] .nil (aL (.bool (fX n)))) (s:List UInt8) :
  pU.wp C (aX ME.res (aL (.bool (isName s)))) (PF.args [.str s]) .nil:=by
 have fin:∀ (F:PF) (b:Bool),F 2=some (.bool b)→b=isName s→aX ME.res (aL (.bool (isName s))) .ret F .nil:=by
  intro F b h e
  subst e
  refine bZ (.inr rfl) (vs:=[.bool (isName s)]) (by simp -implicitDefEqProofs only[go_sem,ME,h]) rfl
 cases s with
 | nil =>
  simp -implicitDefEqProofs only[go_sem,γ,reduceCtorEq,pU,CG,CH,CI]
  exact fin _ _ rfl rfl
 | cons c t =>
  have hz:(c::t)[0]?=some c:=rfl
  have hne:(c::t==[])=false:=rfl
  have hN:isName (c::t)=(decide ((c::t).length≤16)&&fY c.toNat&&(c::t).all fun c=>fX c.toNat):=rfl
  generalize c::t=s at *
  by_cases hl:s.length≤16
  ·have hl':¬ ((s.length:Nat):Int)>16:=by omega
   rw[decide_eq_true hl,bgR] at hN
   simp -implicitDefEqProofs only[go_sem,ν,γ,reduceCtorEq,pU,CG,CH,hne,hl',hz,bhC]
   refine aB (h1 c.toNat) rfl ?_
   cases hc:fY c.toNat with
   | false =>
    simp -implicitDefEqProofs only[go_sem,γ,reduceCtorEq,bgM,CI]
    exact fin _ _ rfl (by rw[hN,hc]; rfl)
   | true =>
    rw[hc,bgR] at hN
    simp -implicitDefEqProofs only[go_sem,γ,reduceCtorEq,bgB,apN]
    refine wp_loop (α:=Nat) (fun k=>apL s k) (fun _=>.nil) (fun k=>k≤s.length∧(s.take k).all (fun c=>fX c.toNat)=true) (fun k=>s.length-k) 0 ⟨bgE _,rfl⟩ ?_ PH.nil_le ?_
    ·unfold apL
     (repeat' (first|exact PF.nil_le|refine PF.aA ?_ ?_))<;>first|(simp -implicitDefEqProofs only[go_sem,γ,reduceCtorEq]<;>rfl)|rfl
    rintro k ⟨hk,ha⟩
    simp -implicitDefEqProofs only[go_sem,γ,reduceCtorEq,apM,apO,apL]
    by_cases hlt:k<s.length
    ·have hlt':(k:Int)<(s.length:Nat):=by omega
     have hg:s[k]?=some s[k]:=bgF hlt
     simp -implicitDefEqProofs only[go_sem,γ,reduceCtorEq,hlt',apP,hg,bhC]
     refine aB (h2 (s[k]).toNat) rfl ?_
     cases hi:fX (s[k]).toNat with
     | false =>
      simp -implicitDefEqProofs only[go_sem,γ,reduceCtorEq,bgM,apQ]
      refine fin _ false rfl ?_
      rw[hN,AU hlt hi]
     | true =>
      simp -implicitDefEqProofs only[go_sem,γ,reduceCtorEq,bgB,apR,aN (show k<9223372036854775807 by omega)]
      refine aJ (k+1) ⟨hlt,bhE.1 (AS hlt ha hi)⟩ (by omega) ?_ PH.nil_le
      (repeat' (first|exact PF.nil_le|refine PF.aA ?_ ?_))<;>first|(simp -implicitDefEqProofs only[go_sem,γ,reduceCtorEq]<;>rfl)|rfl
    ·have hlt':¬ (k:Int)<(s.length:Nat):=by omega
     simp -implicitDefEqProofs only[go_sem,hlt',apS]
     have:k=s.length:=by omega
     subst this
     rw[bgH (bfX _)] at ha
     exact fin _ true rfl (by rw[hN,ha])
  ·have hl':((s.length:Nat):Int)>16:=by omega
   simp -implicitDefEqProofs only[go_sem,γ,reduceCtorEq,pU,CG,CH,CI,hne,hl']
   exact fin _ _ rfl (by rw[hN,decide_eq_false hl]; rfl)
end Go.PM
namespace Go.PM
open Go Go.Na
abbrev dT (x:Int):Prop:=-9223372036854775808≤x∧x≤9223372036854775807
structure cL where
 name:List UInt8
 start:List RF
 rates:List (List RF)
 exit:List RF
structure cS where
 name:List UInt8
 extents:Int
 port:Int
 law:Int
structure cK where
 name:List UInt8
 level:Int
 parent:Int
 uplink:Int
 shock:RF
structure cO where
 name:List UInt8
 model:Int
 machine:Int
structure cM where
 name:List UInt8
 k:Int
 m:Int
 quorum:Int
 s0:Int
 s1:Int
 s2:Int
 s3:Int
 s4:Int
 models:List Int
 repair:List RF
 target:RF
 horizon:RF
structure fI where
 name:List UInt8
 policy:Int
structure aH where
 extent:Int
 laws:List cL
 models:List cS
 domains:List cK
 drives:List cO
 policies:List cM
 volumes:List fI
abbrev aLY (l:List (List RF)):PV:=.sl 1 (l.map fun r=>[frs r])
abbrev cL.cells (x:cL):List PV:=[.str x.name,frs x.start,aLY x.rates,frs x.exit]
abbrev cS.cells (x:cS):List PV:=[.str x.name,.int .i64 x.extents,.int .i64 x.port,.int .i64 x.law]
abbrev cK.cells (x:cK):List PV:=[.str x.name,.int .i64 x.level,.int .i64 x.parent,.int .i64 x.uplink,.bool x.shock.neg,aF x.shock.num,aF x.shock.den]
abbrev cO.cells (x:cO):List PV:=[.str x.name,.int .i64 x.model,.int .i64 x.machine]
abbrev cM.cells (x:cM):List PV:=[.str x.name,.int .i64 x.k,.int .i64 x.m,.int .i64 x.quorum,.int .i64 x.s0,.int .i64 x.s1,.int .i64 x.s2,.int .i64 x.s3,.int .i64 x.s4,ints x.models,frs x.repair,
 .bool x.target.neg,aF x.target.num,aF x.target.den,.bool x.horizon.neg,aF x.horizon.num,aF x.horizon.den]
abbrev fI.cells (x:fI):List PV:=[.str x.name,.int .i64 x.policy]
abbrev aH.cells (f:aH):List PV:=[.int .i64 f.extent,.sl 4 (f.laws.map cL.cells),.sl 4 (f.models.map cS.cells),.sl 7 (f.domains.map cK.cells),.sl 3 (f.drives.map cO.cells),.sl 17 (f.policies.map cM.cells),.sl 2 (f.volumes.map fI.cells)]
def cM.spread (p:cM) (level:Nat):Int:=match level with
 | 0=>p.s0
 | 1=>p.s1
 | 2=>p.s2
 | 3=>p.s3
 | _=>p.s4
abbrev Fits {α:Type} (l:List α):Prop:=l.length≤9223372036854775807
structure qK (l:List RF):Prop where
 fits:Fits l
 all:∀ x∈l,x.Ok
structure cL.Ok (x:cL):Prop where
 start:qK x.start
 exit:qK x.exit
 rates:Fits x.rates
 row:∀ r∈x.rates,qK r
structure cM.Ok (x:cM):Prop where
 k:dT x.k
 m:dT x.m
 quorum:dT x.quorum
 models:Fits x.models
 each:∀ m∈x.models,dT m
 repair:qK x.repair
 target:x.target.Ok
 horizon:x.horizon.Ok
structure aH.Ok (f:aH):Prop where
 laws:Fits f.laws
 models:Fits f.models
 domains:Fits f.domains
 drives:Fits f.drives
 policies:Fits f.policies
 volumes:Fits f.volumes
 law:∀ x∈f.laws,x.Ok
 dom:∀ x∈f.domains,x.shock.Ok∧dT x.level∧dT x.parent
 drive:∀ x∈f.drives,dT x.model∧dT x.machine
 policy:∀ x∈f.policies,x.Ok
 volume:∀ x∈f.volumes,dT x.policy
def yM (x:RF):FR:=if dH (val x.num) (val x.den) then jP x.neg (val x.num) (val x.den) else .error 1
theorem aLT (x:RF):MM x.neg (val x.num) (val x.den)=frV (yM x):=by
 unfold MM yM
 split
 ·exact aaE _ _ _
 ·rfl
def fE (x:RF):Bool:=match yM x with
 | .ok (n,a,b)=>!n&&(decide (cA a≤32)&&decide (cA b≤32))
 | .error _=>false
def bS (x:RF):Bool:=decide (val x.num≠0)
def RY (x:RF):Bool:=dH (val x.num) (val x.den)&&decide (uV x.neg (val x.num) (val x.den) false 1 1≤0)
def within (n lo hi:Int):Bool:=decide (lo≤n)&&decide (n≤hi)
def cW (R:List Bool) (i:Nat) (row:List RF):Nat→List Bool
 | 0=>R
 | k+1=>let R':=cW R i row k
  R'.set i (R'.getD i false||(row.map bS).getD k false&&R'.getD k false)
def jJ (l:cL) (R:List Bool) (i:Nat):List Bool :=
 cW (R.set i (R.getD i false||(l.exit.map bS).getD i false)) i (l.rates.getD i []) (l.rates.getD i []).length
def eA (l:cL) (R:List Bool):Nat→List Bool
 | 0=>R
 | i+1=>jJ l (eA l R i) i
def fM (l:cL):Nat→List Bool
 | 0=>bfV l.exit.length false
 | r+1=>eA l (fM l r) l.exit.length
def pQ (l:cL):Bool:=(fM l (l.exit.length+1)).all id
def oI (l:cL):Bool :=
 within l.start.length 1 4&&decide (l.exit.length=l.start.length)&&decide (l.rates.length=l.start.length)&&l.start.all fE&&l.exit.all fE
 && (bgN l.rates.length).all (fun i=>decide ((l.rates.getD i []).length=l.start.length)&&(l.rates.getD i []).all fE&&!((l.rates.getD i []).map bS).getD i false)
 && (match oM (l.start.map RF.v) with
  | .ok (n,a,b)=>decide (uV n a b false 1 1=0)
  | .error _=>false)&&pQ l
def distinct (l:List (List UInt8)):Bool:=(bgN l.length).all fun i=>isName (l.getD i [])&&!(l.take i).contains (l.getD i [])
def PK (f:aH) (i:Nat) (d:cK):Bool :=
 within d.parent 0 i&&decide ((f.domains.map cK.level).getD d.parent.toNat 0=IntKind.i64.wrap (d.level-1))&&within d.level 1 4&&within d.uplink 1 64&&fE d.shock
def LK (f:aH) (r:cK) (t:List cK):Bool :=
 decide (r.name=[])&&decide (r.level=0)&&decide (r.parent=-1)&&decide (r.uplink=0)&&fE r.shock&&!bS r.shock
  && (bgN t.length).all fun i=>match t[i]? with
   | some d=>PK f i d
   | none=>false
def lP (f:aH):Bool:=match f.domains with
 | []=>false
 | r::t=>LK f r t
def RW (p:cM):Bool :=
 within p.k 1 6&&within p.m 0 4&&decide (p.k+p.m≤8)&&within p.quorum p.k (p.k+p.m)&&decide (p.s0=0)&&([p.s0,p.s1,p.s2,p.s3,p.s4].all fun n=>within n 0 8)
def ML (p:cM):Bool :=
 decide ((p.repair.length:Int)=max p.m 1)&&(p.repair.all fun x=>fE x&&bS x)&&fE p.target&&RY p.target&&fE p.horizon
def hJ (models:Nat) (p:cM):Bool :=
 RW p&&decide (p.models.length≠0)&&ML p&&(bgN p.models.length).all fun j=>within (p.models.getD j 0) 0 ((models:Int)-1)&&!(p.models.take j).contains (p.models.getD j 0)
def jW (f:aH) (m:cS):Bool:=within m.extents 1 16&&within m.port 1 64&&within m.law 0 ((f.laws.length:Int)-1)
def iH (f:aH) (d:cO):Bool:=within d.model 0 ((f.models.length:Int)-1)&&within d.machine 0 ((f.domains.length:Int)-1)&&decide ((f.domains.map cK.level).getD d.machine.toNat 0=4)
def lN (f:aH) (v:fI):Bool:=within v.policy 0 ((f.policies.length:Int)-1)
def mK (f:aH):Bool:=within f.extent 1 4&&decide (f.laws.length≤4)&&decide (f.models.length≤4)&&decide (f.domains.length≤40)&&decide (f.drives.length≤24)&&decide (f.policies.length≤4)&&decide (f.volumes.length≤12)
def dE (f:aH):Bool :=
 mK f&&lP f&&(f.laws.all oI&&f.models.all (jW f)&&f.drives.all (iH f)&&f.policies.all (hJ f.models.length)&&f.volumes.all (lN f))
 && (distinct (f.laws.map cL.name)&&distinct (f.models.map cS.name)&&distinct ((f.domains.drop 1).map cK.name++f.drives.map cO.name)&&distinct (f.policies.map cM.name)&&distinct (f.volumes.map fI.name))
end Go.PM
namespace Go.PM
open Go Go.Na
theorem aU {t:Nat} {b b':Bool} {F:PF} {H:PH} (h:F t=some (.bool b)) (e:b=b'):aX [.tmp t] (bY (.bool b')) .ret F H:=by
 subst e
 exact aW (.inr rfl) .nil (vs:=[.bool b]) (by rw[jK,lL,h,nB]) PH.nil_le ⟨.refl _,rfl⟩
theorem a3S {C:Ctx} (n lo hi:Int):uK.wp C (aX gin.res (bY (.bool (within n lo hi)))) (PF.args [.int .i64 n,.int .i64 lo,.int .i64 hi]) .nil:=by
 by_cases a:lo≤n
 ·by_cases b:n≤hi
  ·simp -implicitDefEqProofs only[go_sem,γ,reduceCtorEq,uK,UB,UC,gin,show n≥lo from a,b]
   exact aU rfl (by simp[within,a,b])
  ·simp -implicitDefEqProofs only[go_sem,γ,reduceCtorEq,uK,UB,UC,gin,show n≥lo from a,b]
   exact aU rfl (by simp[within,a,b])
 ·have a':¬ n≥lo:=a
  simp -implicitDefEqProofs only[go_sem,γ,reduceCtorEq,uK,UB,UC,gin,a']
  exact aU rfl (by simp[within,a])
theorem aNV {C:Ctx} (L:pH C) (x:RF) (hx:x.Ok):xB.wp C (aX GX.res (bY (.bool (bS x)))) (PF.args [.agg x.cells]) .nil:=by
 simp -implicitDefEqProofs only[go_sem,δ,γ,θ,xB,acC,acD,GX]
 refine aB (L.bits x.num hx.1 hx.2.2.1) rfl ?_
 simp -implicitDefEqProofs only[go_sem,γ]
 refine aU rfl ?_
 have:=@gQ (val x.num)
 rw[bS,decide_eq_decide]
 omega
structure ajU (C:Ctx):Prop extends AR C where
 frac:∀ n d:Int,dT n→dT d→aI C 115 [.int .i64 n,.int .i64 d] .nil (aL (UU n d))
 red:∀ x:RF,x.Ok→aI C 116 [.agg x.cells] .nil (aL (frV (yM x)))
 ord:∀ x y:RF,x.Ok→y.Ok→aI C 114 [.agg x.cells,.agg y.cells] .nil (aL (vM x.neg (val x.num) (val x.den) y.neg (val y.num) (val y.den)))
 plus:∀ x y:RF,x.Ok→y.Ok→aI C 113 [.agg x.cells,.agg y.cells] .nil (aL (frV (iQ x.v y.v)))
 tot:∀ l:List RF,qK l→aI C 117 [frs l] .nil (aL (frV (oM (l.map RF.v))))
theorem CJ {neg:Bool} {a b:Nat} {e:Int} (h:jP neg a b=.error e):e=2:=by
 unfold jP at h
 split at h
 ·injection h with h; exact h.symm
 ·cases h
theorem aWD {x:RF} {e:Int} (h:yM x=.error e):e≠0:=by
 unfold yM at h
 split at h
 ·rw[CJ h]; decide
 ·injection h with h; subst h; decide
theorem a1J {x:RF} {r:FV} (h:yM x=.ok r):r.rf.Ok:=by
 unfold yM at h
 split at h
 ·exact (pV h).2
 ·cases h
theorem aZL {C:Ctx} (L:ajU C) (x:RF) (hx:x.Ok):HC.wp C (aX anP.res (bY (.bool (fE x)))) (PF.args [.agg x.cells]) .nil:=by
 simp -implicitDefEqProofs only[go_sem,δ,γ,HC,aDJ,aDK,anP]
 refine aB (L.red x hx) rfl ?_
 unfold fE
 cases hr:yM x with
 | error e =>
  have:=bD (aWD hr)
  simp -implicitDefEqProofs only[go_sem,δ,γ,frV]
  refine aP fun o ho=>?_
  simp -implicitDefEqProofs only[go_sem,δ,γ,reduceCtorEq,LW,this]
  exact aU rfl rfl
 | ok r =>
  obtain⟨n,a,b⟩:=r
  obtain⟨l1,l2,l3,l4⟩:=a1J hr
  simp -implicitDefEqProofs only[go_sem,δ,γ,frV]
  refine aP fun o ho=>?_
  cases n with
  | true =>
   simp -implicitDefEqProofs only[go_sem,ρ,δ,γ,θ,reduceCtorEq,LW]
   exact aU rfl rfl
  | false =>
   simp -implicitDefEqProofs only[go_sem,ρ,δ,γ,θ,LW]
   refine aB (L.bits _ l1 l3) rfl ?_
   rw[show val (FV.rf (false,a,b)).num=a from aY a]
   by_cases c1:cA a≤32
   ·have c1':((cA a:Nat):Int)≤32:=by omega
    simp -implicitDefEqProofs only[go_sem,δ,γ,c1']
    refine aB (L.bits _ l2 l4) rfl ?_
    rw[show val (FV.rf (false,a,b)).den=b from aY b]
    simp -implicitDefEqProofs only[go_sem,γ]
    refine aU rfl ?_
    rw[decide_eq_true c1]
    simp
    omega
   ·have c1':¬ ((cA a:Nat):Int)≤32:=by omega
    simp -implicitDefEqProofs only[go_sem,γ,reduceCtorEq,c1']
    refine aU rfl ?_
    rw[decide_eq_false c1]
    rfl
theorem apW:jP false 1 1=.ok (false,1,1):=by
 have:cA 1=1:=by rw[oA (by decide),iW]
 simp[jP,this]
theorem aqA:UU 1 1=frV (.ok (false,1,1)):=by
 rw[UU,if_neg (by decide),aaE]
 show frV (jP false 1 1)=_
 rw[apW]
theorem aQE:(FV.rf (false,1,1)).Ok:=(pV apW).2
theorem ajF:dH 1 1=true:=by
 have:cA 1=1:=by rw[oA (by decide),iW]
 simp[dH,this]
theorem aZP {C:Ctx} (L:ajU C) (x:RF) (hx:x.Ok):HE.wp C (aX gone.res (bY (.bool (RY x)))) (PF.args [.agg x.cells]) .nil:=by
 simp -implicitDefEqProofs only[go_sem,HE,aDO,aDP,gone]
 refine aB (L.frac 1 1 (by decide) (by decide)) rfl ?_
 rw[aqA]
 simp -implicitDefEqProofs only[go_sem,δ,γ,frV]
 refine aP fun o ho=>?_
 simp -implicitDefEqProofs only[go_sem,δ,γ,aDQ]
 refine aB (L.ord x (FV.rf (false,1,1)) hx aQE) rfl ?_
 rw[show val (FV.rf (false,1,1)).num=1 from aY 1,show val (FV.rf (false,1,1)).den=1 from aY 1,show (FV.rf (false,1,1)).neg=false from rfl]
 unfold vM RY
 rw[ajF,biN]
 cases hv:dH (val x.num) (val x.den) with
 | false =>
  simp -implicitDefEqProofs only[go_sem,ρ,γ,reduceCtorEq,ZV]
  exact aU rfl rfl
 | true =>
  simp -implicitDefEqProofs only[go_sem,ρ,γ,ZV]
  exact aU rfl rfl
theorem aTV {C:Ctx} (p:RF→Bool) (fn:Nat) (l:List RF) (hf:Fits l) (h:∀ x∈l,aI C fn [.agg x.cells] .nil (aL (.bool (p x)))) :
  BH.wp C (aX TY.res (bY (.bool (l.all p)))) (PF.args [frs l,.fn fn []]) .nil:=by
 simp -implicitDefEqProofs only[go_sem,γ,reduceCtorEq,BH,amM,amN,TY]
 refine wp_loop (α:=Nat) (fun k=>((((PF.nil.set 1 (.fn fn [])).set 7 (frs l)).set 8 (.int .i64 (l.length:Nat))).set 9 (.int .i64 k))) (fun _=>.nil) (fun k=>k≤l.length∧(l.take k).all p=true) (fun k=>l.length-k) 0 ⟨bgE _,rfl⟩ ?_ PH.nil_le ?_
 ·(repeat' (first|exact PF.nil_le|refine PF.aA ?_ ?_))<;>first|(simp -implicitDefEqProofs only[go_sem,γ,bfT]<;>rfl)|rfl
 rintro k ⟨hk,ha⟩
 simp -implicitDefEqProofs only[go_sem,γ,amL,amO]
 by_cases hlt:k<l.length
 ·have hlt':(k:Int)<(l.length:Nat):=by omega
  have hr:(l.map RF.cells)[k]?=some (l[k]).cells:=by simp[hlt]
  simp -implicitDefEqProofs only[go_sem,δ,γ,hlt',amP,hr]
  refine aP fun o ho=>?_
  simp -implicitDefEqProofs only[go_sem,δ,γ,amQ]
  refine⟨fn,[],rfl,?_⟩
  refine aB (h _ (bgA hlt)) rfl ?_
  cases hp:p l[k] with
  | false =>
   simp -implicitDefEqProofs only[go_sem,γ,amR]
   exact aU (b:=false) rfl (AU (p:=p) hlt hp).symm
  | true =>
   simp -implicitDefEqProofs only[go_sem,γ,amS,aN (show k<9223372036854775807 by omega)]
   refine aJ (k+1) ⟨hlt,bhE.1 (AS hlt ha hp)⟩ (by omega) ?_ PH.nil_le
   (repeat' (first|exact PF.nil_le|refine PF.aA ?_ ?_))<;>first|(simp -implicitDefEqProofs only[go_sem,γ]<;>rfl)|rfl
 ·have hlt':¬ (k:Int)<(l.length:Nat):=by omega
  simp -implicitDefEqProofs only[go_sem,hlt',amT]
  have:k=l.length:=by omega
  subst this
  rw[bgH (bfX _)] at ha
  exact aU rfl ha.symm
theorem aTX {C:Ctx} (p:Int→Bool) (fn:Nat) (l:List Int) (hf:Fits l) (h:∀ x∈l,aI C fn [.int .i64 x] .nil (aL (.bool (p x)))) :
  BI.wp C (aX TZ.res (bY (.bool (l.all p)))) (PF.args [ints l,.fn fn []]) .nil:=by
 simp -implicitDefEqProofs only[go_sem,γ,reduceCtorEq,BI,amV,amW,TZ]
 refine wp_loop (α:=Nat) (fun k=>((((PF.nil.set 1 (.fn fn [])).set 7 (ints l)).set 8 (.int .i64 (l.length:Nat))).set 9 (.int .i64 k))) (fun _=>.nil) (fun k=>k≤l.length∧(l.take k).all p=true) (fun k=>l.length-k) 0 ⟨bgE _,rfl⟩ ?_ PH.nil_le ?_
 ·(repeat' (first|exact PF.nil_le|refine PF.aA ?_ ?_))<;>first|(simp -implicitDefEqProofs only[go_sem,γ,bfT]<;>rfl)|rfl
 rintro k ⟨hk,ha⟩
 simp -implicitDefEqProofs only[go_sem,γ,amU,amX]
 by_cases hlt:k<l.length
 ·have hlt':(k:Int)<(l.length:Nat):=by omega
  have hr:(l.map fun n=>[PV.int .i64 n])[k]?=some [.int .i64 l[k]]:=by simp[hlt]
  simp -implicitDefEqProofs only[go_sem,γ,hlt',amY,hr,amZ]
  refine⟨fn,[],rfl,?_⟩
  refine aB (h _ (bgA hlt)) rfl ?_
  cases hp:p l[k] with
  | false =>
   simp -implicitDefEqProofs only[go_sem,γ,anA]
   exact aU (b:=false) rfl (AU (p:=p) hlt hp).symm
  | true =>
   simp -implicitDefEqProofs only[go_sem,γ,anB,aN (show k<9223372036854775807 by omega)]
   refine aJ (k+1) ⟨hlt,bhE.1 (AS hlt ha hp)⟩ (by omega) ?_ PH.nil_le
   (repeat' (first|exact PF.nil_le|refine PF.aA ?_ ?_))<;>first|(simp -implicitDefEqProofs only[go_sem,γ]<;>rfl)|rfl
 ·have hlt':¬ (k:Int)<(l.length:Nat):=by omega
  simp -implicitDefEqProofs only[go_sem,hlt',anC]
  have:k=l.length:=by omega
  subst this
  rw[bgH (bfX _)] at ha
  exact aU rfl ha.symm
abbrev aIS (l:List Bool):PV:=.sl 1 (l.map fun b=>[PV.bool b])
theorem aTT {C:Ctx} (p:Bool→Bool) (fn:Nat) (l:List Bool) (hf:Fits l) (h:∀ x∈l,aI C fn [.bool x] .nil (aL (.bool (p x)))) :
  BG.wp C (aX TX.res (bY (.bool (l.all p)))) (PF.args [aIS l,.fn fn []]) .nil:=by
 simp -implicitDefEqProofs only[go_sem,γ,reduceCtorEq,BG,amD,amE,TX]
 refine wp_loop (α:=Nat) (fun k=>((((PF.nil.set 1 (.fn fn [])).set 7 (aIS l)).set 8 (.int .i64 (l.length:Nat))).set 9 (.int .i64 k))) (fun _=>.nil) (fun k=>k≤l.length∧(l.take k).all p=true) (fun k=>l.length-k) 0 ⟨bgE _,rfl⟩ ?_ PH.nil_le ?_
 ·(repeat' (first|exact PF.nil_le|refine PF.aA ?_ ?_))<;>first|(simp -implicitDefEqProofs only[go_sem,γ,bfT]<;>rfl)|rfl
 rintro k ⟨hk,ha⟩
 simp -implicitDefEqProofs only[go_sem,γ,amC,amF]
 by_cases hlt:k<l.length
 ·have hlt':(k:Int)<(l.length:Nat):=by omega
  have hr:(l.map fun b=>[PV.bool b])[k]?=some [.bool l[k]]:=by simp[hlt]
  simp -implicitDefEqProofs only[go_sem,γ,hlt',amG,hr,amH]
  refine⟨fn,[],rfl,?_⟩
  refine aB (h _ (bgA hlt)) rfl ?_
  cases hp:p l[k] with
  | false =>
   simp -implicitDefEqProofs only[go_sem,γ,amI]
   exact aU (b:=false) rfl (AU (p:=p) hlt hp).symm
  | true =>
   simp -implicitDefEqProofs only[go_sem,γ,amJ,aN (show k<9223372036854775807 by omega)]
   refine aJ (k+1) ⟨hlt,bhE.1 (AS hlt ha hp)⟩ (by omega) ?_ PH.nil_le
   (repeat' (first|exact PF.nil_le|refine PF.aA ?_ ?_))<;>first|(simp -implicitDefEqProofs only[go_sem,γ]<;>rfl)|rfl
 ·have hlt':¬ (k:Int)<(l.length:Nat):=by omega
  simp -implicitDefEqProofs only[go_sem,hlt',amK]
  have:k=l.length:=by omega
  subst this
  rw[bgH (bfX _)] at ha
  exact aU rfl ha.symm
theorem aNX {C:Ctx} (b:Bool):xC.wp C (aX GY.res (bY (.bool b))) (PF.args [.bool b]) .nil:=by
 simp -implicitDefEqProofs only[go_sem,γ,reduceCtorEq,xC,acE,acF,GY]
 exact aU rfl rfl
theorem aUC {C:Ctx} (hin:∀ n lo hi:Int,aI C 104 [.int .i64 n,.int .i64 lo,.int .i64 hi] .nil (aL (.bool (within n lo hi)))) (n:Int):BM.wp C (aX UD.res (bY (.bool (within n 0 8)))) (PF.args [.int .i64 n]) .nil:=by
 simp -implicitDefEqProofs only[go_sem,reduceCtorEq,BM,anR,anS,UD]
 refine aB (hin n 0 8) rfl ?_
 simp -implicitDefEqProofs only[go_sem,γ]
 exact aU rfl rfl
theorem aOA {C:Ctx} (h1:∀ x:RF,x.Ok→aI C 105 [.agg x.cells] .nil (aL (.bool (fE x)))) (h2:∀ x:RF,x.Ok→aI C 97 [.agg x.cells] .nil (aL (.bool (bS x)))) (x:RF) (hx:x.Ok) :
  xD.wp C (aX HG.res (bY (.bool (fE x&&bS x)))) (PF.args [.agg x.cells]) .nil:=by
 simp -implicitDefEqProofs only[go_sem,δ,γ,xD,acK,acL,HG]
 refine aB (h1 x hx) rfl ?_
 cases hl:fE x with
 | false =>
  simp -implicitDefEqProofs only[go_sem,γ,reduceCtorEq]
  exact aU rfl rfl
 | true =>
  simp -implicitDefEqProofs only[go_sem,δ,γ]
  refine aB (h2 x hx) rfl ?_
  simp -implicitDefEqProofs only[go_sem,γ]
  exact aU rfl rfl
end Go.PM
namespace Go.PM
open Go
section
variable (o s:Nat) (rs:List (List PV))
@[go_sem] theorem bbP (k:IntKind) (n:Int):PV.frz o s rs (.int k n)=.int k n:=rfl
@[go_sem] theorem a7U (b:Bool):PV.frz o s rs (.bool b)=.bool b:=rfl
@[go_sem] theorem bbT (l:List UInt8):PV.frz o s rs (.str l)=.str l:=rfl
@[go_sem] theorem a7V:PV.frz o s rs .nils=.nils:=rfl
@[go_sem] theorem beY (n:Nat) (r:List (List PV)):PV.frz o s rs (.sl n r)=.sl n r:=rfl
@[go_sem] theorem a7W (c:List PV):PV.frz o s rs (.rptr c)=.rptr c:=rfl
@[go_sem] theorem bbS (q z i c:Nat):PV.frz o s rs (.ptr q z i c)=.ptr q z i c:=rfl
@[go_sem] theorem beX (n:Nat) (c:List PV):PV.frz o s rs (.fn n c)=.fn n c:=rfl
@[go_sem] theorem bbQ (q:Nat):PV.frz o s rs (.map q)=.map q:=rfl
@[go_sem] theorem bbR (q z off len:Nat):PV.frz o s rs (.osl q z off len)=if q=o then (if z=s∧off+len≤rs.length then .sl s ((rs.drop off).take len) else .junk) else .osl q z off len:=rfl
end
def kD (s:Nat) (rows:List (List PV)) (r:PV) (H:PH):Prop :=
 (rows=[]∧r=.nils∧H=PH.nil)∨∃ q rs,r=.osl q s 0 rows.length∧H=PH.nil.set q (.rows s rs)∧rows.length≤rs.length∧rs.take rows.length=rows
theorem aCL (q s:Nat) (rs:List (List PV)):(PH.nil.set q (.rows s rs)).frz q s rs=PH.nil:=PH.ext fun o=>by
 rw[MA]
 by_cases e:o=q
 ·rw[if_pos e]; rfl
 ·rw[if_neg e,aV,if_neg e]; rfl
section
variable {C:Ctx} {K:cC} {F:PF} {H:PH} {s:Nat} {v:PV} {rows:List (List PV)}
theorem kD.over {r:PV} {H':PH} (h:kD s rows r H') (ha:kU H .nil H'):bB (H.over .nil H') s r rows∧∀ o x,H o=some x→(H.over .nil H') o=some x:=by
 rcases h with ⟨h1,h2,rfl⟩ | ⟨q,rs,h1,rfl,h3,h4⟩
 ·rw[PH.uW]; exact⟨.inl ⟨h1,h2⟩,fun o x h=>h⟩
 ·rw[PH.kP]
  have hq:H q=none:=ha q (.rows s rs) (by simp only[aV,if_true]) rfl
  refine⟨.inr ⟨q,rs,h1,by simp only[aV,if_true],h3,h4⟩,fun o x ho=>?_⟩
  have:o≠q:=by rintro rfl; rw[hq] at ho; cases ho
  simp only[aV,if_neg this,ho]
theorem DU {t:Nat} {e:kE} (he:e=.normal∨e=.ret) (h:bB H s v rows) (ht:F t=some v):aX [.tmp t] (kD s rows) e F H:=by
 rcases h with ⟨rfl,rfl⟩ | ⟨q,rs,rfl,h1,h2,h3⟩
 ·exact aW (vs:=[.nils]) he .nil (by rw[jK,lL,ht,nB]) PH.nil_le (.inl ⟨rfl,rfl,rfl⟩)
 ·exact aW (vs:=[.osl q s 0 rows.length]) he (PH.nil.set q (.rows s rs)) (by rw[jK,lL,ht,nB]) (PH.aA PH.nil_le h1) (.inr ⟨q,rs,rfl,rfl,h2,h3⟩)
theorem AF {t:Nat} {e:kE} (he:e=.normal∨e=.ret) (ht:F t=some .nils):aX [.tmp t] (kD s []) e F H:=DU he .nil ht
theorem aQM {t:Nat} {e:kE} {r:PV} {H':PH} (he:e=.normal∨e=.ret) (h:kD s rows r H') (ht:F t=some r):aX [.tmp t] (kD s rows) e F (H.over .nil H'):=by
 refine aW (vs:=[r]) he H' (by rw[jK,lL,ht,nB]) (fun o x ho=>?_) h
 rw[lK,ho]
theorem aI.freeze {name:Nat} {args:List PV} (h:aI C name args H (kD s rows)):aI C name args H (aL (.sl s rows)) :=
 ⟨h.1,fun E w vs hN hW hvs=>(h.2 E w vs hN hW hvs).mono fun e w' he=>by
  obtain⟨u,pv,E',H',rfl,hW',hr,hE,hp⟩:=he
  rcases hp with ⟨rfl,rfl,rfl⟩ | ⟨q,rs,rfl,rfl,h3,h4⟩
  ·exact⟨u,_,E',_,rfl,hW',(Co.nil s).sound hr,hE,rfl,rfl⟩
  ·have hz:gO (PF.nil.set 0 (.osl q s 0 rows.length)) (PH.nil.set q (.rows s rs)) _ _:=.step q (s:=s) (rs:=rs) (by simp only[aV,if_true]) (.refl _ _)
   obtain⟨E2,k1,k2,k3⟩:=hz.sound hW'
   have hrep:=k3 (fun _=>u) (fun i p hi=>by
    rw[kS] at hi
    split at hi
    ·cases hi; exact hr
    ·cases hi) 0 (.sl s rows) (by rw[pS,kS,if_pos rfl,bhC,zW h3,h4])
   rw[aCL] at k1 k2
   exact⟨u,_,E2,_,rfl,k1,hrep,hE.trans k2,rfl,rfl⟩⟩
theorem eF.of:∀ {E:Env} (ps:List PV) (vs:List Value),vs.length=ps.length→(∀ (i:Nat) p v,ps[i]?=some p→vs[i]?=some v→aT E p v)→eF E ps vs
 | _,[],[],_,_=>.nil
 | _,[],_::_,h,_=>by simp at h
 | _,_::_,[],h,_=>by simp at h
 | _,p::ps,v::vs,h,k=>.cons (k 0 p v rfl rfl) (eF.of ps vs (by simpa using h) fun i q u a b=>k (i+1) q u (by simpa using a) (by simpa using b))
theorem bL.same {E:Env} {w w':World} (hW:bL E H w) (hs:w.heap.size≤w'.heap.size) (hb:∀ b,b<w.heap.size→H b=none→w'.heap[b]?=w.heap[b]?) (hH:∀ o x,H o=some x→w'.heap[o]?=w.heap[o]?):bL E H w':=by
 have key:∀ b,b<w.heap.size→w'.heap[b]?=w.heap[b]?:=fun b hlt=>by
  cases e:H b with
  | none=>exact hb b hlt e
  | some x=>exact hH b x e
 refine⟨fun b cs h=>?_,fun o x h=>?_,fun o n h=>?_⟩
 ·obtain⟨h1,ty,fr,h2⟩:=hW.g b cs h
  exact⟨h1,ty,fr,(key b (bjC.1 h2).1).trans h2⟩
 ·obtain⟨h1,h2⟩:=hW.h o x h
  exact⟨Nat.lt_of_lt_of_le h1 hs,h2.mono (.refl E) (key o h1)⟩
 ·obtain⟨cur,ty,fr,h1,h2⟩:=hW.s o n h
  exact⟨cur,ty,fr,(key o (bjC.1 h1).1).trans h1,h2⟩
inductive Plain:PV→Prop
 | int (k:IntKind) (n:Int):Plain (.int k n)
 | bool (b:Bool):Plain (.bool b)
 | str (l:List UInt8):Plain (.str l)
theorem Plain.rep {v:PV} (h:Plain v) {E E':Env} {u:Value} (r:aT E v u):aT E' v u:=by
 cases h<;>cases r
 ·exact .int _ _
 ·exact .bool _
 ·exact .str _
theorem aI.bbW {name o:Nat} {rs:List (List PV)} {args:List PV} (hv:Plain v) (h:aI C name (args.map (PV.frz o s rs)) .nil (aL v)) :
  aI C name args (PH.nil.set o (.rows s rs)) (fun r H'=>r=v∧H'=PH.nil.set o (.rows s rs)):=by
 refine⟨h.1,fun E w vs hN hW hvs=>?_⟩
 have hz:gO (PF.args args) (PH.nil.set o (.rows s rs)) _ _:=.step o (s:=s) (rs:=rs) (by simp only[aV,if_true]) (.refl _ _)
 obtain⟨E1,k1,k2,k3⟩:=hz.sound hW
 rw[aCL] at k1 k2
 have hlen:=hvs.len
 have hvs1:eF E1 (args.map (PV.frz o s rs)) vs.toList:=by
  refine eF.of _ _ (by rw[bfT]; exact hlen) fun i p u hp hu=>?_
  have:=k3 (fun i=>(vs.toList[i]?).getD undef) (fun j q hj=>by
   have hjl:=(bhF.1 hj).1
   have hjv:j<vs.toList.length:=by omega
   simp only[bgF hjv,biM]
   exact hvs.at_ j q _ hj (bgF hjv)) i p (by rw[pS,args_at,← bhG]; exact hp)
  simp only[hu,biM] at this
  exact this
 refine (h.2 E1 w vs (k2.env.num.trans hN) k1 hvs1).mono fun e w' he=>?_
 obtain⟨u,pv,E2,H2,rfl,hW2,hr,hE,rfl,rfl⟩:=he
 have hblk:∀ b,b<w.heap.size→w'.heap[b]?=w.heap[b]?:=fun b hb=>hE.block b hb rfl
 refine⟨u,pv,E,_,rfl,hW.same hE.size (fun b hb _=>hblk b hb) (fun q x hq=>hblk q (hW.h q x hq).1),hv.rep hr,⟨.refl E,hE.os,hE.tape,hE.output,hE.size,fun b hb _=>hblk b hb,fun q x hq=>.inl ⟨x,hq⟩,fun b cs hb=>.inl hb⟩,rfl,rfl⟩
theorem aTF {Hs:PH} {S:Spec} {name o:Nat} {rs:List (List PV)} {vs:List PV} {R:PH→PV→PH→Prop} {args:List aM} {st:Bool} {d:Option Nat} {K:PF→PH→Prop} (hS:S name vs=some ([o],R)) (hv:Plain v) (ho:H o=some (.rows s rs))
  (h:aI C name (vs.map (PV.frz o s rs)) .nil (aL v)) (hR1:R (PH.nil.set o (.rows s rs)) v (PH.nil.set o (.rows s rs))) (hR2:∀ r H',R (PH.nil.set o (.rows s rs)) r H'→r=v∧H'=PH.nil.set o (.rows s rs)) (ha:aM.evs F args=some vs) (hle:Hs.le H) (hk:K (F.put d v) H) :
  dOp C Hs S st (.call name args) d K F H:=PI hS ho (h.bbW hv) hR1 hR2 ha hle hk
theorem ajT {name t:Nat} {R:PV→PH→Prop} {d:Option Nat} {K:PF→PH→Prop} (h:aI C name [.sl s rows] .nil R) (hO:bB H s v rows) (ht:F t=some v)
  (hK:∀ (F1:PF) (H1:PH),(∀ i u,F i=some u→Pure u→F1 i=some u)→∀ r H',R r H'→kU H1 .nil H'→K (F1.put d r) (H1.over .nil H')):fZ C name [.tmp t] [] d K F H:=by
 rcases hO with ⟨rfl,rfl⟩ | ⟨q,rs,rfl,h1,h2,h3⟩
 ·exact .inl ⟨[.nils],.nil,R,by rw[uH,TH,ht,LM]; rfl,PH.nil_le,h.aLZ (.inl ⟨rfl,rfl⟩),hK F H fun i u hi _=>hi⟩
 ·refine .inr ⟨_,_,.step q h1 (.refl _ _),[.sl s rows],.nil,R,?_,PH.nil_le,h,hK _ _ fun i u hi hp=>?_⟩
  ·simp only[uH,LM,TH,pS,ht,bhC,zW h2,h3,bhN]
  ·rw[pS,hi,bhC,hp q s rs]
end
end Go.PM
namespace Go.PM
open Go Go.Na
def utF (xs:List Nat) (n:Nat):PF:=((PF.nil.set 0 (aF xs)).set 3 (.int .i64 n))
theorem aXQ {C:Ctx} (xs:List Nat) (hx:Lim xs) (hl:xs.length≤16777216):EZ.wp C (aX YX.res (kD 1 (aE (aG (val xs))))) (PF.args [aF xs]) .nil:=by
 simp -implicitDefEqProofs only[go_sem,γ,reduceCtorEq,EZ,axW,axX,YX,bfT]
 refine wp_loop (α:=Nat) (fun n=>utF xs n) (fun _=>.nil) (fun n=>n≤xs.length∧∀ j x,n≤j→xs[j]?=some x→x=0) (fun n=>n) xs.length ⟨bfX _,fun j x hj hxj=>?_⟩ ?_ PH.nil_le ?_
 ·rw[bhD hj] at hxj; cases hxj
 ·unfold utF
  (repeat' (first|exact PF.nil_le|refine PF.aA ?_ ?_))<;>first|(simp -implicitDefEqProofs only[go_sem,γ,reduceCtorEq]<;>rfl)|rfl
 rintro n ⟨hn,hz⟩
 have done:(0<n→∀ h:n-1<xs.length,xs[n-1]≠0)→∀ F:PF,(utF xs n).le F→aD.wp C (.seq (.region SN) .ret) (aX [.tmp 2] (kD 1 (aE (aG (val xs))))) F .nil:=by
  intro h F hF
  have f0:F 0=some (aF xs):=hF 0 _ (by unfold utF; simp -implicitDefEqProofs only[go_sem,reduceCtorEq])
  have f3:F 3=some (.int .i64 n):=hF 3 _ (by unfold utF; simp -implicitDefEqProofs only[go_sem,reduceCtorEq])
  have ht:xs.take n=aG (val xs):=ED hx hn hz fun x h0 hxj=>by
   rw[bgF (by omega)] at hxj
   injection hxj with hxj
   subst hxj
   exact h h0 (by omega)
  have hc:((n:Nat):Int)≤(xs.length:Nat):=by omega
  simp -implicitDefEqProofs only[go_sem,ν,γ,reduceCtorEq,SN,f0,f3,bfT,hc,or_true,bgV]
  refine fB (rows:=[]) (src:=aE (aG (val xs))) .nil ?_ ?_ fun v H' ho _=>?_
  ·simp -implicitDefEqProofs only[go_sem]
   rw[← ht,← List.map_take]
  ·unfold roomFor
   rw[bQ,← ht,bgJ]
   simp only[bhR,maxLen]
   omega
  ·exact DU (.inr rfl) (by simpa using ho) rfl
 simp only[aD.wp,go_sem] at done
 simp -implicitDefEqProofs only[go_sem,γ,reduceCtorEq,axV,axY,utF]
 by_cases h0:0<n
 ·have h0':((n:Nat):Int)>0:=by omega
  have hlt:n-1<xs.length:=by omega
  have hat:=bJ xs hlt
  have hw:IntKind.i64.wrap ((n:Int)-1)=((n-1:Nat):Int):=sI (by omega) h0
  simp -implicitDefEqProofs only[go_sem,γ,reduceCtorEq,h0',hw,hat]
  by_cases c:xs[n-1]=0
  ·simp -implicitDefEqProofs only[go_sem,γ,reduceCtorEq,bP (show ((xs[n-1]:Nat):Int)=0 by omega),axZ,hw]
   refine aJ (n-1) ⟨by omega,fun j x hj hxj=>?_⟩ (by omega) ?_ PH.nil_le
   ·by_cases e:j=n-1
    ·subst e
     rw[bgF hlt] at hxj
     injection hxj with hxj
     omega
    ·exact hz j x (by omega) hxj
   ·(repeat' (first|exact PF.nil_le|refine PF.aA ?_ ?_))<;>first|(simp -implicitDefEqProofs only[go_sem,γ,reduceCtorEq]<;>rfl)|rfl
  ·simp -implicitDefEqProofs only[go_sem,bD (show ((xs[n-1]:Nat):Int)≠0 by omega)]
   exact done (fun _ _=>c) _ (by unfold utF; (repeat' (first|exact PF.nil_le|refine PF.aA ?_ ?_))<;>first|(simp -implicitDefEqProofs only[go_sem,γ,reduceCtorEq]<;>rfl)|rfl)
 ·have h0':¬ ((n:Nat):Int)>0:=by omega
  simp -implicitDefEqProofs only[go_sem,γ,reduceCtorEq,h0']
  exact done (fun h=>absurd h h0) _ (by unfold utF; (repeat' (first|exact PF.nil_le|refine PF.aA ?_ ?_))<;>first|(simp -implicitDefEqProofs only[go_sem,γ,reduceCtorEq]<;>rfl)|rfl)
structure mP (C:Ctx):Prop where
 trimM:∀ xs,Lim xs→xs.length≤16777216→aI C 38 [aF xs] .nil (kD 1 (aE (aG (val xs))))
theorem mP.trim {C:Ctx} (L:mP C) (xs:List Nat) (hx:Lim xs) (hl:xs.length≤16777216):aI C 38 [aF xs] .nil (aL (aF (aG (val xs)))):=(L.trimM xs hx hl).freeze
theorem aXF {C:Ctx} (L:mP C) (v:Nat) (hv:v<18446744073709551616):EQ.wp C (aX YN.res (bY (aF (aG v)))) (PF.args [.int .u64 v]) .nil:=by
 have e1:IntKind.u32.wrap ((v:Nat):Int)=((v%4294967296:Nat):Int):=bX v
 have hd:v/4294967296<4294967296:=by omega
 have e3:IntKind.u32.wrap ((v/4294967296:Nat):Int)=((v/4294967296:Nat):Int):=by rw[bX,bgW hd]
 have hL:Lim [v%4294967296,v/4294967296]:=by
  intro x hx
  simp only[bgD,List.mem_nil_iff,or_false] at hx
  rcases hx with rfl | rfl
  ·exact bgX _ (by decide)
  ·exact hd
 have hval:val [v%4294967296,v/4294967296]=v:=by simp only[val,Nat.mul_zero,bhY]; exact Nat.mod_add_div v 4294967296
 have hsh:shift .shr .u64 (v:Int) 32=some (.int .u64 ((v/4294967296:Nat):Int)):=tH
 have hb:(2:Nat)*1≤16777216:=by decide
 simp -implicitDefEqProofs only[go_sem,υ,δ,γ,η,ζ,reduceCtorEq,EQ,axN,axO,YN,e1,hsh,e3,hb]
 have ht:=L.trim [v%4294967296,v/4294967296] hL (by simp)
 rw[hval] at ht
 refine aB ht rfl ?_
 simp -implicitDefEqProofs only[go_sem,γ]
 exact aW (.inr rfl) .nil rfl PH.nil_le ⟨.refl _,rfl⟩
theorem aRY {C:Ctx} (L:mP C) (xs:List Nat) (hx:Lim xs) (hl:xs.length≤16777216):zI.wp C (aX KR.res (bY (.bool (decide (nl (val xs)>512))))) (PF.args [aF xs]) .nil:=by
 simp -implicitDefEqProofs only[go_sem,reduceCtorEq,zI,aiM,aiN,KR]
 refine aB (L.trim xs hx hl) rfl ?_
 simp -implicitDefEqProofs only[go_sem,γ,bfT,bH]
 refine aU rfl ?_
 rw[decide_eq_decide]
 omega
end Go.PM
namespace Go.PM
open Go Go.Na
theorem aIW {a b:Nat} (h:nl a<nl b):dD a b=-1:=by
 have:a<b:=by
  rcases bgI a b with h' | h'
  ·exact h'
  ·have:=gK h'; omega
 simp[dD,this]
theorem aIV {a b:Nat} (h:nl b<nl a):dD a b=1:=by
 have:b<a:=by
  rcases bgI b a with h' | h'
  ·exact h'
  ·have:=gK h'; omega
 have h2:¬ a<b:=by omega
 simp[dD,this,h2]
def aMJ (X Y:List Nat) (i:Int):PF:=(((PF.nil.set 0 (aF X)).set 1 (aF Y)).set 5 (.int .i64 i))
theorem a2A {C:Ctx} (L:mP C) (xs ys:List Nat) (hx:Lim xs) (hy:Lim ys) (lx:xs.length≤16777216) (ly:ys.length≤16777216) :
  KM.wp C (aX awX.res (aL (.int .i64 (dD (val xs) (val ys))))) (PF.args [aF xs,aF ys]) .nil:=by
 simp -implicitDefEqProofs only[go_sem,reduceCtorEq,KM,aHE,aHF,awX]
 refine aB (L.trim xs hx lx) (by simp -implicitDefEqProofs only[go_sem,γ]<;>rfl) ?_
 simp -implicitDefEqProofs only[go_sem,γ]
 refine aB (L.trim ys hy ly) (by simp -implicitDefEqProofs only[go_sem,γ]<;>rfl) ?_
 have bx:=eO hx
 have by':=eO hy
 simp -implicitDefEqProofs only[go_sem,γ,reduceCtorEq,aHG,bfT,bH]
 by_cases c0:nl (val xs)≠nl (val ys)
 ·simp -implicitDefEqProofs only[go_sem,γ,reduceCtorEq,dR (show ((nl (val xs):Nat):Int)≠(nl (val ys):Nat) by omega),aHH]
  by_cases c1:nl (val xs)<nl (val ys)
  ·simp -implicitDefEqProofs only[go_sem,ο,bfT,bH,show ((nl (val xs):Nat):Int)<(nl (val ys):Nat) by omega,aHI]
   refine bZ (.inr rfl) (by simp -implicitDefEqProofs only[go_sem,ο,γ,reduceCtorEq]<;>rfl) ?_
   rw[aIW c1]; rfl
  ·simp -implicitDefEqProofs only[go_sem,bfT,bH,show ¬ ((nl (val xs):Nat):Int)<(nl (val ys):Nat) by omega,aHJ]
   refine bZ (.inr rfl) (by simp -implicitDefEqProofs only[go_sem,γ,reduceCtorEq]<;>rfl) ?_
   rw[aIV (by omega)]; rfl
 replace c0:=Decidable.of_not_not c0
 simp -implicitDefEqProofs only[go_sem,γ,reduceCtorEq,cJ (show ((nl (val xs):Nat):Int)=(nl (val ys):Nat) by omega),aHK,bfT,bH]
 have ex:=aY (val xs)
 have ey:=aY (val ys)
 have LX:=bE (val xs)
 have LY:=bE (val ys)
 generalize hX:aG (val xs)=X at *
 generalize hY:aG (val ys)=Y at *
 have hlX:X.length=nl (val xs):=by rw[← hX]; rfl
 have hlY:Y.length=nl (val xs):=by rw[c0,← hY]; rfl
 refine wp_loop (α:=Nat) (fun k=>aMJ X Y ((k:Int)-1)) (fun _=>.nil) (fun k=>k≤nl (val xs)∧X.drop k=Y.drop k) (fun k=>k) (nl (val xs)) ⟨bfX _,?_⟩ ?_ PH.nil_le ?_
 ·rw[bjA (by omega),bjA (by omega)]
 ·unfold aMJ
  (repeat' (first|exact PF.nil_le|refine PF.aA ?_ ?_))<;>first|(simp -implicitDefEqProofs only[go_sem,γ,reduceCtorEq,wrap_i64 (show -9223372036854775808≤((nl (val xs):Nat):Int)-1 by omega) (show ((nl (val xs):Nat):Int)-1≤9223372036854775807 by omega)]<;>rfl)|rfl
 rintro k ⟨hk,hd⟩
 simp -implicitDefEqProofs only[go_sem,γ,reduceCtorEq,awY,aHL,aMJ]
 by_cases h0:0<k
 ·obtain⟨m,rfl⟩:∃ m,k=m+1:=⟨k-1,by omega⟩
  have hz:((m+1:Nat):Int)-1=(m:Int):=by omega
  have hge:(m:Int)≥0:=by omega
  have x1:m<X.length:=by omega
  have y1:m<Y.length:=by omega
  simp -implicitDefEqProofs only[go_sem,hz,hge]
  refine cD .nil dS PH.nil_le ?_
  simp -implicitDefEqProofs only[go_sem,γ,reduceCtorEq,aHM,bJ X x1,bJ Y y1]
  by_cases c3:X[m]<Y[m]
  ·simp -implicitDefEqProofs only[go_sem,ο,show ((X[m]:Nat):Int)<(Y[m]:Nat) by omega,aHN]
   refine bZ (.inr rfl) (by simp -implicitDefEqProofs only[go_sem,ο,γ,reduceCtorEq]<;>rfl) ?_
   have:=TF LX x1 y1 hd c3
   rw[ex,ey] at this
   simp[cN,dD,this]
  ·simp -implicitDefEqProofs only[go_sem,show ¬ ((X[m]:Nat):Int)<(Y[m]:Nat) by omega]
   refine cD .nil dS PH.nil_le ?_
   simp -implicitDefEqProofs only[go_sem,γ,reduceCtorEq,awZ,bJ X x1,bJ Y y1]
   by_cases c4:X[m]>Y[m]
   ·simp -implicitDefEqProofs only[go_sem,show ((X[m]:Nat):Int)>(Y[m]:Nat) by omega,axA]
    refine bZ (.inr rfl) (by simp -implicitDefEqProofs only[go_sem,γ,reduceCtorEq]<;>rfl) ?_
    have:=TF LY y1 x1 hd.symm c4
    rw[ex,ey] at this
    have h2:¬ val xs<val ys:=by omega
    simp[cN,dD,this,h2]
   ·simp -implicitDefEqProofs only[go_sem,γ,reduceCtorEq,show ¬ ((X[m]:Nat):Int)>(Y[m]:Nat) by omega,axB]
    refine aJ m ⟨by omega,abU x1 y1 hd (by omega)⟩ (by omega) ?_ PH.nil_le
    (repeat' (first|exact PF.nil_le|refine PF.aA ?_ ?_))<;>first|(simp -implicitDefEqProofs only[go_sem,γ,reduceCtorEq,wrap_i64 (show -9223372036854775808≤(m:Int)-1 by omega) (show (m:Int)-1≤9223372036854775807 by omega)]<;>rfl)|rfl
 ·have:k=0:=by omega
  subst this
  have hz:¬ ((0:Nat):Int)-1≥0:=by decide
  simp -implicitDefEqProofs only[go_sem,hz,axC]
  refine bZ (.inr rfl) (by simp -implicitDefEqProofs only[go_sem,γ,reduceCtorEq]<;>rfl) ?_
  rw[bgV,bgV] at hd
  have:val xs=val ys:=by rw[← ex,← ey,hd]
  simp[cN,dD,this]
theorem wR (n:Nat):(((n:Nat):Int)==0)=decide (n=0):=by
 by_cases h:n=0
 ·subst h; rfl
 ·rw[bD (by omega),decide_eq_false h]
structure akM (C:Ctx):Prop extends mP C where
 make:∀ v:Nat,v<18446744073709551616→aI C 35 [.int .u64 v] .nil (aL (aF (aG v)))
 large:∀ xs,Lim xs→xs.length≤16777216→aI C 41 [aF xs] .nil (aL (.bool (decide (nl (val xs)>512))))
 cmp:∀ xs ys,Lim xs→Lim ys→xs.length≤16777216→ys.length≤16777216→aI C 32 [aF xs,aF ys] .nil (aL (.int .i64 (dD (val xs) (val ys))))
end Go.PM
namespace Go.PM
open Go Go.Na
def aMN (a b:Nat):PF:=((PF.nil.set 6 (aF (aG a))).set 7 (aF (aG b)))
structure SW (C:Ctx):Prop extends akM C where
 divide:∀ A B:Nat,B≠0→nl A≤512→nl B≤512→aI C 39 [aF (aG A),aF (aG B)] .nil (aL (nG A B))
def aJO (a b:Nat):PV:=if eK a b then .tup [aF [],.int .i64 2] else .tup [aF (aG (bfU a b)),.int .i64 0]
theorem a2E {C:Ctx} (L:SW C) (a b:List Nat) (ha:Lim a) (hb:Lim b) (la:a.length≤16777216) (lb:b.length≤16777216) :
  KQ.wp C (aX axM.res (bY (aJO (val a) (val b)))) (PF.args [aF a,aF b]) .nil:=by
 unfold aJO
 simp -implicitDefEqProofs only[go_sem,reduceCtorEq,KQ,aHV,aHW,axM]
 refine aB (L.large a ha la) rfl ?_
 by_cases c1:nl (val a)>512
 ·simp -implicitDefEqProofs only[go_sem,γ,c1,abO]
  rw[if_pos (by simp[eK,c1])]
  exact gU rfl
 simp -implicitDefEqProofs only[go_sem,γ,c1]
 refine aB (L.large b hb lb) rfl ?_
 by_cases c2:nl (val b)>512
 ·simp -implicitDefEqProofs only[go_sem,γ,reduceCtorEq,c2,abO]
  rw[if_pos (by simp[eK,c2])]
  exact gU rfl
 rw[if_neg (by simp[eK,c1,c2])]
 simp -implicitDefEqProofs only[go_sem,γ,reduceCtorEq,c2,aHX]
 refine aB (L.trim a ha la) rfl ?_
 simp -implicitDefEqProofs only[go_sem,γ]
 refine aB (L.trim b hb lb) rfl ?_
 simp -implicitDefEqProofs only[go_sem,γ]
 refine wp_loop (α:=Nat × Nat) (fun t=>aMN t.1 t.2) (fun _=>.nil) (fun t=>bfU t.1 t.2=bfU (val a) (val b)∧nl t.1≤512∧nl t.2≤512) (fun t=>t.2) (val a,val b) ⟨rfl,by simp only; omega,by simp only; omega⟩ ?_ PH.nil_le ?_
 ·unfold aMN
  (repeat' (first|exact PF.nil_le|refine PF.aA ?_ ?_))<;>first|(simp -implicitDefEqProofs only[go_sem,γ]<;>rfl)|rfl
 rintro⟨x,y⟩ ⟨hg,hx,hy⟩
 simp only at hg hx hy
 simp -implicitDefEqProofs only[go_sem,γ,aHU,aHY,aMN,bH]
 by_cases c3:y=0
 ·subst c3
  have:¬ ((nl 0:Nat):Int)>0:=by rw[uA]; decide
  simp -implicitDefEqProofs only[go_sem,γ,this,aIB]
  refine aW (vs:=[aF (aG x),.int .i64 0]) (.inr rfl) .nil rfl PH.nil_le ⟨?_,rfl⟩
  rw[← hg,Nat.gcd_zero_right]
  exact .refl _
 ·have h0:nl y≠0:=fun h=>c3 (iT.1 h)
  have:((nl y:Nat):Int)>0:=by omega
  simp -implicitDefEqProofs only[go_sem,γ,this,aHZ]
  refine aB (L.divide x y c3 (by omega) (by omega)) rfl ?_
  simp -implicitDefEqProofs only[go_sem,γ,nG,aIA]
  have hlt:x%y<y:=bgX _ (biD c3)
  refine aJ (y,x%y) ⟨?_,hy,?_⟩ hlt ?_ PH.nil_le
  ·simp only
   rw[← hg,Nat.gcd_comm y,← Nat.gcd_rec y x,Nat.gcd_comm]
  ·have:=gK (Nat.le_of_lt hlt)
   simp only; omega
  ·(repeat' (first|exact PF.nil_le|refine PF.aA ?_ ?_))<;>first|(simp -implicitDefEqProofs only[go_sem,γ]<;>rfl)|rfl
theorem a2C {C:Ctx} (L:SW C) (a b:List Nat) (ha:Lim a) (hb:Lim b) (la:a.length≤16777216) (lb:b.length≤16777216) :
  KN.wp C (aX udiv.res (bY (kG (val a) (val b)))) (PF.args [aF a,aF b]) .nil:=by
 unfold kG
 simp -implicitDefEqProofs only[go_sem,reduceCtorEq,KN,aHO,aHP,udiv]
 refine aB (L.large a ha la) rfl ?_
 by_cases c1:nl (val a)>512
 ·simp -implicitDefEqProofs only[go_sem,γ,c1,abN]
  rw[if_pos (by simp[eK,c1])]
  exact oT rfl
 simp -implicitDefEqProofs only[go_sem,γ,c1]
 refine aB (L.large b hb lb) rfl ?_
 by_cases c2:nl (val b)>512
 ·simp -implicitDefEqProofs only[go_sem,γ,reduceCtorEq,c2,abN]
  rw[if_pos (by simp[eK,c2])]
  exact oT rfl
 rw[if_neg (by simp[eK,c1,c2])]
 simp -implicitDefEqProofs only[go_sem,γ,reduceCtorEq,c2,aHQ]
 refine aB (L.trim b hb lb) rfl ?_
 simp -implicitDefEqProofs only[go_sem,γ,bfT,bH,wR,iT]
 by_cases c3:val b=0
 ·rw[if_pos c3]
  simp -implicitDefEqProofs only[go_sem,decide_eq_true c3,aHR]
  exact oT rfl
 rw[if_neg c3]
 simp -implicitDefEqProofs only[go_sem,reduceCtorEq,decide_eq_false c3,aHS]
 refine aB (L.trim a ha la) rfl ?_
 simp -implicitDefEqProofs only[go_sem,γ]
 refine aB (L.trim b hb lb) rfl ?_
 simp -implicitDefEqProofs only[go_sem]
 refine aB (L.divide (val a) (val b) c3 (by omega) (by omega)) rfl ?_
 simp -implicitDefEqProofs only[go_sem,γ,nG,aHT]
 exact aW (.inr rfl) .nil rfl PH.nil_le ⟨.refl _,rfl⟩
def xJ (neg:Bool) (a b:Nat):FV:=(neg&&decide (a/bfU a b≠0),a/bfU a b,b/bfU a b)
structure akN (C:Ctx):Prop extends SW C where
 gcd:∀ a b,Lim a→Lim b→a.length≤16777216→b.length≤16777216→aI C 34 [aF a,aF b] .nil (aL (aJO (val a) (val b)))
 div:∀ a b,Lim a→Lim b→a.length≤16777216→b.length≤16777216→aI C 33 [aF a,aF b] .nil (aL (kG (val a) (val b)))
theorem pY {n:Nat} (h:nl n≤512):(aG n).length≤16777216:=by rw[bH]; omega
theorem adB:aG 1=[1]:=lI (by decide) (by decide)
theorem UG {n:Nat} (h:n≠0):aG n=n%4294967296::aG (n/4294967296):=oR h
theorem uL {n:Nat} (h:n≠0):(nl n>1∨n%4294967296>1)↔n≠1:=by
 constructor
 ·rintro h1 rfl
  rcases h1 with h1 | h1
  ·rw[nl,adB] at h1; simp at h1
  ·omega
 ·intro h1
  by_cases c:nl n>1
  ·exact .inl c
  ·have:n<4294967296 ^ 1:=(gM n 1).1 (by omega)
   rw[Nat.pow_one] at this
   rw[bgW this]
   exact .inr (by omega)
theorem aMW {C:Ctx} (L:akN C) (neg:Bool) (a b:List Nat) (ha:Lim a) (hb:Lim b) (la:a.length≤16777216) (lb:b.length≤16777216) (na:nl (val a)≤512) (nb:nl (val b)≤512) (h0:val b≠0) :
  vI.wp C (aX AP.res (bY (.agg (xJ neg (val a) (val b)).rf.cells))) (PF.args [.bool neg,aF a,aF b]) .nil:=by
 have hg0:bfU (val a) (val b)≠0:=fun h=>h0 (Nat.eq_zero_of_gcd_eq_zero_right h)
 have hgb:bfU (val a) (val b)≤val b:=Nat.gcd_le_right _ (biD h0)
 have ng:nl (bfU (val a) (val b))≤512:=biK (gK hgb) nb
 have hnb:eK (val a) (val b)=false:=iR na nb
 simp -implicitDefEqProofs only[go_sem,δ,vI,YZ,ZA,AP]
 refine aP fun o ho=>?_
 simp -implicitDefEqProofs only[go_sem,γ]
 refine aB (L.trim a ha la) rfl ?_
 simp -implicitDefEqProofs only[go_sem,γ]
 refine aB (L.trim b hb lb) rfl ?_
 simp -implicitDefEqProofs only[go_sem,γ,ZB,bfT,bH,wR,iT]
 by_cases c1:val a=0
 ·simp -implicitDefEqProofs only[go_sem,υ,δ,γ,η,θ,ζ,decide_eq_true c1,ZC]
  have e:(xJ neg (val a) (val b)).rf=⟨false,[],[1]⟩:=by
   rw[c1]
   unfold xJ FV.rf
   simp[eY,Nat.div_self (biD h0),adB]
  rw[e]
  refine aW (vs:=[.agg [.bool false,.nils,aF [1]]]) (.inr rfl) .nil ?_ PH.nil_le ⟨show Co (.agg _) (.agg _) from CoL.agg (CoL.cons (.refl _) (CoL.cons (.nil 1) (CoL.cons (.refl _) .nil))),rfl⟩
  simp -implicitDefEqProofs only[go_sem,δ,γ]
  rfl
 have hgcd:=L.gcd (aG (val a)) (aG (val b)) (bE _) (bE _) (pY na) (pY nb)
 rw[aY,aY,aJO,hnb] at hgcd
 simp -implicitDefEqProofs only[go_sem,γ,decide_eq_false c1,ZD]
 refine aB hgcd rfl ?_
 have fin:∀ x y:Nat,x=val a/bfU (val a) (val b)→y=val b/bfU (val a) (val b)→∀ (F:PF) (H:PH),F 0=some (.bool neg)→F 1=some (aF (aG x))→F 2=some (aF (aG y))→F 6=some (.ptr o 3 0 0)→H o=some (.rows 3 [[.bool false,.nils,.nils]]) →
   aD.wp C (.seq (.region tN) .ret) (aX [.cell 6 (some 3)] (bY (.agg (xJ neg (val a) (val b)).rf.cells))) F H:=by
  intro x y hx hy F H f0 f1 f2 f6 hH
  subst hx; subst hy
  simp -implicitDefEqProofs only[go_sem,δ,γ,θ,tN,f0,f1,f2,f6,hH]
  have hq:val a/bfU (val a) (val b)≠0:=by
   have:=Nat.div_pos (Nat.gcd_le_left (val b) (biD c1)) (biD hg0)
   omega
  have e:(xJ neg (val a) (val b)).rf=⟨neg,aG (val a/bfU (val a) (val b)),aG (val b/bfU (val a) (val b))⟩:=by
   unfold xJ FV.rf
   simp only[hq,ne_eq,not_false_eq_true,decide_true,biN]
  rw[e]
  refine aW (vs:=[.agg (eW neg (aG (val a/bfU (val a) (val b))) (aG (val b/bfU (val a) (val b))))]) (.inr rfl) .nil ?_ PH.nil_le ⟨.refl _,rfl⟩
  simp -implicitDefEqProofs only[go_sem,δ,γ,f6]
 simp only[aD.wp,go_sem] at fin
 have hd:=fun x (hx:nl x≤512)=>L.div (aG x) (aG (bfU (val a) (val b))) (bE _) (bE _) (pY hx) (pY ng)
 simp only[aY,kG] at hd
 have tail:bfU (val a) (val b)≠1→∀ (F:PF) (H:PH),F 0=some (.bool neg)→F 1=some (aF (aG (val a)))→F 2=some (aF (aG (val b)))→F 6=some (.ptr o 3 0 0)→F 7=some (aF (aG (bfU (val a) (val b))))→H o=some (.rows 3 [[.bool false,.nils,.nils]]) →
   aD.wp C (.seq (.seq (.region FB) (.region FC)) (.seq (.region tN) .ret)) (aX [.cell 6 (some 3)] (bY (.agg (xJ neg (val a) (val b)).rf.cells))) F H:=by
  intro _ F H f0 f1 f2 f6 f7 hH
  have d1:=hd (val a) na
  have d2:=hd (val b) nb
  rw[iR na ng,if_neg hg0] at d1
  rw[iR nb ng,if_neg hg0] at d2
  simp -implicitDefEqProofs only[go_sem,γ,FB,f1,f7]
  refine aB d1 rfl ?_
  simp -implicitDefEqProofs only[go_sem,γ,biZ,FC,f2,f7]
  refine aB d2 rfl ?_
  simp -implicitDefEqProofs only[go_sem,γ,biZ]
  exact fin _ _ rfl rfl _ _ (by simp -implicitDefEqProofs only[go_sem,reduceCtorEq,f0]) rfl rfl (by simp -implicitDefEqProofs only[go_sem,γ,f6]) hH
 simp only[aD.wp,go_sem] at tail
 simp -implicitDefEqProofs only[go_sem,γ,biZ,ZE,bfT,bH]
 by_cases c2:nl (bfU (val a) (val b))>1
 ·have c2':((nl (bfU (val a) (val b)):Nat):Int)>1:=by omega
  simp -implicitDefEqProofs only[go_sem,γ,c2']
  exact tail ((uL hg0).1 (.inl c2)) _ _ rfl rfl rfl rfl rfl (by simp -implicitDefEqProofs only[go_sem])
 ·have c2':¬ ((nl (bfU (val a) (val b)):Nat):Int)>1:=by omega
  simp -implicitDefEqProofs only[go_sem,ν,γ,reduceCtorEq,c2',UG hg0]
  by_cases c3:bfU (val a) (val b)%4294967296>1
  ·have c3':((bfU (val a) (val b)%4294967296:Nat):Int)>1:=by omega
   simp -implicitDefEqProofs only[go_sem,c3']
   exact tail ((uL hg0).1 (.inr c3)) _ _ rfl rfl rfl rfl (by simp -implicitDefEqProofs only[go_sem,γ,UG hg0]) (by simp -implicitDefEqProofs only[go_sem])
  ·have c3':¬ ((bfU (val a) (val b)%4294967296:Nat):Int)>1:=by omega
   have h1:bfU (val a) (val b)=1:=by
    rcases Decidable.em (bfU (val a) (val b)=1) with h | h
    ·exact h
    ·rcases (uL hg0).2 h with h | h
     ·exact absurd h c2
     ·exact absurd h c3
   simp -implicitDefEqProofs only[go_sem,c3']
   exact fin (val a) (val b) (by rw[h1,Nat.div_one]) (by rw[h1,Nat.div_one]) _ _ rfl rfl rfl rfl (by simp -implicitDefEqProofs only[go_sem])
end Go.PM
namespace Go.PM
open Go Go.Na
theorem aXW {C:Ctx} (v:Int) (h1:-9223372036854775808≤v) (h2:v≤9223372036854775807) :
  FG.wp C (aX ZF.res (aL (.int .u64 (v.natAbs:Nat)))) (PF.args [.int .i64 v]) .nil:=by
 simp -implicitDefEqProofs only[go_sem,γ,reduceCtorEq,FG,ayI,ayJ,ZF]
 by_cases c:v<0
 ·have e1:IntKind.i64.wrap (v+1)=v+1:=wrap_i64 (by omega) (by omega)
  have e2:IntKind.i64.wrap (0-(v+1))=-(v+1):=by rw[wrap_i64 (by omega) (by omega)]; omega
  have e3:IntKind.u64.wrap (IntKind.u64.wrap (-(v+1))+1)=((v.natAbs:Nat):Int):=by
   rw[eT,eT]; omega
  simp -implicitDefEqProofs only[go_sem,γ,reduceCtorEq,c,ayK,e1,e2,e3]
  refine bZ (.inr rfl) rfl ?_
  rfl
 ·have e:IntKind.u64.wrap v=((v.natAbs:Nat):Int):=by
   rw[eT]; omega
  simp -implicitDefEqProofs only[go_sem,γ,reduceCtorEq,c,ayL,e]
  refine bZ (.inr rfl) rfl ?_
  rfl
structure aIJ (C:Ctx):Prop extends akN C where
 lowest:∀ neg a b,Lim a→Lim b→a.length≤16777216→b.length≤16777216→nl (val a)≤512→nl (val b)≤512→val b≠0→aI C 58 [.bool neg,aF a,aF b] .nil (aL (.agg (xJ neg (val a) (val b)).rf.cells))
 size:∀ v:Int,dT v→aI C 59 [.int .i64 v] .nil (aL (.int .u64 (v.natAbs:Nat)))
def mkT (n d:Int):RF:=(xJ (decide (n<0) != decide (d<0)) n.natAbs d.natAbs).rf
def sG (n d:Int):PV:=if d=0 then vP 3 else .tup [.agg (mkT n d).cells,.int .i64 0]
theorem aXU {C:Ctx} (L:aIJ C) (n d:Int) (h1:dT n) (h2:dT d) :
  FD.wp C (aX MS.res (bY (sG n d))) (PF.args [.int .i64 n,.int .i64 d]) .nil:=by
 simp -implicitDefEqProofs only[go_sem,δ,FD,ayE,ayF]
 refine aP fun o ho=>?_
 unfold sG
 by_cases c:d=0
 ·subst c
  simp -implicitDefEqProofs only[go_sem,ρ,δ,γ,ayG]
  refine kX ?_
  simp -implicitDefEqProofs only[go_sem,δ,γ,MS]
 ·rw[if_neg c]
  simp -implicitDefEqProofs only[go_sem,γ,reduceCtorEq,bD c,ayH]
  refine aB (L.size n h1) rfl ?_
  simp -implicitDefEqProofs only[go_sem]
  refine aB (L.make n.natAbs (by omega)) rfl ?_
  simp -implicitDefEqProofs only[go_sem,γ]
  refine aB (L.size d h2) rfl ?_
  simp -implicitDefEqProofs only[go_sem]
  refine aB (L.make d.natAbs (by omega)) rfl ?_
  simp -implicitDefEqProofs only[go_sem]
  have n1:nl n.natAbs≤2:=mI (by omega)
  have n2:nl d.natAbs≤2:=mI (by omega)
  have low:=L.lowest (decide (n<0) != decide (d<0)) (aG n.natAbs) (aG d.natAbs) (bE _) (bE _) (by rw[bH]; omega) (by rw[bH]; omega)
  rw[aY,aY] at low
  have low:=low (by omega) (by omega) (by omega)
  refine aB low rfl ?_
  simp -implicitDefEqProofs only[go_sem,δ,γ]
  exact aW (.inr rfl) .nil (vs:=[.agg (mkT n d).cells,.int .i64 0]) (by simp -implicitDefEqProofs only[go_sem,δ,γ,MS]; rfl) PH.nil_le ⟨.refl _,rfl⟩
structure akO (C:Ctx):Prop extends aIJ C where
 fmk:∀ n d:Int,dT n→dT d→aI C 50 [.int .i64 n,.int .i64 d] .nil (aL (sG n d))
theorem a2X {C:Ctx} (L:akO C) (n:Int) (h1:dT n) :
  LF.wp C (aX ayB.res (bY (.agg (mkT n 1).cells))) (PF.args [.int .i64 n]) .nil:=by
 simp -implicitDefEqProofs only[go_sem,δ,LF,aIF,aIG,ayB]
 refine aP fun o ho=>?_
 simp -implicitDefEqProofs only[go_sem,reduceCtorEq]
 refine aB (L.fmk n 1 h1 (by unfold dT; omega)) rfl ?_
 unfold sG
 rw[if_neg (by decide)]
 simp -implicitDefEqProofs only[go_sem,δ,γ]
 refine aP fun p hp=>?_
 have hne:o≠p:=by
  rintro rfl
  simp only[aV,if_true] at hp
  cases hp
 have hne':p≠o:=fun h=>hne h.symm
 simp -implicitDefEqProofs only[go_sem,δ,γ,hne,aIH]
 refine aW (vs:=[.agg (mkT n 1).cells]) (.inr rfl) .nil ?_ PH.nil_le ⟨.refl _,rfl⟩
 simp -implicitDefEqProofs only[go_sem,δ,γ,hne']
end Go.PM
namespace Go.PM
open Go Go.Na
structure pD (C:Ctx):Prop extends ajU C where
 inn:∀ n lo hi:Int,aI C 104 [.int .i64 n,.int .i64 lo,.int .i64 hi] .nil (aL (.bool (within n lo hi)))
 lO:∀ x:RF,x.Ok→aI C 97 [.agg x.cells] .nil (aL (.bool (bS x)))
 lim:∀ x:RF,x.Ok→aI C 105 [.agg x.cells] .nil (aL (.bool (fE x)))
 one:∀ x:RF,x.Ok→aI C 101 [.agg x.cells] .nil (aL (.bool (RY x)))
 allf:∀ (p:RF→Bool) (fn:Nat) (l:List RF),Fits l→(∀ x∈l,aI C fn [.agg x.cells] .nil (aL (.bool (p x))))→aI C 99 [frs l,.fn fn []] .nil (aL (.bool (l.all p)))
 alli:∀ (p:Int→Bool) (fn:Nat) (l:List Int),Fits l→(∀ x∈l,aI C fn [.int .i64 x] .nil (aL (.bool (p x))))→aI C 100 [ints l,.fn fn []] .nil (aL (.bool (l.all p)))
 allb:∀ (p:Bool→Bool) (fn:Nat) (l:List Bool),Fits l→(∀ x∈l,aI C fn [.bool x] .nil (aL (.bool (p x))))→aI C 98 [aIS l,.fn fn []] .nil (aL (.bool (l.all p)))
 ends1:∀ b:Bool,aI C 103 [.bool b] .nil (aL (.bool b))
 num1:∀ n:Int,aI C 107 [.int .i64 n] .nil (aL (.bool (within n 0 8)))
 rate1:∀ x:RF,x.Ok→aI C 109 [.agg x.cells] .nil (aL (.bool (fE x&&bS x)))
 name:∀ s:List UInt8,aI C 123 [.str s] .nil (aL (.bool (isName s)))
theorem pD.aUU {C:Ctx} (L:pD C) (l:List RF) (h:qK l):aI C 99 [frs l,.fn 105 []] .nil (aL (.bool (l.all fE))) :=
 L.allf fE 105 l h.fits fun x hx=>L.lim x (h.all x hx)
theorem within_iff {n lo hi:Int}:within n lo hi=true↔lo≤n∧n≤hi:=by simp[within]
theorem aZN {C:Ctx} (L:pD C) (p:cM) (hp:p.Ok) :
  HD.wp C (aX anQ.res (bY (.bool (RW p)))) (PF.args [.int .i64 p.k,.int .i64 p.m,.int .i64 p.quorum,.agg [.int .i64 p.s0,.int .i64 p.s1,.int .i64 p.s2,.int .i64 p.s3,.int .i64 p.s4]]) .nil:=by
 simp -implicitDefEqProofs only[go_sem,reduceCtorEq,HD,aDL,aDM,anQ]
 refine aB (L.inn p.k 1 6) rfl ?_
 unfold RW
 cases h1:within p.k 1 6 with
 | false =>
  simp -implicitDefEqProofs only[go_sem,γ,bgM,tX]
  exact aU rfl (by simp only[bgG])
 | true =>
  obtain⟨k1,k2⟩:=within_iff.1 h1
  simp -implicitDefEqProofs only[go_sem,γ,bgB]
  refine aB (L.inn p.m 0 4) rfl ?_
  cases h2:within p.m 0 4 with
  | false =>
   simp -implicitDefEqProofs only[go_sem,γ,reduceCtorEq,bgM,tX]
   exact aU rfl (by simp only[bgG,bhK])
  | true =>
   obtain⟨m1,m2⟩:=within_iff.1 h2
   have hw:IntKind.i64.wrap (p.k+p.m)=p.k+p.m:=wrap_i64 (by omega) (by omega)
   by_cases h3:p.k+p.m≤8
   ·have h3':¬ p.k+p.m>8:=by omega
    simp -implicitDefEqProofs only[go_sem,γ,reduceCtorEq,bgB,hw,h3']
    refine aB (L.inn p.quorum p.k (p.k+p.m)) rfl ?_
    cases h4:within p.quorum p.k (p.k+p.m) with
    | false =>
     simp -implicitDefEqProofs only[go_sem,γ,reduceCtorEq,bgM,tX]
     exact aU rfl (by simp only[bgG,bhK])
    | true =>
     have h50:(0:Int)<((5:Nat):Int):=by decide
     by_cases h5:p.s0=0
     ·have hch:chunks 1 5 [PV.int .i64 p.s0,.int .i64 p.s1,.int .i64 p.s2,.int .i64 p.s3,.int .i64 p.s4]=([p.s0,p.s1,p.s2,p.s3,p.s4].map fun n=>[PV.int .i64 n]):=rfl
      have hm:5≤maxLen:=by decide
      simp -implicitDefEqProofs only[go_sem,ν,δ,γ,η,θ,ζ,reduceCtorEq,bgB,h50,cJ h5,aDN,hch,hm]
      refine aB (L.alli (fun n=>within n 0 8) 107 [p.s0,p.s1,p.s2,p.s3,p.s4] (show 5≤9223372036854775807 by decide) fun x _=>L.num1 x) rfl ?_
      simp -implicitDefEqProofs only[go_sem,γ]
      exact aU rfl (by rw[decide_eq_true h3,decide_eq_true h5]; simp only[bgR])
     ·simp -implicitDefEqProofs only[go_sem,ν,δ,γ,θ,ζ,reduceCtorEq,bgB,h50,dR h5,tX]
      exact aU rfl (by rw[decide_eq_false h5]; simp only[bgG,bhK])
   ·have h3':p.k+p.m>8:=by omega
    simp -implicitDefEqProofs only[go_sem,γ,reduceCtorEq,bgB,hw,h3',tX]
    exact aU rfl (by rw[decide_eq_false h3]; simp only[bgG,bhK])
theorem max_eq (a b:Int):(if a<b then b else a)=max a b:=by
 rw[Int.max_def]
 by_cases h:a<b
 ·rw[if_pos h,if_pos (by omega)]
 ·by_cases h':a≤b
  ·rw[if_neg h,if_pos h']; omega
  ·rw[if_neg h,if_neg h']
theorem aUE {C:Ctx} (L:pD C) (p:cM) (hp:p.Ok) :
  BN.wp C (aX UE.res (bY (.bool (ML p)))) (PF.args [.int .i64 p.m,frs p.repair,.agg p.target.cells,.agg p.horizon.cells]) .nil:=by
 simp -implicitDefEqProofs only[go_sem,γ,reduceCtorEq,BN,anX,anY,UE,max_eq,bfT]
 unfold ML
 by_cases h1:(p.repair.length:Int)=max p.m 1
 ·simp -implicitDefEqProofs only[go_sem,γ,bP h1]
  refine aB (L.allf (fun x=>fE x&&bS x) 109 p.repair hp.repair.fits fun x hx=>L.rate1 x (hp.repair.all x hx)) rfl ?_
  rw[decide_eq_true h1,bgR]
  cases h2:p.repair.all fun x=>fE x&&bS x with
  | false =>
   simp -implicitDefEqProofs only[go_sem,γ,reduceCtorEq]
   exact aU rfl rfl
  | true =>
   simp -implicitDefEqProofs only[go_sem,δ,γ]
   refine aB (L.lim _ hp.target) rfl ?_
   cases h3:fE p.target with
   | false =>
    simp -implicitDefEqProofs only[go_sem,γ,reduceCtorEq]
    exact aU rfl rfl
   | true =>
    simp -implicitDefEqProofs only[go_sem,δ,γ]
    refine aB (L.one _ hp.target) rfl ?_
    cases h4:RY p.target with
    | false =>
     simp -implicitDefEqProofs only[go_sem,γ,reduceCtorEq]
     exact aU rfl rfl
    | true =>
     simp -implicitDefEqProofs only[go_sem,δ,γ]
     refine aB (L.lim _ hp.horizon) rfl ?_
     simp -implicitDefEqProofs only[go_sem,γ]
     exact aU rfl rfl
 ·simp -implicitDefEqProofs only[go_sem,γ,reduceCtorEq,bD h1]
  exact aU rfl (by rw[decide_eq_false h1]; rfl)
def nC (l:List (List UInt8)) (k:List KS):Option PV:=match k with
 | [.str s]=>if l.contains s then some (.bool true) else none
 | _=>none
theorem aQS (l:List (List UInt8)) (s:List UInt8):(fun k=>if k=[KS.str s] then some (PV.bool true) else nC l k)=nC (l++[s]):=by
 funext k
 match k with
 | []=>rfl
 | [.int a b]=>simp[nC]
 | [.bool a]=>simp[nC]
 | [.str t] =>
  by_cases h:t=s
  ·subst h; simp[nC]
  ·simp[nC,h]
 | a::b::c=>simp[nC]
end Go.PM
namespace Go.PM
open Go Go.Na
abbrev texts (l:List (List UInt8)):PV:=.sl 1 (l.map fun s=>[PV.str s])
theorem aQR:nC []=(fun _=>none:jO):=by
 funext k
 match k with
 | []=>rfl
 | [.int a b]=>rfl
 | [.bool a]=>rfl
 | [.str t]=>rfl
 | a::b::c=>cases a<;>rfl
theorem aQT (l:List (List UInt8)) (s:List UInt8):jO.upd (nC l) [KS.str s] (.bool true)=nC (l++[s]):=aQS l s
theorem auP (l:List (List UInt8)) (s:List UInt8):(nC l [KS.str s]).getD (.bool false)=.bool (l.contains s):=by
 show (if l.contains s then some (PV.bool true) else none).getD (.bool false)=_
 cases l.contains s<;>rfl
theorem abG {p:Nat→Bool} {k:Nat} (h:(bgN k).all p=true) (hp:p k=true):(bgN (k+1)).all p=true:=by
 rw[List.range_succ,List.all_append,h]; simp[hp]
theorem dN {p:Nat→Bool} {n k:Nat} (hk:k<n) (hp:p k=false):(bgN n).all p=false:=by
 rw[List.all_eq_false]
 exact⟨k,bhW.2 hk,by simp[hp]⟩
def mO (p:Nat→Bool) (k:Nat):Prop:=(bgN k).all p=true
theorem mO.zero {p:Nat→Bool}:mO p 0:=rfl
theorem mO.step {p:Nat→Bool} {k:Nat} (h:mO p k) (hp:p k=true):mO p (k+1):=abG h hp
def aMO (l:List (List UInt8)) (o k:Nat):PF:=((((PF.nil.set 3 (.map o)).set 7 (texts l)).set 8 (.int .i64 (l.length:Nat))).set 9 (.int .i64 k))
theorem aUH {C:Ctx} (L:pD C) (l:List (List UInt8)) (hf:Fits l):BP.wp C (aX UF.res (bY (.bool (distinct l)))) (PF.args [texts l]) .nil:=by
 simp -implicitDefEqProofs only[go_sem,BP,aoE,aoF,UF]
 refine aP fun o ho=>?_
 simp -implicitDefEqProofs only[go_sem,γ,reduceCtorEq,aoG]
 have e0:(PH.nil.set o (.map (false,[.str]) (fun _=>none)))=PH.nil.set o (.map (false,[.str]) (nC (l.take 0))):=by rw[List.take_zero,aQR]
 unfold distinct
 generalize hp:(fun i=>isName (l.getD i [])&&!(l.take i).contains (l.getD i []))=p
 have hpk:∀ k (h:k<l.length),p k=(isName l[k]&&!(l.take k).contains l[k]):=by
  intro k h
  rw[← hp]
  simp only[bgT,bgF h,biM]
 refine wp_loop (α:=Nat) (fun k=>aMO l o k) (fun k=>PH.nil.set o (.map (false,[.str]) (nC (l.take k)))) (fun k=>k≤l.length∧mO p k) (fun k=>l.length-k) 0 ⟨bgE _,.zero⟩ ?_ ?_ ?_
 ·unfold aMO
  (repeat' (first|exact PF.nil_le|refine PF.aA ?_ ?_))<;>first|(simp -implicitDefEqProofs only[go_sem,γ,bfT]<;>rfl)|rfl
 ·rw[e0]; exact PH.le_refl
 rintro k ⟨hk,ha⟩
 simp -implicitDefEqProofs only[go_sem,γ,aoD,aoH,aMO]
 by_cases hlt:k<l.length
 ·have hlt':(k:Int)<(l.length:Nat):=by omega
  have hr:(l.map fun s=>[PV.str s])[k]?=some [.str l[k]]:=by simp[hlt]
  simp -implicitDefEqProofs only[go_sem,γ,hlt',aoI,hr,aoJ]
  refine aB (L.name l[k]) rfl ?_
  have hk2:=hpk k hlt
  cases h1:isName l[k] with
  | false =>
   rw[h1,bgG] at hk2
   simp -implicitDefEqProofs only[go_sem,γ,bgM,QA]
   exact aU (b:=false) rfl (dN hlt hk2).symm
  | true =>
   rw[h1,bgR] at hk2
   cases h2:(l.take k).contains l[k] with
   | true =>
    rw[h2] at hk2
    simp -implicitDefEqProofs only[go_sem,γ,reduceCtorEq,bgB,auP,h2,QA]
    exact aU (b:=false) rfl (dN hlt hk2).symm
   | false =>
    rw[h2] at hk2
    simp -implicitDefEqProofs only[go_sem,γ,reduceCtorEq,bgB,auP,h2,aoK,aQT,aoL,aN (show k<9223372036854775807 by omega)]
    refine aJ (k+1) ⟨hlt,ha.step hk2⟩ (by omega) ?_ ?_
    ·(repeat' (first|exact PF.nil_le|refine PF.aA ?_ ?_))<;>first|(simp -implicitDefEqProofs only[go_sem,γ]<;>rfl)|rfl
    ·rw[biG hlt]
     exact PH.aA PH.nil_le (by simp -implicitDefEqProofs only[go_sem])
 ·have hlt':¬ (k:Int)<(l.length:Nat):=by omega
  simp -implicitDefEqProofs only[go_sem,hlt',acM]
  have:k=l.length:=by omega
  subst this
  exact aU (b:=true) rfl (show mO p l.length from ha).symm
def marks (n:Nat) (l:List Int):List Bool:=(bgN n).map fun (i:Nat)=>l.contains (i:Int)
theorem aOT (n:Nat) (l:List Int):(marks n l).length=n:=by simp[marks]
theorem adU (n:Nat):marks n []=bfV n false:=by
 refine biO (by simp[marks]) fun i h1 h2=>by simp[marks]
theorem QP {n:Nat} {l:List Int} {m:Int} (h0:0≤m) (h1:m<n):(marks n l)[m.toNat]?=some (l.contains m):=by
 have:m.toNat<n:=by omega
 simp only[marks,bhG,List.getElem?_range this,bhC]
 rw[Int.toNat_of_nonneg h0]
theorem adV {n:Nat} {l:List Int} {m:Int} (h0:0≤m) (h1:m<n):(marks n l).set m.toNat true=marks n (l++[m]):=by
 refine biO (by simp[marks]) fun i h2 h3=>?_
 simp only[marks,bhL,List.getElem_range,List.getElem_set,List.contains_append]
 by_cases h:m.toNat=i
 ·subst h
  rw[if_pos rfl,Int.toNat_of_nonneg h0]; simp
 ·have hne:((i:Nat):Int)≠m:=by omega
  rw[if_neg h]; simp[hne]
abbrev eU (l:List Bool):List (List PV):=l.map fun b=>[PV.bool b]
theorem rQ (l:List Bool) (i:Nat) (b:Bool):(eU l).set i [.bool b]=eU (l.set i b):=by unfold eU; rw[List.map_set]
structure akG (C:Ctx):Prop extends pD C where
 num:∀ p:cM,p.Ok→aI C 106 [.int .i64 p.k,.int .i64 p.m,.int .i64 p.quorum,.agg [.int .i64 p.s0,.int .i64 p.s1,.int .i64 p.s2,.int .i64 p.s3,.int .i64 p.s4]] .nil (aL (.bool (RW p)))
 rate:∀ p:cM,p.Ok→aI C 108 [.int .i64 p.m,frs p.repair,.agg p.target.cells,.agg p.horizon.cells] .nil (aL (.bool (ML p)))
 uniq:∀ l:List (List UInt8),Fits l→aI C 110 [texts l] .nil (aL (.bool (distinct l)))
def aVZ (p:cM) (models:Nat) (o k:Nat):PF:=(((((PF.nil.set 1 (.int .i64 models)).set 5 (.osl o 1 0 models)).set 39 (ints p.models)).set 40 (.int .i64 (p.models.length:Nat))).set 41 (.int .i64 k))
theorem aZR {C:Ctx} (L:akG C) (p:cM) (hp:p.Ok) (models:Nat) (hm:models≤4):HF.wp C (aX anT.res (bY (.bool (hJ models p)))) (PF.args [.agg p.cells,.int .i64 models]) .nil:=by
 simp -implicitDefEqProofs only[go_sem,δ,γ,θ,HF,aDR,aDS,anT]
 refine aB (L.num p hp) rfl ?_
 unfold hJ
 cases h1:RW p with
 | false =>
  simp -implicitDefEqProofs only[go_sem,γ,bgM,LZ]
  exact aU rfl (by simp only[bgG])
 | true =>
  by_cases h2:p.models.length=0
  ·simp -implicitDefEqProofs only[go_sem,δ,γ,θ,reduceCtorEq,bgB,bfT,bP (show ((p.models.length:Nat):Int)=0 by omega),LZ]
   refine aU rfl ?_
   have:decide (p.models.length≠0)=false:=by simp[h2]
   rw[this]; simp only[bgG,bhK]
  ·have h2':decide (p.models.length≠0)=true:=by simp[h2]
   simp -implicitDefEqProofs only[go_sem,δ,γ,θ,reduceCtorEq,bgB,bfT,bD (show ((p.models.length:Nat):Int)≠0 by omega)]
   refine aB (L.rate p hp) rfl ?_
   rw[h2']
   cases h3:ML p with
   | false =>
    simp -implicitDefEqProofs only[go_sem,γ,reduceCtorEq,bgM,LZ]
    exact aU rfl (by simp only[bgG,bhK])
   | true =>
    have hb1:((models:Nat):Int)*((1:Nat):Int)≤140737488355328:=by omega
    have hb2:((models:Nat):Int)≤9223372036854775807:=by omega
    simp only[bgR]
    simp -implicitDefEqProofs only[go_sem,γ,reduceCtorEq,bgB,aDT,hb1,hb2]
    refine aP fun o ho=>?_
    simp -implicitDefEqProofs only[go_sem,δ,γ,θ,aDU]
    have e0:bfV models [PV.bool false]=eU (marks models (p.models.take 0)):=by
     rw[List.take_zero,adU]; simp[eU]
    rw[e0]
    generalize hq:(fun j=>within (p.models.getD j 0) 0 ((models:Int)-1)&&!(p.models.take j).contains (p.models.getD j 0))=q
    have hqk:∀ k (h:k<p.models.length),q k=(within p.models[k] 0 ((models:Int)-1)&&!(p.models.take k).contains p.models[k]):=by
     intro k h
     rw[← hq]
     simp only[bgT,bgF h,biM]
    refine wp_loop (α:=Nat) (fun k=>aVZ p models o k) (fun k=>PH.nil.set o (.rows 1 (eU (marks models (p.models.take k))))) (fun k=>k≤p.models.length∧mO q k) (fun k=>p.models.length-k) 0 ⟨bgE _,.zero⟩ ?_ (PH.le_refl) ?_
    ·unfold aVZ
     (repeat' (first|exact PF.nil_le|refine PF.aA ?_ ?_))<;>first|(simp -implicitDefEqProofs only[go_sem,γ,bfT]<;>rfl)|rfl
    rintro k ⟨hk,ha⟩
    simp -implicitDefEqProofs only[go_sem,γ,anU,aDV,aVZ]
    have hfit:=hp.models
    by_cases hlt:k<p.models.length
    ·have hlt':(k:Int)<(p.models.length:Nat):=by omega
     have hr:(p.models.map fun n=>[PV.int .i64 n])[k]?=some [.int .i64 p.models[k]]:=by simp[hlt]
     have hw:IntKind.i64.wrap ((models:Int)-1)=(models:Int)-1:=wrap_i64 (by omega) (by omega)
     simp -implicitDefEqProofs only[go_sem,γ,hlt',aDW,hr,aDX,hw]
     refine aB (L.inn p.models[k] 0 ((models:Int)-1)) rfl ?_
     have hk2:=hqk k hlt
     cases h1:within p.models[k] 0 ((models:Int)-1) with
     | false =>
      rw[h1,bgG] at hk2
      simp -implicitDefEqProofs only[go_sem,γ,bgM,ZW]
      exact aU (b:=false) rfl (dN hlt hk2).symm
     | true =>
      rw[h1,bgR] at hk2
      obtain⟨i1,i2⟩:=within_iff.1 h1
      have i3:p.models[k]<(models:Nat):=by omega
      have hmk:(eU (marks models (p.models.take k)))[p.models[k].toNat]?=some [.bool ((p.models.take k).contains p.models[k])]:=by
       unfold eU
       rw[bhG,QP i1 i3]; rfl
      cases h2:(p.models.take k).contains p.models[k] with
      | true =>
       rw[h2] at hk2 hmk
       simp -implicitDefEqProofs only[go_sem,γ,reduceCtorEq,bgB,i1,i3,bgQ,hmk,ZW]
       exact aU (b:=false) rfl (dN hlt hk2).symm
      | false =>
       rw[h2] at hk2 hmk
       simp -implicitDefEqProofs only[go_sem,γ,reduceCtorEq,bgB,i1,i3,bgQ,hmk,aDY,rQ,adV i1 i3,anV,aN (show k<9223372036854775807 by omega)]
       refine aJ (k+1) ⟨hlt,ha.step hk2⟩ (by omega) ?_ ?_
       ·(repeat' (first|exact PF.nil_le|refine PF.aA ?_ ?_))<;>first|(simp -implicitDefEqProofs only[go_sem,γ]<;>rfl)|rfl
       ·rw[biG hlt]
        exact PH.aA PH.nil_le (by simp -implicitDefEqProofs only[go_sem])
    ·have hlt':¬ (k:Int)<(p.models.length:Nat):=by omega
     simp -implicitDefEqProofs only[go_sem,hlt',anW]
     have:k=p.models.length:=by omega
     subst this
     exact aU (b:=true) rfl (show mO q p.models.length from ha).symm
end Go.PM
namespace Go.PM
open Go Go.Na
def aTH:PV→RF
 | .agg [.bool n,a,b]=>⟨n,jD a,jD b⟩
 | _=>⟨false,[],[]⟩
theorem aIZ (x:RF):aTH (.agg x.cells)=x:=by
 show (⟨x.neg,jD (aF x.num),jD (aF x.den)⟩:RF)=x
 rw[eH,eH]
def flS:Spec:=fun name vs=>match name,vs with
 | 104,[.int _ n,.int _ lo,.int _ hi]=>some ([],fun _=>aL (.bool (within n lo hi)))
 | 105,[x]=>some ([],fun _=>aL (.bool (fE (aTH x))))
 | 97,[x]=>some ([],fun _=>aL (.bool (bS (aTH x))))
 | _,_=>none
theorem alS (n lo hi:Int):flS 104 [.int .i64 n,.int .i64 lo,.int .i64 hi]=some ([],fun _=>aL (.bool (within n lo hi))):=rfl
theorem aZB (x:RF):flS 105 [.agg x.cells]=some ([],fun _=>aL (.bool (fE x))):=by
 show some _=_; rw[aIZ]
def aJP (f:aH) (t:List cK) (k:Nat):PF:=((((PF.nil.set 1 (.rptr f.cells)).set 45 (.sl 7 (t.map cK.cells))).set 46 (.int .i64 (t.length:Nat))).set 47 (.int .i64 k))
theorem aZH {C:Ctx} (L:pD C) (f:aH) (hf:f.Ok):vS.wp C (aX ZS.res (bY (.bool (lP f)))) (PF.args [.agg f.cells]) .nil:=by
 obtain⟨extent,laws,models,domains,drives,policies,volumes⟩:=f
 cases domains with
 | nil =>
  rw[show lP ⟨extent,laws,models,[],drives,policies,volumes⟩=false from rfl]
  simp -implicitDefEqProofs only[go_sem,δ,γ,θ,vS,ZT,ZU,ZS,bhV,bhR]
  have:(((0:Nat):Int)==0)=true:=rfl
  simp -implicitDefEqProofs only[go_sem,this,aCV]
  exact aU rfl rfl
 | cons r t =>
  generalize hF:(⟨extent,laws,models,r::t,drives,policies,volumes⟩:aH)=f at *
  have hd:f.domains=r::t:=by rw[← hF]
  have hP:lP f=LK f r t:=by unfold lP; rw[hd]
  rw[hP]
  unfold LK
  have hlen:f.domains.length=t.length+1:=by rw[hd]; rfl
  have hfit:=hf.domains
  have hr0:(f.domains.map cK.cells)[0]?=some r.cells:=by rw[hd]; rfl
  have hr0':(f.domains.map cK.cells)[Int.toNat 0]?=some r.cells:=hr0
  have hok:=hf.dom
  have hrok:=hok r (by rw[hd]; exact List.mem_cons_self ..)
  simp -implicitDefEqProofs only[go_sem,ο,ν,δ,γ,θ,vS,ZT,ZU,ZS,bfT,hlen,bD (show ((t.length+1:Nat):Int)≠0 by omega),aCW,hr0]
  refine aP fun o ho=>?_
  by_cases c1:r.name=[]
  ·rw[decide_eq_true c1]
   by_cases c2:r.level=0
   ·rw[decide_eq_true c2]
    by_cases c3:r.parent=-1
    ·rw[decide_eq_true c3]
     by_cases c4:r.uplink=0
     ·rw[decide_eq_true c4]
      simp -implicitDefEqProofs only[go_sem,ο,δ,γ,θ,reduceCtorEq,tV,mQ c1,bgB,cJ c2,cJ c3,cJ c4]
      refine aB (L.lim r.shock hrok.1) rfl ?_
      cases c5:fE r.shock with
      | false =>
       simp -implicitDefEqProofs only[go_sem,γ,reduceCtorEq,bgM,qO]
       exact aU rfl (by simp only[bhK,bgG])
      | true =>
       simp -implicitDefEqProofs only[go_sem,δ,γ,reduceCtorEq,bgB]
       refine aB (L.lO r.shock hrok.1) rfl ?_
       cases c6:bS r.shock with
       | true =>
        simp -implicitDefEqProofs only[go_sem,γ,reduceCtorEq,qO]
        exact aU rfl (by simp only[bgB,bhK,bgG])
       | false =>
        have hsl:(0:Int)≤1∧(1:Int)≤((t.length+1:Nat):Int):=by omega
        have hdrop:((f.domains.map cK.cells).take (t.length+1)).drop (Int.toNat 1)=t.map cK.cells:=by
         rw[bgH (by simp[hlen]),hd]; rfl
        have hdrop':((f.domains.map cK.cells).take (t.length+1)).drop 1=t.map cK.cells:=hdrop
        simp -implicitDefEqProofs only[go_sem,ν,δ,γ,θ,reduceCtorEq,aCX,bfT,hlen,hsl,hdrop',Int.toNat_natCast]
        generalize hq:(fun i=>match t[i]? with | some d=>PK f i d | none=>false)=q
        have hqk:∀ k (h:k<t.length),q k=PK f k t[k]:=by
         intro k h
         rw[← hq]
         simp only[bgF h]
        refine wp_loop (α:=Nat) (fun k=>aJP f t k) (fun k=>.nil) (fun k=>k≤t.length∧mO q k) (fun k=>t.length-k) 0 ⟨bgE _,.zero⟩ ?_ PH.nil_le ?_
        ·unfold aJP
         (repeat' (first|exact PF.nil_le|refine PF.aA ?_ ?_))<;>first|(simp -implicitDefEqProofs only[go_sem,γ,bfT]<;>rfl)|rfl
        rintro k ⟨hk,ha⟩
        simp -implicitDefEqProofs only[go_sem,γ,anD,aCY,aJP]
        by_cases hlt:k<t.length
        ·have hlt':(k:Int)<(t.length:Nat):=by omega
         have hrk:(t.map cK.cells)[k]?=some (t[k]).cells:=by simp[hlt]
         have hdk:=hok t[k] (by rw[hd]; exact List.mem_cons_of_mem _ (bgA hlt))
         have hk2:=hqk k hlt
         unfold PK at hk2
         simp -implicitDefEqProofs only[go_sem,δ,γ,hlt',aCZ,hrk]
         refine aP fun o2 ho2=>?_
         simp -implicitDefEqProofs only[go_sem,δ,γ]
         refine cD .nil flS PH.nil_le ?_
         simp -implicitDefEqProofs only[go_sem,δ,γ,θ,reduceCtorEq,aDA]
         refine cU (alS _ 0 k) (L.inn (t[k]).parent 0 k) rfl PH.nil_le ?_
         cases e1:within (t[k]).parent 0 k with
         | false =>
          simp only[e1,bgG] at hk2
          simp -implicitDefEqProofs only[go_sem,γ,bgM,qN]
          exact aU (b:=false) rfl (dN hlt hk2).symm
         | true =>
          obtain⟨i1,i2⟩:=within_iff.1 e1
          have i3:(t[k]).parent.toNat<f.domains.length:=by omega
          have hpr:(f.domains.map cK.cells)[(t[k]).parent.toNat]?=some (f.domains[(t[k]).parent.toNat]).cells:=by simp[i3]
          have hlv:(f.domains.map cK.level).getD (t[k]).parent.toNat 0=(f.domains[(t[k]).parent.toNat]).level:=by simp[i3]
          rw[hlv,e1,bgR] at hk2
          by_cases e2:(f.domains[(t[k]).parent.toNat]).level=IntKind.i64.wrap ((t[k]).level-1)
          ·rw[decide_eq_true e2,bgR] at hk2
           simp -implicitDefEqProofs only[go_sem,δ,γ,θ,reduceCtorEq,bgB,i1,hpr,cJ e2]
           refine cU (alS _ 1 4) (L.inn (t[k]).level 1 4) rfl PH.nil_le ?_
           cases e3:within (t[k]).level 1 4 with
           | false =>
            simp only[e3,bgG] at hk2
            simp -implicitDefEqProofs only[go_sem,γ,reduceCtorEq,bgM,qN]
            exact aU (b:=false) rfl (dN hlt hk2).symm
           | true =>
            rw[e3,bgR] at hk2
            simp -implicitDefEqProofs only[go_sem,δ,γ,θ,reduceCtorEq,bgB]
            refine cU (alS _ 1 64) (L.inn (t[k]).uplink 1 64) rfl PH.nil_le ?_
            cases e4:within (t[k]).uplink 1 64 with
            | false =>
             simp only[e4,bgG] at hk2
             simp -implicitDefEqProofs only[go_sem,γ,reduceCtorEq,bgM,qN]
             exact aU (b:=false) rfl (dN hlt hk2).symm
            | true =>
             rw[e4,bgR] at hk2
             simp -implicitDefEqProofs only[go_sem,δ,γ,reduceCtorEq,bgB]
             refine cU (aZB (t[k]).shock) (L.lim _ hdk.1) rfl PH.nil_le ?_
             cases e5:fE (t[k]).shock with
             | false =>
              rw[e5] at hk2
              simp -implicitDefEqProofs only[go_sem,γ,reduceCtorEq,bgM,qN]
              exact aU (b:=false) rfl (dN hlt hk2).symm
             | true =>
              rw[e5] at hk2
              simp -implicitDefEqProofs only[go_sem,γ,reduceCtorEq,bgB,anE,aN (show k<9223372036854775807 by omega)]
              refine aJ (k+1) ⟨hlt,ha.step hk2⟩ (by omega) ?_ PH.nil_le
              (repeat' (first|exact PF.nil_le|refine PF.aA ?_ ?_))<;>first|(simp -implicitDefEqProofs only[go_sem,γ]<;>rfl)|rfl
          ·simp only[decide_eq_false e2,bgG] at hk2
           simp -implicitDefEqProofs only[go_sem,δ,γ,θ,reduceCtorEq,bgB,i1,hpr,dR e2,qN]
           exact aU (b:=false) rfl (dN hlt hk2).symm
        ·have hlt':¬ (k:Int)<(t.length:Nat):=by omega
         simp -implicitDefEqProofs only[go_sem,hlt',anF]
         have:k=t.length:=by omega
         subst this
         exact aU (b:=true) rfl (show mO q t.length from ha).symm
     ·simp -implicitDefEqProofs only[go_sem,ο,δ,γ,θ,reduceCtorEq,tV,mQ c1,bgB,cJ c2,cJ c3,dR c4,qO]
      exact aU rfl (by rw[decide_eq_false c4]; simp only[bhK,bgG])
    ·simp -implicitDefEqProofs only[go_sem,ο,δ,γ,θ,reduceCtorEq,tV,mQ c1,bgB,cJ c2,dR c3,qO]
     exact aU rfl (by rw[decide_eq_false c3]; simp only[bhK,bgG])
   ·simp -implicitDefEqProofs only[go_sem,ο,δ,γ,θ,reduceCtorEq,tV,mQ c1,bgB,dR c2,qO]
    exact aU rfl (by rw[decide_eq_false c2]; simp only[bhK,bgG])
  ·simp -implicitDefEqProofs only[go_sem,ο,δ,γ,θ,tV,TA c1,bgM,qO]
   exact aU rfl (by rw[decide_eq_false c1]; simp only[bhK,bgG])
end Go.PM
namespace Go.PM
open Go Go.Na
theorem uY (R:List Bool) (i:Nat) (row:List RF):∀ k,(cW R i row k).length=R.length
 | 0=>rfl
 | k+1=>by simp only[cW,bhO,uY R i row k]
theorem auH (l:cL) (R:List Bool) (i:Nat):(jJ l R i).length=R.length:=by
 unfold jJ; rw[uY,bhO]
theorem qV (l:cL) (R:List Bool):∀ i,(eA l R i).length=R.length
 | 0=>rfl
 | i+1=>by simp only[eA,auH,qV l R i]
theorem WW (l:cL):∀ r,(fM l r).length=l.exit.length
 | 0=>by simp[fM]
 | r+1=>by simp only[fM,qV,WW l r]
theorem PE {R:List Bool} {i:Nat} (h:i<R.length):(eU R)[i]?=some [.bool (R.getD i false)]:=by
 unfold eU
 rw[bhG,bgF h,bgT,bgF h]; rfl
theorem abS (R:List Bool):(eU R).length=R.length:=by simp[eU]
def LL (l:cL) (o r:Nat):PF:=(((PF.nil.set 1 (.rptr l.cells)).set 3 (.osl o 1 0 l.exit.length)).set 4 (.int .i64 r))
def AY (l:cL) (o r i:Nat):PF:=(((((PF.nil.set 1 (.rptr l.cells)).set 3 (.osl o 1 0 l.exit.length)).set 4 (.int .i64 r)).set 19 (.int .i64 (l.exit.length:Nat))).set 20 (.int .i64 i))
def pO (l:cL) (o r i:Nat) (row:List RF) (k:Nat):PF:=(((((((((PF.nil.set 1 (.rptr l.cells)).set 3 (.osl o 1 0 l.exit.length)).set 4 (.int .i64 r)).set 19 (.int .i64 (l.exit.length:Nat))).set 20 (.int .i64 i)).set 5 (.int .i64 i)).set 42 (frs row)).set 43 (.int .i64 (row.length:Nat))).set 44 (.int .i64 k))
def pP (o:Nat) (R:List Bool):PH:=PH.nil.set o (.rows 1 (eU R))
theorem ayW {C:Ctx} (L:pD C) (l:cL) (o r i:Nat) (row:List RF) (hrow:qK row) (hrl:row.length=l.exit.length) (hi:i<l.exit.length) (hn:l.exit.length≤4) (R1:List Bool) (hR:R1.length=l.exit.length) (K:cC) (F:PF) (H:PH)
  (hF:(pO l o r i row 0).le F) (hH:(pP o R1).le H)
  (hK:∀ F H,(pO l o r i row row.length).le F→(pP o (cW R1 i row row.length)).le H→K .normal F H) :
  aD.wp C (.block 4 (.loop vT)) K F H:=by
 simp -implicitDefEqProofs only[go_sem]
 refine wp_loop (α:=Nat) (fun k=>pO l o r i row k) (fun k=>pP o (cW R1 i row k)) (fun k=>k≤row.length) (fun k=>row.length-k) 0 (bgE _) hF hH ?_
 intro k hk
 simp -implicitDefEqProofs only[go_sem,γ,vT,anM,pO,pP]
 have hlen:=uY R1 i row k
 by_cases hlt:k<row.length
 ·have hlt':(k:Int)<(row.length:Nat):=by omega
  have hr:(row.map RF.cells)[k]?=some (row[k]).cells:=by simp[hlt]
  simp -implicitDefEqProofs only[go_sem,δ,γ,hlt',acH,hr]
  refine aP fun o7 ho7=>?_
  have n7:o≠o7:=by rintro rfl; simp only[aV,if_true] at ho7; cases ho7
  have hi':(i:Int)<(l.exit.length:Nat):=by omega
  have hk':(k:Int)<(l.exit.length:Nat):=by omega
  have hat:=PE (R:=cW R1 i row k) (i:=i) (by omega)
  have hatk:=PE (R:=cW R1 i row k) (i:=k) (by omega)
  have hstep:cW R1 i row (k+1)=(cW R1 i row k).set i ((cW R1 i row k).getD i false||bS row[k]&&(cW R1 i row k).getD k false):=by
   simp only[cW,bgT,bhG,bgF hlt,bhC,biM]
  have fin:∀ (b:Bool) (F:PF) (H:PH),b=((cW R1 i row k).getD i false||bS row[k]&&(cW R1 i row k).getD k false)→(pO l o r i row (k+1)).le F→H o=some (.rows 1 ((eU (cW R1 i row k)).set i [.bool b])) →
    fQ (fun k=>pO l o r i row k) (fun k=>pP o (cW R1 i row k)) (fun k=>k≤row.length) (fun k=>row.length-k) (row.length-k) (eG 4 K) .normal F H:=by
   intro b F H hb hF hH
   refine aJ (k+1) hlt (by omega) hF ?_
   rw[rQ,hb,← hstep] at hH
   exact PH.aA PH.nil_le hH
  unfold pO pP at fin
  generalize hb:(cW R1 i row k).getD i false=b at *
  generalize hc:(cW R1 i row k).getD k false=c at *
  generalize hA:bS row[k]=A at *
  cases b with
  | true =>
   simp -implicitDefEqProofs only[go_sem,δ,γ,GZ,n7,hi',bgQ,hat,vX,aN (show k<9223372036854775807 by omega)]
   exact fin true _ _ (by simp) (by (repeat' (first|exact PF.nil_le|refine PF.aA ?_ ?_))<;>first|(simp -implicitDefEqProofs only[go_sem,γ]<;>rfl)|rfl) (by simp -implicitDefEqProofs only[go_sem])
  | false =>
   simp -implicitDefEqProofs only[go_sem,δ,γ,GZ,n7,hi',bgQ,hat]
   refine aB (L.lO _ (hrow.all _ (bgA hlt))) rfl ?_
   rw[hA]
   cases A with
   | false =>
    simp -implicitDefEqProofs only[go_sem,γ,reduceCtorEq,hi',hk',n7,bgQ,hat,hatk,vX,aN (show k<9223372036854775807 by omega)]
    exact fin false _ _ (by simp) (by (repeat' (first|exact PF.nil_le|refine PF.aA ?_ ?_))<;>first|(simp -implicitDefEqProofs only[go_sem,γ]<;>rfl)|rfl) (by simp -implicitDefEqProofs only[go_sem])
   | true =>
    simp -implicitDefEqProofs only[go_sem,γ,reduceCtorEq,hi',hk',n7,bgQ,hat,hatk,vX,aN (show k<9223372036854775807 by omega)]
    exact fin c _ _ (by simp) (by (repeat' (first|exact PF.nil_le|refine PF.aA ?_ ?_))<;>first|(simp -implicitDefEqProofs only[go_sem,γ]<;>rfl)|rfl) (by simp -implicitDefEqProofs only[go_sem])
 ·have hlt':¬ (k:Int)<(row.length:Nat):=by omega
  simp -implicitDefEqProofs only[go_sem,hlt']
  have:k=row.length:=by omega
  subst this
  exact hK _ _ (by unfold pO; (repeat' (first|exact PF.nil_le|refine PF.aA ?_ ?_))<;>first|(simp -implicitDefEqProofs only[go_sem,γ]<;>rfl)|rfl) (PH.le_refl)
structure SR (l:cL):Prop where
 n:l.exit.length≤4
 rates:l.rates.length=l.exit.length
 row:∀ r∈l.rates,r.length=l.exit.length
theorem ayX {C:Ctx} (L:pD C) (l:cL) (hl:l.Ok) (he:SR l) (o r:Nat) (R:List Bool) (hR:R.length=l.exit.length) (K:cC) (F:PF) (H:PH)
  (hF:(AY l o r 0).le F) (hH:(pP o R).le H)
  (hK:∀ F H,(LL l o r).le F→(pP o (eA l R l.exit.length)).le H→K .normal F H) :
  aD.wp C (.block 2 (.loop vW)) K F H:=by
 simp -implicitDefEqProofs only[go_sem]
 refine wp_loop (α:=Nat) (fun i=>AY l o r i) (fun i=>pP o (eA l R i)) (fun i=>i≤l.exit.length) (fun i=>l.exit.length-i) 0 (bgE _) hF hH ?_
 intro i hi
 have hlen:=qV l R i
 have hn:=he.n
 by_cases hlt:i<l.exit.length
 ·have hlt':(i:Int)<(l.exit.length:Nat):=by omega
  have hir:i<l.rates.length:=by rw[he.rates]; exact hlt
  have hat:=PE (R:=eA l R i) (i:=i) (by omega)
  have hx:(l.exit.map RF.cells)[i]?=some (l.exit[i]).cells:=by simp[hlt]
  have hrow:(l.rates.map fun r=>[frs r])[i]?=some [frs l.rates[i]]:=by simp[hir]
  have hrl:(l.rates[i]).length=l.exit.length:=he.row _ (bgA hir)
  generalize hR1:(eA l R i).set i ((eA l R i).getD i false||bS l.exit[i])=R1
  have hR1l:R1.length=l.exit.length:=by rw[← hR1,bhO]; omega
  have hstep:eA l R (i+1)=cW R1 i l.rates[i] (l.rates[i]).length:=by
   simp only[eA,jJ]
   have e1:(l.exit.map bS).getD i false=bS l.exit[i]:=by simp[bgT,hlt]
   have e2:l.rates.getD i []=l.rates[i]:=by simp[bgT,hir]
   rw[e1,e2,hR1]
  have rest:∀ (F:PF) (H:PH),(((((((PF.nil.set 1 (.rptr l.cells)).set 3 (.osl o 1 0 l.exit.length)).set 4 (.int .i64 r)).set 19 (.int .i64 (l.exit.length:Nat))).set 20 (.int .i64 i)).set 5 (.int .i64 i)):PF).le F→H o=some (.rows 1 (eU R1)) →
    aD.wp C (.seq (.region PW) (.block 4 (.loop vT))) (eG 3 (jL C (aD.wp C (.region HA)) (fQ (fun i=>AY l o r i) (fun i=>pP o (eA l R i)) (fun i=>i≤l.exit.length) (fun i=>l.exit.length-i) (l.exit.length-i) (eG 2 K)))) F H:=by
   intro F H hF hH
   have f1:F 1=some (.rptr l.cells):=hF 1 _ rfl
   have f3:F 3=some (.osl o 1 0 l.exit.length):=hF 3 _ rfl
   have f4:F 4=some (.int .i64 r):=hF 4 _ rfl
   have f19:F 19=some (.int .i64 (l.exit.length:Nat)):=hF 19 _ rfl
   have f20:F 20=some (.int .i64 i):=hF 20 _ rfl
   have f5:F 5=some (.int .i64 i):=hF 5 _ rfl
   rw[abQ]
   simp -implicitDefEqProofs only[go_sem,δ,γ,θ,PW,f1,f5,hrow,bfT]
   have inner:=ayW L l o r i l.rates[i] (hl.row _ (bgA hir)) hrl hlt hn R1 hR1l
   simp only[aD.wp,go_sem] at inner
   refine inner _ _ _ ?_ (PH.aA PH.nil_le hH) ?_
   ·unfold pO
    repeat' first|exact PF.nil_le|refine PF.aA ?_ ?_|rfl|assumption
   ·intro F' H' hF' hH'
    have g20:F' 20=some (.int .i64 i):=hF' 20 _ (by unfold pO; simp -implicitDefEqProofs only[go_sem,γ])
    simp -implicitDefEqProofs only[go_sem,HA,g20,aN (show i<9223372036854775807 by omega)]
    refine aJ (i+1) hlt (by omega) ?_ (by rw[hstep]; exact hH')
    have g:=fun (q:Nat) v h=>hF' q v h
    unfold AY
    unfold pO at g
    refine PF.aA (PF.aA (PF.aA (PF.aA (PF.aA PF.nil_le ?_) ?_) ?_) ?_) ?_
    ·simp -implicitDefEqProofs only[go_sem,γ]; exact g 1 _ rfl
    ·simp -implicitDefEqProofs only[go_sem,γ]; exact g 3 _ rfl
    ·simp -implicitDefEqProofs only[go_sem,γ]; exact g 4 _ rfl
    ·simp -implicitDefEqProofs only[go_sem,γ]; exact g 19 _ rfl
    ·simp -implicitDefEqProofs only[go_sem,γ]
  simp only[aD.wp,go_sem] at rest
  simp -implicitDefEqProofs only[go_sem,γ,vW,PT,AY,pP,hlt',anL]
  generalize hb:(eA l R i).getD i false=b at *
  cases b with
  | true =>
   simp -implicitDefEqProofs only[go_sem,γ,PU,hlt',bgQ,hat]
   refine rest _ _ (by (repeat' (first|exact PF.nil_le|refine PF.aA ?_ ?_))<;>first|(simp -implicitDefEqProofs only[go_sem,γ]<;>rfl)|rfl) ?_
   rw[← hR1]
   simp -implicitDefEqProofs only[go_sem,rQ,Bool.true_or]
  | false =>
   simp -implicitDefEqProofs only[go_sem,δ,γ,PU,hlt',bgQ,hat,hx]
   refine aB (L.lO _ (hl.exit.all _ (bgA hlt))) rfl ?_
   simp -implicitDefEqProofs only[go_sem,γ,reduceCtorEq,hlt',bgQ,hat]
   refine rest _ _ (by (repeat' (first|exact PF.nil_le|refine PF.aA ?_ ?_))<;>first|(simp -implicitDefEqProofs only[go_sem,γ]<;>rfl)|rfl) ?_
   rw[← hR1]
   simp -implicitDefEqProofs only[go_sem,rQ,Bool.false_or]
 ·have hlt':¬ (i:Int)<(l.exit.length:Nat):=by omega
  simp -implicitDefEqProofs only[go_sem,γ,vW,PT,AY,pP,hlt']
  have:i=l.exit.length:=by omega
  subst this
  exact hK _ _ (by unfold LL; (repeat' (first|exact PF.nil_le|refine PF.aA ?_ ?_))<;>first|(simp -implicitDefEqProofs only[go_sem,γ]<;>rfl)|rfl) PH.le_refl
theorem aUA {C:Ctx} (L:pD C) (l:cL) (hl:l.Ok) (he:SR l):BJ.wp C (aX UA.res (bY (.bool (pQ l)))) (PF.args [.agg l.cells]) .nil:=by
 have hn:=he.n
 have hb1:((l.exit.length:Nat):Int)*((1:Nat):Int)≤140737488355328:=by omega
 have hb2:((l.exit.length:Nat):Int)≤9223372036854775807:=by omega
 simp -implicitDefEqProofs only[go_sem,γ,BJ,anG,anH,UA,bfT,hb1,hb2]
 refine aP fun o ho=>?_
 simp -implicitDefEqProofs only[go_sem,γ,anI]
 refine wp_loop (α:=Nat) (fun r=>LL l o r) (fun r=>pP o (fM l r)) (fun r=>r≤l.exit.length+1) (fun r=>l.exit.length+1-r) 0 (bgE _) ?_ ?_ ?_
 ·unfold LL
  (repeat' (first|exact PF.nil_le|refine PF.aA ?_ ?_))<;>first|(simp -implicitDefEqProofs only[go_sem,γ]<;>rfl)|rfl
 ·refine PH.aA PH.nil_le ?_
  simp -implicitDefEqProofs only[go_sem,fM]
  simp[eU]
 intro r hr
 have hlen:=WW l r
 simp -implicitDefEqProofs only[go_sem,γ,acG,anJ,LL,pP]
 by_cases hlt:r≤l.exit.length
 ·have hlt':(r:Int)≤(l.exit.length:Nat):=by omega
  simp -implicitDefEqProofs only[go_sem,γ,hlt',anK]
  have inner:=ayX L l hl he o r (fM l r) hlen
  simp only[aD.wp,go_sem] at inner
  refine inner _ _ _ ?_ PH.le_refl ?_
  ·unfold AY
   (repeat' (first|exact PF.nil_le|refine PF.aA ?_ ?_))<;>first|(simp -implicitDefEqProofs only[go_sem,γ]<;>rfl)|rfl
  ·intro F' H' hF' hH'
   have g:=fun (q:Nat) v h=>hF' q v h
   unfold LL at g
   have g4:F' 4=some (.int .i64 r):=g 4 _ rfl
   simp -implicitDefEqProofs only[go_sem,γ,acI,g4,aN (show r<9223372036854775807 by omega)]
   refine aJ (r+1) (by omega) (by omega) ?_ hH'
   refine PF.aA (PF.aA (PF.aA PF.nil_le ?_) ?_) ?_
   ·simp -implicitDefEqProofs only[go_sem,γ]; exact g 1 _ rfl
   ·simp -implicitDefEqProofs only[go_sem,γ]; exact g 3 _ rfl
   ·simp -implicitDefEqProofs only[go_sem,γ]
 ·have hlt':¬ (r:Int)≤(l.exit.length:Nat):=by omega
  have:r=l.exit.length+1:=by omega
  subst this
  simp -implicitDefEqProofs only[go_sem,γ,hlt',acJ]
  have hcall:=L.allb id 103 (fM l (l.exit.length+1)) (show (fM l (l.exit.length+1)).length≤_ by omega) fun x _=>L.ends1 x
  have hbl:(eU (fM l (l.exit.length+1))).length=l.exit.length:=by rw[abS,hlen]
  refine nO hcall (rs:=eU (fM l (l.exit.length+1))) (o:=o) (s:=1) (by simp -implicitDefEqProofs only[go_sem]) ?_ ?_
  ·simp -implicitDefEqProofs only[go_sem,γ,zW (show l.exit.length≤(eU (fM l (l.exit.length+1))).length by omega),bgH (show (eU (fM l (l.exit.length+1))).length≤l.exit.length by omega)]
  ·simp -implicitDefEqProofs only[go_sem,γ]
   exact aU rfl rfl
end Go.PM
namespace Go.PM
open Go Go.Na
structure SS (C:Ctx):Prop extends akG C where
 ends:∀ l:cL,l.Ok→SR l→aI C 102 [.agg l.cells] .nil (aL (.bool (pQ l)))
def JF (l:cL) (i:Nat):Bool:=decide ((l.rates.getD i []).length=l.start.length)&&(l.rates.getD i []).all fE&&!((l.rates.getD i []).map bS).getD i false
def SG (l:cL):Bool:=match oM (l.start.map RF.v) with
 | .ok (n,a,b)=>decide (uV n a b false 1 1=0)
 | .error _=>false
theorem a0E (l:cL):oI l=(within l.start.length 1 4&&decide (l.exit.length=l.start.length)&&decide (l.rates.length=l.start.length)&&l.start.all fE&&l.exit.all fE&&(bgN l.rates.length).all (JF l)&&SG l&&pQ l):=rfl
theorem aWM {l:List FV} {e:Int} (h:oM l=.error e):e≠0:=by
 have:∀ (l:List FV) (b:FV) (e:Int),l.foldlM iQ b=.error e→e≠0:=by
  intro l
  induction l with
  | nil=>intro b e h; cases h
  | cons x t ih =>
   intro b e h
   rw[List.foldlM_cons] at h
   cases hx:iQ b x with
   | error e' =>
    rw[hx] at h
    have:e'=e:=by injection h
    subst this
    obtain⟨n1,a1,b1⟩:=b
    obtain⟨n2,a2,b2⟩:=x
    simp only[iQ] at hx
    split at hx
    ·split at hx
     ·rw[CJ hx]; decide
     ·split at hx
      ·rw[CJ hx]; decide
      ·rw[CJ hx]; decide
    ·injection hx with hx; subst hx; decide
   | ok y=>rw[hx] at h; exact ih y e h
 exact this l _ e h
theorem a1Q {l:List FV} {r:FV} (h:oM l=.ok r):r.rf.Ok:=by
 have:∀ (l:List FV) (b r:FV),b.rf.Ok→l.foldlM iQ b=.ok r→r.rf.Ok:=by
  intro l
  induction l with
  | nil=>intro b r hb h; injection h with h; subst h; exact hb
  | cons x t ih =>
   intro b r hb h
   rw[List.foldlM_cons] at h
   cases hx:iQ b x with
   | error e'=>rw[hx] at h; cases h
   | ok y=>rw[hx] at h; exact ih y r (aBH hx) h
 refine this l _ r ⟨bE _,bE _,?_,?_⟩ h
 ·show (aG 0).length≤_
  rw[eY]; simp
 ·show (aG 1).length≤_
  rw[lI (by decide) (by decide)]; simp
theorem CK {neg:Bool} {a b:Nat} {r:FV} (hb:b≠0) (h:jP neg a b=.ok r):dH r.2.1 r.2.2=true:=by
 unfold jP at h
 split at h
 ·cases h
 ·rename_i hc
  injection h with h
  subst h
  have hg:bfU a b ∣ b:=Nat.gcd_dvd_right _ _
  have h0:b/bfU a b≠0:=by
   have:=Nat.div_pos (Nat.le_of_dvd (biD hb) hg) (biD fun h=>hb (Nat.gcd_eq_zero_iff.1 h).2)
   omega
  have h1:=@gQ (b/bfU a b)
  simp only[dH,bgP,decide_eq_true_eq]
  omega
theorem aIK {x y r:FV} (h:iQ x y=.ok r):dH r.2.1 r.2.2=true:=by
 obtain⟨n1,a1,b1⟩:=x
 obtain⟨n2,a2,b2⟩:=y
 simp only[iQ] at h
 split at h
 ·rename_i hv
  rw[bgP] at hv
  have h0:b1*b2≠0:=Nat.mul_ne_zero (lD.1 hv.1).1 (lD.1 hv.2).1
  split at h
  ·exact CK h0 h
  ·split at h
   ·exact CK h0 h
   ·exact CK h0 h
 ·cases h
theorem aMS:dH 0 1=true:=by
 have:cA 1=1:=by rw[oA (by decide),iW]
 simp[dH,this,iW]
theorem aMD {l:List FV} {r:FV} (h:oM l=.ok r):dH r.2.1 r.2.2=true:=by
 have:∀ (l:List FV) (b r:FV),dH b.2.1 b.2.2=true→l.foldlM iQ b=.ok r→dH r.2.1 r.2.2=true:=by
  intro l
  induction l with
  | nil=>intro b r hb h; injection h with h; subst h; exact hb
  | cons x t ih =>
   intro b r hb h
   rw[List.foldlM_cons] at h
   cases hx:iQ b x with
   | error e'=>rw[hx] at h; cases h
   | ok y=>rw[hx] at h; exact ih y r (aIK hx) h
 exact this l _ r aMS h
theorem aTK:(⟨false,[],[]⟩:RF).Ok:=⟨fun _ h=>absurd h (bgL),fun _ h=>absurd h (bgL),show 0≤16777216 by decide,show 0≤16777216 by decide⟩
def aUS (l:cL) (k:Nat):PF:=(((((PF.nil.set 1 (.rptr l.cells)).set 3 (.int .i64 (l.start.length:Nat))).set 45 (aLY l.rates)).set 46 (.int .i64 (l.rates.length:Nat))).set 47 (.int .i64 k))
theorem aNZ {C:Ctx} (L:SS C) (l:cL) (hl:l.Ok) (he:SR l) (F:PF) (hF:F 1=some (.rptr l.cells)) :
  aD.wp C (.seq (.region PX) (.seq (.region BK) (.seq (.region BL) (.seq (.region qP) .ret)))) (aX [.tmp 2] (bY (.bool (SG l&&pQ l)))) F .nil:=by
 simp -implicitDefEqProofs only[go_sem,δ,θ,PX,hF]
 refine aB (L.tot l.start hl.start) rfl ?_
 obtain⟨neg',x,y,e,hs⟩:=LS (oM (l.start.map RF.v))
 have go:∀ (z:RF) (e:Int),z.Ok→(e=0→(vM z.neg (val z.num) (val z.den) false 1 1=.tup [.int .i64 (uV z.neg (val z.num) (val z.den) false 1 1),.int .i64 0])∧SG l=decide (uV z.neg (val z.num) (val z.den) false 1 1=0))→(e≠0→SG l=false) →
   frV (oM (l.start.map RF.v))=.tup [.agg z.cells,.int .i64 e] →
   wpOps C [⟨(some 69),.mv (.tmp 72),none⟩,⟨(some 73),.extract (.tmp 69) 0,none⟩,⟨(some 74),.extract (.tmp 69) 1,none⟩,⟨(some 6),.alloc [(.bool false),.nils,.nils],none⟩,⟨none,.store 3 (.tmp 6) (.tmp 73),none⟩,⟨(some 7),.mv (.tmp 74),none⟩]
    (aD.wp C (.seq (.region BK) (.seq (.region BL) (.seq (.region qP) .ret))) (aX [.tmp 2] (bY (.bool (SG l&&pQ l))))) ((((F.set 70 (.rptr [frs l.start,aLY l.rates,frs l.exit])).set 71 (frs l.start))).set 72 (.tup [.agg z.cells,.int .i64 e])) .nil:=by
  intro z e hz h0 h1 _
  simp -implicitDefEqProofs only[go_sem,δ,γ]
  refine aP fun o6 ho6=>?_
  simp -implicitDefEqProofs only[go_sem,δ,γ,BK]
  refine aB (L.frac 1 1 (by decide) (by decide)) rfl ?_
  rw[aqA]
  simp -implicitDefEqProofs only[go_sem,δ,γ,frV]
  refine aP fun o8 ho8=>?_
  have n8:o6≠o8:=by rintro rfl; simp only[aV,if_true] at ho8; cases ho8
  simp -implicitDefEqProofs only[go_sem,δ,γ,BL,n8]
  refine aB (L.ord z (FV.rf (false,1,1)) hz aQE) rfl ?_
  rw[show val (FV.rf (false,1,1)).num=1 from aY 1,show val (FV.rf (false,1,1)).den=1 from aY 1,show (FV.rf (false,1,1)).neg=false from rfl]
  by_cases c:e=0
  ·obtain⟨g1,g2⟩:=h0 c
   rw[g1,g2]
   by_cases d:uV z.neg (val z.num) (val z.den) false 1 1=0
   ·simp -implicitDefEqProofs only[go_sem,δ,γ,qP,bP c,bP d,hF]
    refine aB (L.ends l hl he) rfl ?_
    simp -implicitDefEqProofs only[go_sem,γ]
    exact aU rfl (by rw[decide_eq_true d,bgR])
   ·simp -implicitDefEqProofs only[go_sem,γ,reduceCtorEq,qP,bP c,bD d]
    exact aU rfl (by rw[decide_eq_false d,bgG])
  ·rw[h1 c]
   have:∃ v w,vM z.neg (val z.num) (val z.den) false 1 1=.tup [.int .i64 v,.int .i64 w]:=by
    unfold vM
    split
    ·exact⟨_,_,rfl⟩
    ·exact⟨_,_,rfl⟩
   obtain⟨v,w,hv⟩:=this
   rw[hv]
   simp -implicitDefEqProofs only[go_sem,γ,reduceCtorEq,qP,bD c]
   exact aU rfl rfl
 cases hs':oM (l.start.map RF.v) with
 | error e =>
  rw[hs'] at go
  exact go ⟨false,[],[]⟩ e aTK (fun h=>absurd h (aWM hs')) (fun _=>by rw[SG,hs']) rfl
 | ok r =>
  obtain⟨n,a,b⟩:=r
  rw[hs'] at go
  have hr:=a1Q hs'
  refine go (FV.rf (n,a,b)) 0 hr (fun _=>?_) (fun h=>absurd rfl h) rfl
  rw[show val (FV.rf (n,a,b)).num=a from aY a,show val (FV.rf (n,a,b)).den=b from aY b,show (FV.rf (n,a,b)).neg=n from rfl]
  refine⟨?_,by rw[SG,hs']⟩
  have hv:dH a b=true:=aMD hs'
  rw[vM,hv,ajF]
  rfl
theorem aZJ {C:Ctx} (L:SS C) (l:cL) (hl:l.Ok):HB.wp C (aX anN.res (bY (.bool (oI l)))) (PF.args [.agg l.cells]) .nil:=by
 rw[a0E]
 simp -implicitDefEqProofs only[go_sem,δ,γ,θ,HB,aDB,aDC,anN,aDD,bfT]
 refine aB (L.inn l.start.length 1 4) rfl ?_
 cases c1:within l.start.length 1 4 with
 | false =>
  simp -implicitDefEqProofs only[go_sem,γ,bgM,tW]
  exact aU rfl (by simp only[bgG])
 | true =>
  obtain⟨n1,n2⟩:=within_iff.1 c1
  by_cases c2:l.exit.length=l.start.length
  ·rw[decide_eq_true c2]
   by_cases c3:l.rates.length=l.start.length
   ·rw[decide_eq_true c3]
    simp -implicitDefEqProofs only[go_sem,δ,γ,θ,reduceCtorEq,bgB,bfT,cJ (show ((l.exit.length:Nat):Int)=(l.start.length:Nat) by omega),cJ (show ((l.rates.length:Nat):Int)=(l.start.length:Nat) by omega)]
    refine aB (L.aUU l.start hl.start) rfl ?_
    cases c4:l.start.all fE with
    | false =>
     simp -implicitDefEqProofs only[go_sem,γ,reduceCtorEq,bgM,tW]
     exact aU rfl (by simp only[bgG])
    | true =>
     simp -implicitDefEqProofs only[go_sem,γ,reduceCtorEq,bgB]
     refine aB (L.aUU l.exit hl.exit) rfl ?_
     cases c5:l.exit.all fE with
     | false =>
      simp -implicitDefEqProofs only[go_sem,γ,reduceCtorEq,bgM,tW]
      exact aU rfl (by simp only[bgG])
     | true =>
      simp -implicitDefEqProofs only[go_sem,δ,γ,θ,reduceCtorEq,bgB,aDE,bfT]
      have hrk:∀ k (h:k<l.rates.length),JF l k=(decide ((l.rates[k]).length=l.start.length)&&(l.rates[k]).all fE&&!((l.rates[k]).map bS).getD k false):=by
       intro k h
       have:l.rates.getD k []=l.rates[k]:=by simp[bgT,h]
       rw[JF,this]
      refine wp_loop (α:=Nat) (fun k=>aUS l k) (fun _=>.nil) (fun k=>k≤l.rates.length∧mO (JF l) k) (fun k=>l.rates.length-k) 0 ⟨bgE _,.zero⟩ ?_ PH.nil_le ?_
      ·unfold aUS
       (repeat' (first|exact PF.nil_le|refine PF.aA ?_ ?_))<;>first|(simp -implicitDefEqProofs only[go_sem,γ,bfT]<;>rfl)|rfl
      rintro k ⟨hk,ha⟩
      simp -implicitDefEqProofs only[go_sem,γ,anO,aDF,aUS]
      by_cases hlt:k<l.rates.length
      ·have hlt':(k:Int)<(l.rates.length:Nat):=by omega
       have hr:(l.rates.map fun r=>[frs r])[k]?=some [frs l.rates[k]]:=by simp[hlt]
       have hk2:=hrk k hlt
       have hrok:=hl.row l.rates[k] (bgA hlt)
       simp -implicitDefEqProofs only[go_sem,γ,hlt',aDG,hr,aDH,bfT]
       by_cases d1:(l.rates[k]).length=l.start.length
       ·rw[decide_eq_true d1,bgR] at hk2
        simp -implicitDefEqProofs only[go_sem,γ,cJ (show (((l.rates[k]).length:Nat):Int)=(l.start.length:Nat) by omega)]
        refine aB (L.aUU _ hrok) rfl ?_
        cases d2:(l.rates[k]).all fE with
        | false =>
         rw[d2,bgG] at hk2
         simp -implicitDefEqProofs only[go_sem,γ,reduceCtorEq,bgM,LT]
         refine aU (b:=false) rfl ?_
         have:(bgN l.rates.length).all (JF l)=false:=dN hlt hk2
         rw[this]; simp only[bgG,bhK]
        | true =>
         have hkr:k<(l.rates[k]).length:=by omega
         have hx:((l.rates[k]).map RF.cells)[k]?=some ((l.rates[k])[k]).cells:=by simp[hkr]
         have hab:((l.rates[k]).map bS).getD k false=bS (l.rates[k])[k]:=by simp[bgT,hkr]
         rw[d2,bgR,hab] at hk2
         simp -implicitDefEqProofs only[go_sem,δ,γ,reduceCtorEq,bgB,hx]
         refine aB (L.lO _ (hrok.all _ (bgA hkr))) rfl ?_
         cases d3:bS (l.rates[k])[k] with
         | true =>
          rw[d3] at hk2
          simp -implicitDefEqProofs only[go_sem,γ,reduceCtorEq,LT]
          refine aU (b:=false) rfl ?_
          have:(bgN l.rates.length).all (JF l)=false:=dN hlt hk2
          rw[this]; simp only[bgG,bhK]
         | false =>
          rw[d3] at hk2
          simp -implicitDefEqProofs only[go_sem,γ,reduceCtorEq,aDI,aN (show k<9223372036854775807 by omega)]
          refine aJ (k+1) ⟨hlt,ha.step hk2⟩ (by omega) ?_ PH.nil_le
          (repeat' (first|exact PF.nil_le|refine PF.aA ?_ ?_))<;>first|(simp -implicitDefEqProofs only[go_sem,γ]<;>rfl)|rfl
       ·simp only[decide_eq_false d1,bgG] at hk2
        simp -implicitDefEqProofs only[go_sem,γ,dR (show (((l.rates[k]).length:Nat):Int)≠(l.start.length:Nat) by omega),LT]
        refine aU (b:=false) rfl ?_
        have:(bgN l.rates.length).all (JF l)=false:=dN hlt hk2
        rw[this]; simp only[bgG,bhK]
      ·have hlt':¬ (k:Int)<(l.rates.length:Nat):=by omega
       have:k=l.rates.length:=by omega
       subst this
       have hall:(bgN l.rates.length).all (JF l)=true:=ha
       have he:SR l:=⟨by omega,by omega,fun r hr=>by
        obtain⟨i,hi,rfl⟩:=bhM hr
        have:=bhE.1 hall i (bhW.2 hi)
        rw[hrk i hi] at this
        simp only[bgP,decide_eq_true_eq] at this
        omega⟩
       have tail:=aNZ L l hl he
       simp only[aD.wp,go_sem] at tail
       rw[hall]
       simp -implicitDefEqProofs only[go_sem,hlt',bgR,biN]
       exact tail _ rfl
   ·simp -implicitDefEqProofs only[go_sem,δ,γ,θ,reduceCtorEq,bgB,bfT,cJ (show ((l.exit.length:Nat):Int)=(l.start.length:Nat) by omega),dR (show ((l.rates.length:Nat):Int)≠(l.start.length:Nat) by omega),tW]
    exact aU rfl (by rw[decide_eq_false c3]; simp only[bgG,bhK])
  ·simp -implicitDefEqProofs only[go_sem,γ,reduceCtorEq,bgB,bfT,dR (show ((l.exit.length:Nat):Int)≠(l.start.length:Nat) by omega),tW]
   exact aU rfl (by rw[decide_eq_false c2]; simp only[bgG,bhK])
end Go.PM
namespace Go.PM
open Go Go.Na
structure iD (C:Ctx):Prop extends SS C where
 law:∀ l:cL,l.Ok→aI C 95 [.agg l.cells] .nil (aL (.bool (oI l)))
 pol:∀ (p:cM) (n:Nat),p.Ok→n≤4→aI C 112 [.agg p.cells,.int .i64 n] .nil (aL (.bool (hJ n p)))
 doms:∀ f:aH,f.Ok→aI C 111 [.agg f.cells] .nil (aL (.bool (lP f)))
abbrev eC (l:List (List UInt8)):List (List PV):=l.map fun s=>[PV.str s]
theorem sE (l:List (List UInt8)) {k:Nat} (h:k<l.length):eC (l.take k)++[[.str l[k]]]=eC (l.take (k+1)):=by
 unfold eC
 rw[biG h,bhS]; rfl
theorem oY {l:List (List UInt8)} (h:l.length≤1000):roomFor (eC l).length 1 16:=by
 unfold roomFor eC
 simp only[bfT,maxLen]; omega
def gA {α:Type} (l:List α) (p:α→Bool) (k:Nat):Bool:=(l.take k).all p
theorem pJ {α:Type} (l:List α) (p:α→Bool):gA l p 0=true:=rfl
theorem pI {α:Type} (l:List α) (p:α→Bool) {k:Nat} (h:k<l.length):gA l p (k+1)=(gA l p k&&p l[k]):=by
 unfold gA
 rw[biG h,List.all_append]; simp
theorem rP {α:Type} (l:List α) (p:α→Bool):gA l p l.length=l.all p:=by unfold gA; rw[bhB]
def gE (f:aH) (w3 w4 w5 w6 w7:PV) (ok:Bool):PF:=(((((((PF.nil.set 1 (.rptr f.cells)).set 3 (w3)).set 4 (w4)).set 5 (w5)).set 6 (w6)).set 7 (w7)).set 8 (.bool ok))
structure iP (F:PF) (f:aH) (w3 w4 w5 w6 w7:PV) (ok:Bool):Prop where
 a1:F 1=some (.rptr f.cells)
 a3:F 3=some w3
 a4:F 4=some w4
 a5:F 5=some w5
 a6:F 6=some w6
 a7:F 7=some w7
 a8:F 8=some (.bool ok)
theorem aJS {C:Ctx} (L:iD C) (f:aH) (hf:f.Ok) (hs:f.laws.length≤4) (w4 w5 w6 w7:PV) (K:cC) (F:PF) (H:PH) (hv:iP F f .nils w4 w5 w6 w7 true)
  (h67:F 67=some (.sl 4 (f.laws.map cL.cells))) (h68:F 68=some (.int .i64 (f.laws.length:Nat))) (h69:F 69=some (.int .i64 0))
  (hK:∀ v F' H',iP F' f v w4 w5 w6 w7 (f.laws.all oI)→bB H' 1 v (eC (f.laws.map cL.name))→K (.exit 0) F' H') :
  aD.wp C (.loop BQ) K F H:=by
 refine wp_loop (α:=Nat × PV × PH) (fun t=>(((gE f t.2.1 w4 w5 w6 w7 (gA f.laws oI t.1)).set 67 (.sl 4 (f.laws.map cL.cells))).set 68 (.int .i64 (f.laws.length:Nat))).set 69 (.int .i64 t.1)) (fun t=>t.2.2)
  (fun t=>t.1≤f.laws.length∧bB t.2.2 1 t.2.1 (eC ((f.laws.map cL.name).take t.1))) (fun t=>f.laws.length-t.1) (0,.nils,.nil) ⟨bgE _,.nil⟩ ?_ PH.nil_le ?_
 ·unfold gE
  (repeat' (first|exact PF.nil_le|refine PF.aA ?_ ?_))<;>first|(simp -implicitDefEqProofs only[go_sem,hv.a1,hv.a3,hv.a4,hv.a5,hv.a6,hv.a7,hv.a8,h67,h68,h69,pJ]<;>rfl)|rfl
 rintro⟨k,v,H0⟩ ⟨hk,hO⟩
 simp only at hk hO ⊢
 simp -implicitDefEqProofs only[go_sem,γ,BQ,aED,gE]
 by_cases hlt:k<f.laws.length
 ·have hlt':(k:Int)<(f.laws.length:Nat):=by omega
  have hr:(f.laws.map cL.cells)[k]?=some (f.laws[k]).cells:=by simp[hlt]
  have hsn:=sE (f.laws.map cL.name) (k:=k) (by simpa using hlt)
  rw[bhL] at hsn
  simp -implicitDefEqProofs only[go_sem,δ,γ,hlt',aEE,hr]
  refine aP fun o ho=>?_
  simp -implicitDefEqProofs only[go_sem,υ,δ,γ,η,θ,ζ,aEF]
  refine kK hO ho (oY (by simp; omega)) fun v' H' hO' ho'=>?_
  rw[hsn] at hO'
  have hstep:=pI f.laws oI hlt
  cases hb:gA f.laws oI k with
  | false =>
   rw[hb,bgG] at hstep
   simp -implicitDefEqProofs only[go_sem,γ,reduceCtorEq,ZY,ho',QB,aN (show k<9223372036854775807 by omega)]
   refine aJ (k+1,v',H') ⟨hlt,hO'⟩ (by simp only; omega) ?_ PH.le_refl
   simp only[hstep]
   (repeat' (first|exact PF.nil_le|refine PF.aA ?_ ?_))<;>first|(simp -implicitDefEqProofs only[go_sem,γ]<;>rfl)|rfl
  | true =>
   rw[hb,bgR] at hstep
   simp -implicitDefEqProofs only[go_sem,δ,γ,ZY,ho']
   refine aB (L.law _ (hf.law _ (bgA hlt))) (by simp -implicitDefEqProofs only[go_sem,γ]<;>rfl) ?_
   simp -implicitDefEqProofs only[go_sem,γ,QB,aN (show k<9223372036854775807 by omega)]
   refine aJ (k+1,v',H') ⟨hlt,hO'⟩ (by simp only; omega) ?_ PH.le_refl
   simp only[hstep]
   (repeat' (first|exact PF.nil_le|refine PF.aA ?_ ?_))<;>first|(simp -implicitDefEqProofs only[go_sem,γ]<;>rfl)|rfl
 ·have hlt':¬ (k:Int)<(f.laws.length:Nat):=by omega
  have:k=f.laws.length:=by omega
  subst this
  rw[bgH (by simp)] at hO
  rw[rP]
  simp -implicitDefEqProofs only[go_sem,hlt']
  exact hK v _ _ ⟨by simp -implicitDefEqProofs only[go_sem,γ],by simp -implicitDefEqProofs only[go_sem,γ],by simp -implicitDefEqProofs only[go_sem,γ],by simp -implicitDefEqProofs only[go_sem,γ],by simp -implicitDefEqProofs only[go_sem,γ],by simp -implicitDefEqProofs only[go_sem,γ],by simp -implicitDefEqProofs only[go_sem,γ]⟩ hO
theorem wV {n:Nat} (h:n≤1000):IntKind.i64.wrap ((n:Int)-1)=(n:Int)-1:=wrap_i64 (by omega) (by omega)
theorem aJT {C:Ctx} (L:iD C) (f:aH) (hs:f.models.length≤4) (hl:f.laws.length≤4) (b0:Bool) (w3 w5 w6 w7:PV) (K:cC) (F:PF) (H:PH) (hv:iP F f w3 .nils w5 w6 w7 b0)
  (h67:F 85=some (.sl 4 (f.models.map cS.cells))) (h68:F 86=some (.int .i64 (f.models.length:Nat))) (h69:F 87=some (.int .i64 0))
  (hK:∀ v F' H',iP F' f w3 v w5 w6 w7 (b0&&f.models.all (jW f))→bB H' 1 v (eC (f.models.map cS.name))→K (.exit 2) F' H') :
  aD.wp C (.loop BR) K F H:=by
 refine wp_loop (α:=Nat × PV × PH) (fun t=>(((gE f w3 t.2.1 w5 w6 w7 (b0&&gA f.models (jW f) t.1)).set 85 (.sl 4 (f.models.map cS.cells))).set 86 (.int .i64 (f.models.length:Nat))).set 87 (.int .i64 t.1)) (fun t=>t.2.2)
  (fun t=>t.1≤f.models.length∧bB t.2.2 1 t.2.1 (eC ((f.models.map cS.name).take t.1))) (fun t=>f.models.length-t.1) (0,.nils,.nil) ⟨bgE _,.nil⟩ ?_ PH.nil_le ?_
 ·unfold gE
  (repeat' (first|exact PF.nil_le|refine PF.aA ?_ ?_))<;>first|(simp -implicitDefEqProofs only[go_sem,hv.a1,hv.a3,hv.a4,hv.a5,hv.a6,hv.a7,hv.a8,h67,h68,h69,pJ,biN]<;>rfl)|rfl
 rintro⟨k,v,H0⟩ ⟨hk,hO⟩
 simp only at hk hO ⊢
 simp -implicitDefEqProofs only[go_sem,γ,BR,aoN,gE]
 by_cases hlt:k<f.models.length
 ·have hlt':(k:Int)<(f.models.length:Nat):=by omega
  have hr:(f.models.map cS.cells)[k]?=some (f.models[k]).cells:=by simp[hlt]
  have hsn:=sE (f.models.map cS.name) (k:=k) (by simpa using hlt)
  rw[bhL] at hsn
  simp -implicitDefEqProofs only[go_sem,δ,γ,hlt',aoO,hr]
  refine aP fun o ho=>?_
  simp -implicitDefEqProofs only[go_sem,υ,δ,γ,η,θ,ζ,aoP]
  refine kK hO ho (oY (by simp; omega)) fun v' H' hO' ho'=>?_
  rw[hsn] at hO'
  have hstep:=pI f.models (jW f) hlt
  have fin:∀ (c:Bool) (F':PF),c=(b0&&gA f.models (jW f) (k+1))→((((gE f w3 v' w5 w6 w7 c).set 85 (.sl 4 (f.models.map cS.cells))).set 86 (.int .i64 (f.models.length:Nat))).set 87 (.int .i64 (k+1:Nat))).le F' →
    fQ (fun (t:Nat × PV × PH)=>(((gE f w3 t.2.1 w5 w6 w7 (b0&&gA f.models (jW f) t.1)).set 85 (.sl 4 (f.models.map cS.cells))).set 86 (.int .i64 (f.models.length:Nat))).set 87 (.int .i64 t.1)) (fun (t:Nat × PV × PH)=>t.2.2)  (fun (t:Nat × PV × PH)=>t.1≤f.models.length∧bB t.2.2 1 t.2.1 (eC ((f.models.map cS.name).take t.1))) (fun (t:Nat × PV × PH)=>f.models.length-t.1) (f.models.length-k) K .normal F' H':=by
   intro c F' hc hle
   refine aJ (α:=Nat × PV × PH) (k+1,v',H') ⟨hlt,hO'⟩ (by simp only; omega) ?_ PH.le_refl
   rw[hc] at hle
   exact hle
  unfold gE at fin
  rw[hstep,← Bool.and_assoc] at fin
  have hm:jW f f.models[k]=(within (f.models[k]).extents 1 16&&within (f.models[k]).port 1 64&&within (f.models[k]).law 0 ((f.laws.length:Int)-1)):=rfl
  cases hb:(b0&&gA f.models (jW f) k) with
  | false =>
   rw[hb,bgG] at fin
   simp -implicitDefEqProofs only[go_sem,γ,reduceCtorEq,QD,ho',uN,aN (show k<9223372036854775807 by omega)]
   refine fin false _ rfl ?_
   (repeat' (first|exact PF.nil_le|refine PF.aA ?_ ?_))<;>first|(simp -implicitDefEqProofs only[go_sem,γ]<;>rfl)|rfl
  | true =>
   rw[hb,bgR] at fin
   simp -implicitDefEqProofs only[go_sem,δ,γ,θ,QD,ho']
   refine aB (L.inn _ 1 16) (by simp -implicitDefEqProofs only[go_sem,γ]<;>rfl) ?_
   cases e1:within (f.models[k]).extents 1 16 with
   | false =>
    simp -implicitDefEqProofs only[go_sem,γ,reduceCtorEq,uN,aN (show k<9223372036854775807 by omega)]
    refine fin false _ (by rw[hm,e1]; simp only[bgG]) ?_
    (repeat' (first|exact PF.nil_le|refine PF.aA ?_ ?_))<;>first|(simp -implicitDefEqProofs only[go_sem,γ]<;>rfl)|rfl
   | true =>
    simp -implicitDefEqProofs only[go_sem,δ,γ,θ,ho']
    refine aB (L.inn _ 1 64) (by simp -implicitDefEqProofs only[go_sem,γ]<;>rfl) ?_
    cases e2:within (f.models[k]).port 1 64 with
    | false =>
     simp -implicitDefEqProofs only[go_sem,γ,reduceCtorEq,uN,aN (show k<9223372036854775807 by omega)]
     refine fin false _ (by rw[hm,e1,e2]; simp only[bgG,bhK]) ?_
     (repeat' (first|exact PF.nil_le|refine PF.aA ?_ ?_))<;>first|(simp -implicitDefEqProofs only[go_sem,γ]<;>rfl)|rfl
    | true =>
     simp -implicitDefEqProofs only[go_sem,δ,γ,θ,ho',bfT,wV (show f.laws.length≤1000 by omega)]
     refine aB (L.inn _ 0 _) (by simp -implicitDefEqProofs only[go_sem,γ]<;>rfl) ?_
     simp -implicitDefEqProofs only[go_sem,γ,uN,aN (show k<9223372036854775807 by omega)]
     refine fin (within (f.models[k]).law 0 ((f.laws.length:Int)-1)) _ (by rw[hm,e1,e2]; simp only[bgR]) ?_
     (repeat' (first|exact PF.nil_le|refine PF.aA ?_ ?_))<;>first|(simp -implicitDefEqProofs only[go_sem,γ]<;>rfl)|rfl
 ·have hlt':¬ (k:Int)<(f.models.length:Nat):=by omega
  have:k=f.models.length:=by omega
  subst this
  rw[bgH (by simp)] at hO
  rw[rP]
  simp -implicitDefEqProofs only[go_sem,hlt']
  exact hK v _ _ ⟨by simp -implicitDefEqProofs only[go_sem,γ],by simp -implicitDefEqProofs only[go_sem,γ],by simp -implicitDefEqProofs only[go_sem,γ],by simp -implicitDefEqProofs only[go_sem,γ],by simp -implicitDefEqProofs only[go_sem,γ],by simp -implicitDefEqProofs only[go_sem,γ],by simp -implicitDefEqProofs only[go_sem,γ]⟩ hO
theorem aJU {C:Ctx} (L:iD C) (f:aH) (t:List cK) (hs:t.length≤40) (b0:Bool) (w3 w4 w6 w7:PV) (K:cC) (F:PF) (H:PH) (hv:iP F f w3 w4 .nils w6 w7 b0)
  (h67:F 119=some (.sl 7 (t.map cK.cells))) (h68:F 120=some (.int .i64 (t.length:Nat))) (h69:F 121=some (.int .i64 0))
  (hK:∀ v F' H',iP F' f w3 w4 v w6 w7 b0→bB H' 1 v (eC (t.map cK.name))→K (.exit 4) F' H') :
  aD.wp C (.loop BS) K F H:=by
 refine wp_loop (α:=Nat × PV × PH) (fun a=>(((gE f w3 w4 a.2.1 w6 w7 b0).set 119 (.sl 7 (t.map cK.cells))).set 120 (.int .i64 (t.length:Nat))).set 121 (.int .i64 a.1)) (fun a=>a.2.2)
  (fun a=>a.1≤t.length∧bB a.2.2 1 a.2.1 (eC ((t.map cK.name).take a.1))) (fun a=>t.length-a.1) (0,.nils,.nil) ⟨bgE _,.nil⟩ ?_ PH.nil_le ?_
 ·unfold gE
  (repeat' (first|exact PF.nil_le|refine PF.aA ?_ ?_))<;>first|(simp -implicitDefEqProofs only[go_sem,hv.a1,hv.a3,hv.a4,hv.a5,hv.a6,hv.a7,hv.a8,h67,h68,h69]<;>rfl)|rfl
 rintro⟨k,v,H0⟩ ⟨hk,hO⟩
 simp only at hk hO ⊢
 simp -implicitDefEqProofs only[go_sem,γ,BS,aoQ,gE]
 by_cases hlt:k<t.length
 ·have hlt':(k:Int)<(t.length:Nat):=by omega
  have hr:(t.map cK.cells)[k]?=some (t[k]).cells:=by simp[hlt]
  have hsn:=sE (t.map cK.name) (k:=k) (by simpa using hlt)
  rw[bhL] at hsn
  simp -implicitDefEqProofs only[go_sem,δ,γ,hlt',aoR,hr]
  refine aP fun o ho=>?_
  simp -implicitDefEqProofs only[go_sem,υ,δ,γ,η,θ,ζ,aoS]
  refine kK hO ho (oY (by simp; omega)) fun v' H' hO' ho'=>?_
  rw[hsn] at hO'
  simp -implicitDefEqProofs only[go_sem,γ,aoT,aN (show k<9223372036854775807 by omega)]
  refine aJ (k+1,v',H') ⟨hlt,hO'⟩ (by simp only; omega) ?_ PH.le_refl
  (repeat' (first|exact PF.nil_le|refine PF.aA ?_ ?_))<;>first|(simp -implicitDefEqProofs only[go_sem,γ]<;>rfl)|rfl
 ·have hlt':¬ (k:Int)<(t.length:Nat):=by omega
  have:k=t.length:=by omega
  subst this
  rw[bgH (by simp)] at hO
  simp -implicitDefEqProofs only[go_sem,hlt']
  exact hK v _ _ ⟨by simp -implicitDefEqProofs only[go_sem,γ],by simp -implicitDefEqProofs only[go_sem,γ],by simp -implicitDefEqProofs only[go_sem,γ],by simp -implicitDefEqProofs only[go_sem,γ],by simp -implicitDefEqProofs only[go_sem,γ],by simp -implicitDefEqProofs only[go_sem,γ],by simp -implicitDefEqProofs only[go_sem,γ]⟩ hO
theorem aJV {C:Ctx} (L:iD C) (f:aH) (names:List (List UInt8)) (hn:names.length≤40) (hs:f.drives.length≤24) (hm:f.models.length≤4) (hd:f.domains.length≤40) (b0:Bool) (w3 w4 v0 w6 w7:PV) (K:cC) (F:PF) (H:PH) (hv:iP F f w3 w4 v0 w6 w7 b0)
  (h0:bB H 1 v0 (eC names))
  (h67:F 132=some (.sl 3 (f.drives.map cO.cells))) (h68:F 133=some (.int .i64 (f.drives.length:Nat))) (h69:F 134=some (.int .i64 0))
  (hK:∀ v F' H',iP F' f w3 w4 v w6 w7 (b0&&f.drives.all (iH f))→bB H' 1 v (eC (names++f.drives.map cO.name))→K (.exit 6) F' H') :
  aD.wp C (.loop BT) K F H:=by
 refine wp_loop (α:=Nat × PV × PH) (fun t=>(((gE f w3 w4 t.2.1 w6 w7 (b0&&gA f.drives (iH f) t.1)).set 132 (.sl 3 (f.drives.map cO.cells))).set 133 (.int .i64 (f.drives.length:Nat))).set 134 (.int .i64 t.1)) (fun t=>t.2.2)
  (fun t=>t.1≤f.drives.length∧bB t.2.2 1 t.2.1 (eC (names++(f.drives.map cO.name).take t.1))) (fun t=>f.drives.length-t.1) (0,v0,H) ⟨bgE _,by rw[List.take_zero,bhN]; exact h0⟩ ?_ PH.le_refl ?_
 ·unfold gE
  (repeat' (first|exact PF.nil_le|refine PF.aA ?_ ?_))<;>first|(simp -implicitDefEqProofs only[go_sem,hv.a1,hv.a3,hv.a4,hv.a5,hv.a6,hv.a7,hv.a8,h67,h68,h69,pJ,biN]<;>rfl)|rfl
 rintro⟨k,v,H0⟩ ⟨hk,hO⟩
 simp only at hk hO ⊢
 simp -implicitDefEqProofs only[go_sem,γ,BT,aoU,gE]
 by_cases hlt:k<f.drives.length
 ·have hlt':(k:Int)<(f.drives.length:Nat):=by omega
  have hr:(f.drives.map cO.cells)[k]?=some (f.drives[k]).cells:=by simp[hlt]
  have hsn:eC (names++(f.drives.map cO.name).take k)++[[.str (f.drives[k]).name]]=eC (names++(f.drives.map cO.name).take (k+1)):=by
   rw[biG (by simpa using hlt),← bgY,bhL]
   unfold eC
   simp only[bhS,bhA,bhV]
  simp -implicitDefEqProofs only[go_sem,δ,γ,hlt',aoV,hr]
  refine aP fun o ho=>?_
  simp -implicitDefEqProofs only[go_sem,υ,δ,γ,η,θ,ζ,aoW]
  refine kK hO ho (oY (by simp; omega)) fun v' H' hO' ho'=>?_
  rw[hsn] at hO'
  have hstep:=pI f.drives (iH f) hlt
  have fin:∀ (c:Bool) (F':PF),c=(b0&&gA f.drives (iH f) (k+1))→((((gE f w3 w4 v' w6 w7 c).set 132 (.sl 3 (f.drives.map cO.cells))).set 133 (.int .i64 (f.drives.length:Nat))).set 134 (.int .i64 (k+1:Nat))).le F' →
    fQ (fun (t:Nat × PV × PH)=>(((gE f w3 w4 t.2.1 w6 w7 (b0&&gA f.drives (iH f) t.1)).set 132 (.sl 3 (f.drives.map cO.cells))).set 133 (.int .i64 (f.drives.length:Nat))).set 134 (.int .i64 t.1)) (fun (t:Nat × PV × PH)=>t.2.2)  (fun (t:Nat × PV × PH)=>t.1≤f.drives.length∧bB t.2.2 1 t.2.1 (eC (names++(f.drives.map cO.name).take t.1))) (fun (t:Nat × PV × PH)=>f.drives.length-t.1) (f.drives.length-k) K .normal F' H':=by
   intro c F' hc hle
   refine aJ (α:=Nat × PV × PH) (k+1,v',H') ⟨hlt,hO'⟩ (by simp only; omega) ?_ PH.le_refl
   rw[hc] at hle
   exact hle
  unfold gE at fin
  rw[hstep,← Bool.and_assoc] at fin
  have hmd:iH f f.drives[k]=(within (f.drives[k]).model 0 ((f.models.length:Int)-1)&&within (f.drives[k]).machine 0 ((f.domains.length:Int)-1)&&decide ((f.domains.map cK.level).getD (f.drives[k]).machine.toNat 0=4)):=rfl
  cases hb:(b0&&gA f.drives (iH f) k) with
  | false =>
   rw[hb,bgG] at fin
   simp -implicitDefEqProofs only[go_sem,γ,reduceCtorEq,QG,ho',qQ,aN (show k<9223372036854775807 by omega)]
   refine fin false _ rfl ?_
   (repeat' (first|exact PF.nil_le|refine PF.aA ?_ ?_))<;>first|(simp -implicitDefEqProofs only[go_sem,γ]<;>rfl)|rfl
  | true =>
   rw[hb,bgR] at fin
   simp -implicitDefEqProofs only[go_sem,δ,γ,θ,QG,ho',bfT,wV (show f.models.length≤1000 by omega)]
   refine aB (L.inn _ 0 _) (by simp -implicitDefEqProofs only[go_sem,γ]<;>rfl) ?_
   cases e1:within (f.drives[k]).model 0 ((f.models.length:Int)-1) with
   | false =>
    simp -implicitDefEqProofs only[go_sem,γ,reduceCtorEq,qQ,aN (show k<9223372036854775807 by omega)]
    refine fin false _ (by rw[hmd,e1]; simp only[bgG]) ?_
    (repeat' (first|exact PF.nil_le|refine PF.aA ?_ ?_))<;>first|(simp -implicitDefEqProofs only[go_sem,γ]<;>rfl)|rfl
   | true =>
    simp -implicitDefEqProofs only[go_sem,δ,γ,θ,ho',bfT,wV (show f.domains.length≤1000 by omega)]
    refine aB (L.inn _ 0 _) (by simp -implicitDefEqProofs only[go_sem,γ]<;>rfl) ?_
    cases e2:within (f.drives[k]).machine 0 ((f.domains.length:Int)-1) with
    | false =>
     simp -implicitDefEqProofs only[go_sem,γ,reduceCtorEq,qQ,aN (show k<9223372036854775807 by omega)]
     refine fin false _ (by rw[hmd,e1,e2]; simp only[bgG,bhK]) ?_
     (repeat' (first|exact PF.nil_le|refine PF.aA ?_ ?_))<;>first|(simp -implicitDefEqProofs only[go_sem,γ]<;>rfl)|rfl
    | true =>
     obtain⟨i1,i2⟩:=within_iff.1 e2
     have i3:(f.drives[k]).machine.toNat<f.domains.length:=by omega
     have hpr:(f.domains.map cK.cells)[(f.drives[k]).machine.toNat]?=some (f.domains[(f.drives[k]).machine.toNat]).cells:=by simp[i3]
     have hlv:(f.domains.map cK.level).getD (f.drives[k]).machine.toNat 0=(f.domains[(f.drives[k]).machine.toNat]).level:=by simp[i3]
     rw[hlv] at hmd
     by_cases e3:(f.domains[(f.drives[k]).machine.toNat]).level=4
     ·simp -implicitDefEqProofs only[go_sem,δ,γ,θ,ho',i1,hpr,bP e3,qQ,aN (show k<9223372036854775807 by omega)]
      refine fin true _ (by rw[hmd,e1,e2,decide_eq_true e3]; rfl) ?_
      (repeat' (first|exact PF.nil_le|refine PF.aA ?_ ?_))<;>first|(simp -implicitDefEqProofs only[go_sem,γ]<;>rfl)|rfl
     ·simp -implicitDefEqProofs only[go_sem,δ,γ,θ,ho',i1,hpr,bD e3,qQ,aN (show k<9223372036854775807 by omega)]
      refine fin false _ (by rw[hmd,e1,e2,decide_eq_false e3]; rfl) ?_
      (repeat' (first|exact PF.nil_le|refine PF.aA ?_ ?_))<;>first|(simp -implicitDefEqProofs only[go_sem,γ]<;>rfl)|rfl
 ·have hlt':¬ (k:Int)<(f.drives.length:Nat):=by omega
  have:k=f.drives.length:=by omega
  subst this
  rw[bgH (by simp)] at hO
  rw[rP]
  simp -implicitDefEqProofs only[go_sem,hlt']
  exact hK v _ _ ⟨by simp -implicitDefEqProofs only[go_sem,γ],by simp -implicitDefEqProofs only[go_sem,γ],by simp -implicitDefEqProofs only[go_sem,γ],by simp -implicitDefEqProofs only[go_sem,γ],by simp -implicitDefEqProofs only[go_sem,γ],by simp -implicitDefEqProofs only[go_sem,γ],by simp -implicitDefEqProofs only[go_sem,γ]⟩ hO
theorem aJW {C:Ctx} (L:iD C) (f:aH) (hf:f.Ok) (hs:f.policies.length≤4) (hm:f.models.length≤4) (b0:Bool) (w3 w4 w5 w7:PV) (K:cC) (F:PF) (H:PH) (hv:iP F f w3 w4 w5 .nils w7 b0)
  (h67:F 174=some (.sl 17 (f.policies.map cM.cells))) (h68:F 175=some (.int .i64 (f.policies.length:Nat))) (h69:F 176=some (.int .i64 0))
  (hK:∀ v F' H',iP F' f w3 w4 w5 v w7 (b0&&f.policies.all (hJ f.models.length))→bB H' 1 v (eC (f.policies.map cM.name))→K (.exit 8) F' H') :
  aD.wp C (.loop BU) K F H:=by
 refine wp_loop (α:=Nat × PV × PH) (fun t=>(((gE f w3 w4 w5 t.2.1 w7 (b0&&gA f.policies (hJ f.models.length) t.1)).set 174 (.sl 17 (f.policies.map cM.cells))).set 175 (.int .i64 (f.policies.length:Nat))).set 176 (.int .i64 t.1)) (fun t=>t.2.2)
  (fun t=>t.1≤f.policies.length∧bB t.2.2 1 t.2.1 (eC ((f.policies.map cM.name).take t.1))) (fun t=>f.policies.length-t.1) (0,.nils,.nil) ⟨bgE _,.nil⟩ ?_ PH.nil_le ?_
 ·unfold gE
  (repeat' (first|exact PF.nil_le|refine PF.aA ?_ ?_))<;>first|(simp -implicitDefEqProofs only[go_sem,hv.a1,hv.a3,hv.a4,hv.a5,hv.a6,hv.a7,hv.a8,h67,h68,h69,pJ,biN]<;>rfl)|rfl
 rintro⟨k,v,H0⟩ ⟨hk,hO⟩
 simp only at hk hO ⊢
 simp -implicitDefEqProofs only[go_sem,γ,BU,aoX,gE]
 by_cases hlt:k<f.policies.length
 ·have hlt':(k:Int)<(f.policies.length:Nat):=by omega
  have hr:(f.policies.map cM.cells)[k]?=some (f.policies[k]).cells:=by simp[hlt]
  have hsn:=sE (f.policies.map cM.name) (k:=k) (by simpa using hlt)
  rw[bhL] at hsn
  simp -implicitDefEqProofs only[go_sem,δ,γ,hlt',aoY,hr]
  refine aP fun o ho=>?_
  simp -implicitDefEqProofs only[go_sem,υ,δ,γ,η,θ,ζ,aoZ]
  refine kK hO ho (oY (by simp; omega)) fun v' H' hO' ho'=>?_
  rw[hsn] at hO'
  have hstep:=pI f.policies (hJ f.models.length) hlt
  have fin:∀ (c:Bool) (F':PF),c=(b0&&gA f.policies (hJ f.models.length) (k+1))→((((gE f w3 w4 w5 v' w7 c).set 174 (.sl 17 (f.policies.map cM.cells))).set 175 (.int .i64 (f.policies.length:Nat))).set 176 (.int .i64 (k+1:Nat))).le F' →
    fQ (fun (t:Nat × PV × PH)=>(((gE f w3 w4 w5 t.2.1 w7 (b0&&gA f.policies (hJ f.models.length) t.1)).set 174 (.sl 17 (f.policies.map cM.cells))).set 175 (.int .i64 (f.policies.length:Nat))).set 176 (.int .i64 t.1)) (fun (t:Nat × PV × PH)=>t.2.2)  (fun (t:Nat × PV × PH)=>t.1≤f.policies.length∧bB t.2.2 1 t.2.1 (eC ((f.policies.map cM.name).take t.1))) (fun (t:Nat × PV × PH)=>f.policies.length-t.1) (f.policies.length-k) K .normal F' H':=by
   intro c F' hc hle
   refine aJ (α:=Nat × PV × PH) (k+1,v',H') ⟨hlt,hO'⟩ (by simp only; omega) ?_ PH.le_refl
   rw[hc] at hle
   exact hle
  unfold gE at fin
  rw[hstep,← Bool.and_assoc] at fin
  cases hb:(b0&&gA f.policies (hJ f.models.length) k) with
  | false =>
   rw[hb,bgG] at fin
   simp -implicitDefEqProofs only[go_sem,γ,reduceCtorEq,QI,ho',QJ,aN (show k<9223372036854775807 by omega)]
   refine fin false _ rfl ?_
   (repeat' (first|exact PF.nil_le|refine PF.aA ?_ ?_))<;>first|(simp -implicitDefEqProofs only[go_sem,γ]<;>rfl)|rfl
  | true =>
   rw[hb,bgR] at fin
   simp -implicitDefEqProofs only[go_sem,δ,γ,θ,QI,ho',bfT]
   refine aB (L.pol _ _ (hf.policy _ (bgA hlt)) hm) (by simp -implicitDefEqProofs only[go_sem,γ]<;>rfl) ?_
   simp -implicitDefEqProofs only[go_sem,γ,QJ,aN (show k<9223372036854775807 by omega)]
   refine fin _ _ rfl ?_
   (repeat' (first|exact PF.nil_le|refine PF.aA ?_ ?_))<;>first|(simp -implicitDefEqProofs only[go_sem,γ]<;>rfl)|rfl
 ·have hlt':¬ (k:Int)<(f.policies.length:Nat):=by omega
  have:k=f.policies.length:=by omega
  subst this
  rw[bgH (by simp)] at hO
  rw[rP]
  simp -implicitDefEqProofs only[go_sem,hlt']
  exact hK v _ _ ⟨by simp -implicitDefEqProofs only[go_sem,γ],by simp -implicitDefEqProofs only[go_sem,γ],by simp -implicitDefEqProofs only[go_sem,γ],by simp -implicitDefEqProofs only[go_sem,γ],by simp -implicitDefEqProofs only[go_sem,γ],by simp -implicitDefEqProofs only[go_sem,γ],by simp -implicitDefEqProofs only[go_sem,γ]⟩ hO
theorem aJX {C:Ctx} (L:iD C) (f:aH) (hs:f.volumes.length≤12) (hl:f.policies.length≤4) (b0:Bool) (w3 w4 w5 w6:PV) (K:cC) (F:PF) (H:PH) (hv:iP F f w3 w4 w5 w6 .nils b0)
  (h67:F 195=some (.sl 2 (f.volumes.map fI.cells))) (h68:F 196=some (.int .i64 (f.volumes.length:Nat))) (h69:F 197=some (.int .i64 0))
  (hK:∀ v F' H',iP F' f w3 w4 w5 w6 v (b0&&f.volumes.all (lN f))→bB H' 1 v (eC (f.volumes.map fI.name))→K (.exit 10) F' H') :
  aD.wp C (.loop BV) K F H:=by
 refine wp_loop (α:=Nat × PV × PH) (fun t=>(((gE f w3 w4 w5 w6 t.2.1 (b0&&gA f.volumes (lN f) t.1)).set 195 (.sl 2 (f.volumes.map fI.cells))).set 196 (.int .i64 (f.volumes.length:Nat))).set 197 (.int .i64 t.1)) (fun t=>t.2.2)
  (fun t=>t.1≤f.volumes.length∧bB t.2.2 1 t.2.1 (eC ((f.volumes.map fI.name).take t.1))) (fun t=>f.volumes.length-t.1) (0,.nils,.nil) ⟨bgE _,.nil⟩ ?_ PH.nil_le ?_
 ·unfold gE
  (repeat' (first|exact PF.nil_le|refine PF.aA ?_ ?_))<;>first|(simp -implicitDefEqProofs only[go_sem,hv.a1,hv.a3,hv.a4,hv.a5,hv.a6,hv.a7,hv.a8,h67,h68,h69,pJ,biN]<;>rfl)|rfl
 rintro⟨k,v,H0⟩ ⟨hk,hO⟩
 simp only at hk hO ⊢
 simp -implicitDefEqProofs only[go_sem,γ,BV,apA,gE]
 by_cases hlt:k<f.volumes.length
 ·have hlt':(k:Int)<(f.volumes.length:Nat):=by omega
  have hr:(f.volumes.map fI.cells)[k]?=some (f.volumes[k]).cells:=by simp[hlt]
  have hsn:=sE (f.volumes.map fI.name) (k:=k) (by simpa using hlt)
  rw[bhL] at hsn
  simp -implicitDefEqProofs only[go_sem,δ,γ,hlt',apB,hr]
  refine aP fun o ho=>?_
  simp -implicitDefEqProofs only[go_sem,υ,δ,γ,η,θ,ζ,apC]
  refine kK hO ho (oY (by simp; omega)) fun v' H' hO' ho'=>?_
  rw[hsn] at hO'
  have hstep:=pI f.volumes (lN f) hlt
  have fin:∀ (c:Bool) (F':PF),c=(b0&&gA f.volumes (lN f) (k+1))→((((gE f w3 w4 w5 w6 v' c).set 195 (.sl 2 (f.volumes.map fI.cells))).set 196 (.int .i64 (f.volumes.length:Nat))).set 197 (.int .i64 (k+1:Nat))).le F' →
    fQ (fun (t:Nat × PV × PH)=>(((gE f w3 w4 w5 w6 t.2.1 (b0&&gA f.volumes (lN f) t.1)).set 195 (.sl 2 (f.volumes.map fI.cells))).set 196 (.int .i64 (f.volumes.length:Nat))).set 197 (.int .i64 t.1)) (fun (t:Nat × PV × PH)=>t.2.2)  (fun (t:Nat × PV × PH)=>t.1≤f.volumes.length∧bB t.2.2 1 t.2.1 (eC ((f.volumes.map fI.name).take t.1))) (fun (t:Nat × PV × PH)=>f.volumes.length-t.1) (f.volumes.length-k) K .normal F' H':=by
   intro c F' hc hle
   refine aJ (α:=Nat × PV × PH) (k+1,v',H') ⟨hlt,hO'⟩ (by simp only; omega) ?_ PH.le_refl
   rw[hc] at hle
   exact hle
  unfold gE at fin
  rw[hstep,← Bool.and_assoc] at fin
  have hm:lN f f.volumes[k]=within (f.volumes[k]).policy 0 ((f.policies.length:Int)-1):=rfl
  cases hb:(b0&&gA f.volumes (lN f) k) with
  | false =>
   rw[hb,bgG] at fin
   simp -implicitDefEqProofs only[go_sem,γ,reduceCtorEq,QL,ho',QM,aN (show k<9223372036854775807 by omega)]
   refine fin false _ rfl ?_
   (repeat' (first|exact PF.nil_le|refine PF.aA ?_ ?_))<;>first|(simp -implicitDefEqProofs only[go_sem,γ]<;>rfl)|rfl
  | true =>
   rw[hb,bgR,hm] at fin
   simp -implicitDefEqProofs only[go_sem,δ,γ,θ,QL,ho',bfT,wV (show f.policies.length≤1000 by omega)]
   refine aB (L.inn _ 0 _) (by simp -implicitDefEqProofs only[go_sem,γ]<;>rfl) ?_
   simp -implicitDefEqProofs only[go_sem,γ,QM,aN (show k<9223372036854775807 by omega)]
   refine fin _ _ rfl ?_
   (repeat' (first|exact PF.nil_le|refine PF.aA ?_ ?_))<;>first|(simp -implicitDefEqProofs only[go_sem,γ]<;>rfl)|rfl
 ·have hlt':¬ (k:Int)<(f.volumes.length:Nat):=by omega
  have:k=f.volumes.length:=by omega
  subst this
  rw[bgH (by simp)] at hO
  rw[rP]
  simp -implicitDefEqProofs only[go_sem,hlt']
  exact hK v _ _ ⟨by simp -implicitDefEqProofs only[go_sem,γ],by simp -implicitDefEqProofs only[go_sem,γ],by simp -implicitDefEqProofs only[go_sem,γ],by simp -implicitDefEqProofs only[go_sem,γ],by simp -implicitDefEqProofs only[go_sem,γ],by simp -implicitDefEqProofs only[go_sem,γ],by simp -implicitDefEqProofs only[go_sem,γ]⟩ hO
end Go.PM
namespace Go.PM
open Go Go.Na
theorem kT {f:aH} (h:¬ (f.laws.length≤4∧f.models.length≤4∧f.domains.length≤40∧f.drives.length≤24∧f.policies.length≤4∧f.volumes.length≤12)):mK f=false:=by
 rw[← Bool.not_eq_true]
 intro hs
 simp only[mK,bgP,decide_eq_true_eq] at hs
 omega
theorem aAZ {f:aH} (h:f.laws.length≤4∧f.models.length≤4∧f.domains.length≤40∧f.drives.length≤24∧f.policies.length≤4∧f.volumes.length≤12):mK f=within f.extent 1 4:=by
 obtain⟨h1,h2,h3,h4,h5,h6⟩:=h
 simp[mK,h1,h2,h3,h4,h5,h6]
theorem fG {t:Nat} {n m:Int} {F:PF} {H:PH} (h:F t=some (.int .i64 n)) (e:n=m):aX [.tmp t] (bY (.int .i64 m)) .ret F H:=by
 subst e
 exact aW (.inr rfl) .nil (vs:=[.int .i64 n]) (by rw[jK,lL,h,nB]) PH.nil_le ⟨.refl _,rfl⟩
def FA (f:aH):Int:=if dE f then 0 else 1
theorem aMR {f:aH} (h:dE f=false):FA f=1:=by rw[FA,h]; rfl
theorem qJ {C:Ctx} {F:PF} {H:PH} {name t s:Nat} {v r:PV} {rows:List (List PV)} {d:Option Nat} {K:PF→PH→Prop} (h:aI C name [.sl s rows] .nil (aL r)) (hO:bB H s v rows) (ht:F t=some v)
  (hK:∀ (F1:PF) (H1:PH),(∀ i u,F i=some u→Pure u→F1 i=some u)→K (F1.put d r) H1):fZ C name [.tmp t] [] d K F H:=by
 rcases hO with ⟨rfl,rfl⟩ | ⟨q,rs,rfl,h1,h2,h3⟩
 ·refine aB (h.aLZ (.inl ⟨rfl,rfl⟩)) (by rw[uH,TH,ht,LM]) ?_
  exact hK F H fun i u hi _=>hi
 ·rw[← h3] at h
  refine nE (k:=rows.length) h ht h1 h2 (hK _ _ fun i u hi hp=>?_)
  rw[pS,hi,bhC,hp q s rs]
theorem Seen.pure {s:Nat} {v:PV} {rows:List (List PV)} (h:Seen s v rows):Pure v:=by
 rcases h with ⟨_,rfl⟩ | rfl
 ·exact fun _ _ _=>rfl
 ·exact fun _ _ _=>rfl
def bI (b:Bool):Int:=if b then 0 else 1
abbrev MK (f:aH):List (List UInt8):=(f.domains.drop 1).map cK.name++f.drives.map cO.name
def rN (f:aH):Bool:=distinct (f.laws.map cL.name)&&distinct (f.models.map cS.name)&&distinct (MK f)&&distinct (f.policies.map cM.name)&&distinct (f.volumes.map fI.name)
structure Small (f:aH):Prop where
 laws:f.laws.length≤4
 models:f.models.length≤4
 domains:f.domains.length≤40
 drives:f.drives.length≤24
 policies:f.policies.length≤4
 volumes:f.volumes.length≤12
theorem wD {C:Ctx} (L:iD C) {v:PV} {l:List (List UInt8)} (h:Seen 1 v (eC l)) (hl:l.length≤1000):aI C 110 [v] .nil (aL (.bool (distinct l))) :=
 (L.uniq l (show l.length≤9223372036854775807 by omega)).aLZ h
theorem aUJ {C:Ctx} (L:iD C) (f:aH) (hs:Small f) (w3 w4 w5 w6 w7:PV) (ok:Bool) (F:PF) (H:PH) (hv:iP F f w3 w4 w5 w6 w7 ok)
  (h3:Seen 1 w3 (eC (f.laws.map cL.name))) (h4:Seen 1 w4 (eC (f.models.map cS.name))) (h5:Seen 1 w5 (eC (MK f))) (h6:Seen 1 w6 (eC (f.policies.map cM.name))) (h7:bB H 1 w7 (eC (f.volumes.map fI.name))) :
  aD.wp C (.seq (.seq (.region uO) (.cond (.tmp 243) (.seq (.region kY) .ret) .skip)) (.seq (.region BW) .ret)) (aX [.tmp 2] (bY (.int .i64 (bI (ok&&rN f))))) F H:=by
 obtain⟨s1,s2,s3,s4,s5,s6⟩:=hs
 have l3:(f.laws.map cL.name).length≤1000:=by simp; omega
 have l4:(f.models.map cS.name).length≤1000:=by simp; omega
 have l5:(MK f).length≤1000:=by simp; omega
 have l6:(f.policies.map cM.name).length≤1000:=by simp; omega
 have l7:(f.volumes.map fI.name).length≤9223372036854775807:=by simp; omega
 cases ok with
 | false =>
  simp -implicitDefEqProofs only[go_sem,γ,uO,hv.a8,kY]
  exact fG rfl rfl
 | true =>
  simp -implicitDefEqProofs only[go_sem,γ,uO,hv.a8,hv.a3]
  refine aB (wD L h3 l3) rfl ?_
  unfold rN
  cases c1:distinct (f.laws.map cL.name) with
  | false =>
   simp -implicitDefEqProofs only[go_sem,γ,reduceCtorEq,kY,bgM]
   exact fG rfl rfl
  | true =>
   simp -implicitDefEqProofs only[go_sem,γ,reduceCtorEq,hv.a4,bgB]
   refine aB (wD L h4 l4) rfl ?_
   cases c2:distinct (f.models.map cS.name) with
   | false =>
    simp -implicitDefEqProofs only[go_sem,γ,reduceCtorEq,kY,bgM]
    exact fG rfl rfl
   | true =>
    simp -implicitDefEqProofs only[go_sem,γ,reduceCtorEq,hv.a5,bgB]
    refine aB (wD L h5 l5) rfl ?_
    cases c3:distinct (MK f) with
    | false =>
     simp -implicitDefEqProofs only[go_sem,γ,reduceCtorEq,kY,bgM]
     exact fG rfl rfl
    | true =>
     simp -implicitDefEqProofs only[go_sem,γ,reduceCtorEq,hv.a6,bgB]
     refine aB (wD L h6 l6) rfl ?_
     cases c4:distinct (f.policies.map cM.name) with
     | false =>
      simp -implicitDefEqProofs only[go_sem,γ,reduceCtorEq,kY,bgM]
      exact fG rfl rfl
     | true =>
      simp -implicitDefEqProofs only[go_sem,γ,reduceCtorEq,hv.a7,bgB]
      refine qJ (L.uniq _ l7) h7 rfl fun F1 H1 hp=>?_
      have g:F1 239=some (.bool false):=hp 239 _ rfl fun _ _ _=>rfl
      cases c5:distinct (f.volumes.map fI.name) with
      | false =>
       simp -implicitDefEqProofs only[go_sem,γ,reduceCtorEq,kY,bgM,g]
       exact fG rfl rfl
      | true =>
       simp -implicitDefEqProofs only[go_sem,γ,reduceCtorEq,BW,bgB,g]
       exact fG rfl rfl
abbrev abP (b:Bool):cC:=aX [.tmp 2] (bY (.int .i64 (bI b)))
def akD:aD:=.seq (.seq (.region QK) (.block 10 (.loop BV))) (.seq (.seq (.region uO) (.cond (.tmp 243) (.seq (.region kY) .ret) .skip)) (.seq (.region BW) .ret))
def akC:aD:=.seq (.seq (.region QH) (.block 8 (.loop BU))) akD
def akB:aD:=.seq (.seq (.region QF) (.block 6 (.loop BT))) akC
def akA:aD:=.seq (.seq (.region QE) (.block 4 (.loop BS))) akB
def ajZ:aD:=.seq (.seq (.region QC) (.block 2 (.loop BR))) akA
def aMQ:aD:=.seq (.seq (.region ZX) (.block 0 (.loop BQ))) ajZ
theorem a0B {C:Ctx} (L:iD C) (f:aH) (hs:Small f) (w3 w4 w5 w6:PV) (ok:Bool) (F:PF) (H:PH) (hv:iP F f w3 w4 w5 w6 .nils ok)
  (h3:Seen 1 w3 (eC (f.laws.map cL.name))) (h4:Seen 1 w4 (eC (f.models.map cS.name))) (h5:Seen 1 w5 (eC (MK f))) (h6:bB H 1 w6 (eC (f.policies.map cM.name))) :
  aD.wp C akD (abP (ok&&f.volumes.all (lN f)&&rN f)) F H:=by
 unfold akD
 simp -implicitDefEqProofs only[go_sem,γ,QK,hv.a1,bfT]
 refine nF h6 fun v1 hv1 F1 H1 ht hp=>?_
 refine aJX L f hs.volumes hs.policies ok w3 w4 w5 v1 _ F1 H1 ⟨hp 1 _ (by simp -implicitDefEqProofs only[go_sem,γ,hv.a1]) fun _ _ _=>rfl,hp 3 _ (by simp -implicitDefEqProofs only[go_sem,γ,hv.a3]) h3.pure,hp 4 _ (by simp -implicitDefEqProofs only[go_sem,γ,hv.a4]) h4.pure,hp 5 _ (by simp -implicitDefEqProofs only[go_sem,γ,hv.a5]) h5.pure,ht 6 (by simp -implicitDefEqProofs only[go_sem,γ,hv.a6]),hp 7 _ (by simp -implicitDefEqProofs only[go_sem,γ,hv.a7]) fun _ _ _=>rfl,hp 8 _ (by simp -implicitDefEqProofs only[go_sem,γ,hv.a8]) fun _ _ _=>rfl⟩
  (hp 195 _ rfl fun _ _ _=>rfl) (hp 196 _ rfl fun _ _ _=>rfl) (hp 197 _ rfl fun _ _ _=>rfl) fun v F' H' hv' hO=>?_
 have e:=aUJ L f hs w3 w4 w5 v1 v _ F' H' hv' h3 h4 h5 hv1 hO
 simp only[aD.wp,go_sem] at e
 simp -implicitDefEqProofs only[go_sem]
 exact e
theorem a0A {C:Ctx} (L:iD C) (f:aH) (hf:f.Ok) (hs:Small f) (w3 w4 w5:PV) (ok:Bool) (F:PF) (H:PH) (hv:iP F f w3 w4 w5 .nils .nils ok)
  (h3:Seen 1 w3 (eC (f.laws.map cL.name))) (h4:Seen 1 w4 (eC (f.models.map cS.name))) (h5:bB H 1 w5 (eC (MK f))) :
  aD.wp C akC (abP (ok&&f.policies.all (hJ f.models.length)&&f.volumes.all (lN f)&&rN f)) F H:=by
 unfold akC
 simp -implicitDefEqProofs only[go_sem,δ,γ,θ,QH,hv.a1,bfT]
 refine nF h5 fun v1 hv1 F1 H1 ht hp=>?_
 refine aJW L f hf hs.policies hs.models ok w3 w4 v1 .nils _ F1 H1 ⟨hp 1 _ (by simp -implicitDefEqProofs only[go_sem,γ,hv.a1]) fun _ _ _=>rfl,hp 3 _ (by simp -implicitDefEqProofs only[go_sem,γ,hv.a3]) h3.pure,hp 4 _ (by simp -implicitDefEqProofs only[go_sem,γ,hv.a4]) h4.pure,ht 5 (by simp -implicitDefEqProofs only[go_sem,γ,hv.a5]),hp 6 _ (by simp -implicitDefEqProofs only[go_sem,γ,hv.a6]) fun _ _ _=>rfl,hp 7 _ (by simp -implicitDefEqProofs only[go_sem,γ,hv.a7]) fun _ _ _=>rfl,hp 8 _ (by simp -implicitDefEqProofs only[go_sem,γ,hv.a8]) fun _ _ _=>rfl⟩
  (hp 174 _ rfl fun _ _ _=>rfl) (hp 175 _ rfl fun _ _ _=>rfl) (hp 176 _ rfl fun _ _ _=>rfl) fun v F' H' hv' hO=>?_
 simp -implicitDefEqProofs only[go_sem]
 exact a0B L f hs w3 w4 v1 v _ F' H' hv' h3 h4 hv1 hO
theorem aZZ {C:Ctx} (L:iD C) (f:aH) (hf:f.Ok) (hs:Small f) (w3 w4 w5:PV) (ok:Bool) (F:PF) (H:PH) (hv:iP F f w3 w4 w5 .nils .nils ok)
  (h3:Seen 1 w3 (eC (f.laws.map cL.name))) (h4:Seen 1 w4 (eC (f.models.map cS.name))) (h5:bB H 1 w5 (eC ((f.domains.drop 1).map cK.name))) :
  aD.wp C akB (abP (ok&&f.drives.all (iH f)&&f.policies.all (hJ f.models.length)&&f.volumes.all (lN f)&&rN f)) F H:=by
 unfold akB
 simp -implicitDefEqProofs only[go_sem,δ,γ,θ,QF,hv.a1,bfT]
 refine aJV L f ((f.domains.drop 1).map cK.name) (by have:=hs.domains; simp; omega) hs.drives hs.models hs.domains ok w3 w4 w5 .nils .nils _ _ H ⟨by simp -implicitDefEqProofs only[go_sem,γ,hv.a1],by simp -implicitDefEqProofs only[go_sem,γ,hv.a3],by simp -implicitDefEqProofs only[go_sem,γ,hv.a4],by simp -implicitDefEqProofs only[go_sem,γ,hv.a5],by simp -implicitDefEqProofs only[go_sem,γ,hv.a6],by simp -implicitDefEqProofs only[go_sem,γ,hv.a7],by simp -implicitDefEqProofs only[go_sem,γ,hv.a8]⟩ h5
  rfl rfl rfl fun v F' H' hv' hO=>?_
 simp -implicitDefEqProofs only[go_sem]
 exact a0A L f hf hs w3 w4 v _ F' H' hv' h3 h4 hO
theorem aZY {C:Ctx} (L:iD C) (f:aH) (hf:f.Ok) (hs:Small f) (hd:0<f.domains.length) (w3 w4:PV) (ok:Bool) (F:PF) (H:PH) (hv:iP F f w3 w4 .nils .nils .nils ok)
  (h3:Seen 1 w3 (eC (f.laws.map cL.name))) (h4:bB H 1 w4 (eC (f.models.map cS.name))) :
  aD.wp C akA (abP (ok&&f.drives.all (iH f)&&f.policies.all (hJ f.models.length)&&f.volumes.all (lN f)&&rN f)) F H:=by
 unfold akA
 have hsl:(1:Int)≤(f.domains.length:Nat):=by omega
 have hsd:=hs.domains
 have hdrop:((f.domains.map cK.cells).take f.domains.length).drop 1=(f.domains.drop 1).map cK.cells:=by
  rw[bgH (by simp),List.map_drop]
 simp -implicitDefEqProofs only[go_sem,κ,ν,δ,γ,θ,reduceCtorEq,QE,hv.a1,bfT,hsl,Int.toNat_natCast,hdrop]
 refine nF h4 fun v1 hv1 F1 H1 ht hp=>?_
 refine aJU L f (f.domains.drop 1) (by simp; omega) ok w3 v1 .nils .nils _ F1 H1 ⟨hp 1 _ (by simp -implicitDefEqProofs only[go_sem,γ,hv.a1]) fun _ _ _=>rfl,hp 3 _ (by simp -implicitDefEqProofs only[go_sem,γ,hv.a3]) h3.pure,ht 4 (by simp -implicitDefEqProofs only[go_sem,γ,hv.a4]),hp 5 _ (by simp -implicitDefEqProofs only[go_sem,γ,hv.a5]) fun _ _ _=>rfl,hp 6 _ (by simp -implicitDefEqProofs only[go_sem,γ,hv.a6]) fun _ _ _=>rfl,hp 7 _ (by simp -implicitDefEqProofs only[go_sem,γ,hv.a7]) fun _ _ _=>rfl,hp 8 _ (by simp -implicitDefEqProofs only[go_sem,γ,hv.a8]) fun _ _ _=>rfl⟩
  (hp 119 _ rfl fun _ _ _=>rfl) (hp 120 _ rfl fun _ _ _=>rfl) (hp 121 _ rfl fun _ _ _=>rfl) fun v F' H' hv' hO=>?_
 simp -implicitDefEqProofs only[go_sem]
 exact aZZ L f hf hs w3 v1 v _ F' H' hv' h3 hv1 hO
theorem aZX {C:Ctx} (L:iD C) (f:aH) (hf:f.Ok) (hs:Small f) (hd:0<f.domains.length) (w3:PV) (ok:Bool) (F:PF) (H:PH) (hv:iP F f w3 .nils .nils .nils .nils ok)
  (h3:bB H 1 w3 (eC (f.laws.map cL.name))) :
  aD.wp C ajZ (abP (ok&&f.models.all (jW f)&&f.drives.all (iH f)&&f.policies.all (hJ f.models.length)&&f.volumes.all (lN f)&&rN f)) F H:=by
 unfold ajZ
 simp -implicitDefEqProofs only[go_sem,δ,γ,θ,QC,hv.a1,bfT]
 refine nF h3 fun v1 hv1 F1 H1 ht hp=>?_
 refine aJT L f hs.models hs.laws ok v1 .nils .nils .nils _ F1 H1 ⟨hp 1 _ (by simp -implicitDefEqProofs only[go_sem,γ,hv.a1]) fun _ _ _=>rfl,ht 3 (by simp -implicitDefEqProofs only[go_sem,γ,hv.a3]),hp 4 _ (by simp -implicitDefEqProofs only[go_sem,γ,hv.a4]) fun _ _ _=>rfl,hp 5 _ (by simp -implicitDefEqProofs only[go_sem,γ,hv.a5]) fun _ _ _=>rfl,hp 6 _ (by simp -implicitDefEqProofs only[go_sem,γ,hv.a6]) fun _ _ _=>rfl,hp 7 _ (by simp -implicitDefEqProofs only[go_sem,γ,hv.a7]) fun _ _ _=>rfl,hp 8 _ (by simp -implicitDefEqProofs only[go_sem,γ,hv.a8]) fun _ _ _=>rfl⟩
  (hp 85 _ rfl fun _ _ _=>rfl) (hp 86 _ rfl fun _ _ _=>rfl) (hp 87 _ rfl fun _ _ _=>rfl) fun v F' H' hv' hO=>?_
 simp -implicitDefEqProofs only[go_sem]
 exact aZY L f hf hs hd v1 v _ F' H' hv' hv1 hO
theorem aZW {C:Ctx} (L:iD C) (f:aH) (hf:f.Ok) (hs:Small f) (hd:0<f.domains.length) (F:PF) (H:PH) (hv:iP F f .nils .nils .nils .nils .nils true) :
  aD.wp C aMQ (abP (f.laws.all oI&&f.models.all (jW f)&&f.drives.all (iH f)&&f.policies.all (hJ f.models.length)&&f.volumes.all (lN f)&&rN f)) F H:=by
 unfold aMQ
 simp -implicitDefEqProofs only[go_sem,δ,γ,θ,ZX,hv.a1,bfT]
 refine aJS L f hf hs.laws .nils .nils .nils .nils _ _ H ⟨by simp -implicitDefEqProofs only[go_sem,γ,hv.a1],by simp -implicitDefEqProofs only[go_sem,γ,hv.a3],by simp -implicitDefEqProofs only[go_sem,γ,hv.a4],by simp -implicitDefEqProofs only[go_sem,γ,hv.a5],by simp -implicitDefEqProofs only[go_sem,γ,hv.a6],by simp -implicitDefEqProofs only[go_sem,γ,hv.a7],by simp -implicitDefEqProofs only[go_sem,γ,hv.a8]⟩ rfl rfl rfl fun v F' H' hv' hO=>?_
 simp -implicitDefEqProofs only[go_sem]
 exact aZX L f hf hs hd v _ F' H' hv' hO
theorem aZU {C:Ctx} (L:iD C) (f:aH) (hf:f.Ok):HH.wp C (aX aoM.res (bY (.int .i64 (FA f)))) (PF.args [.agg f.cells]) .nil:=by
 have he:dE f=(mK f&&lP f&&(f.laws.all oI&&f.models.all (jW f)&&f.drives.all (iH f)&&f.policies.all (hJ f.models.length)&&f.volumes.all (lN f))&&rN f):=rfl
 simp -implicitDefEqProofs only[go_sem,δ,γ,θ,HH,aDZ,aEA,aoM]
 refine aB (L.inn f.extent 1 4) rfl ?_
 have bad:∀ (F:PF) (H:PH),dE f=false→F 2=some (.int .i64 1)→aX [.tmp 2] (bY (.int .i64 (FA f))) .ret F H:=fun F H h1 h2=>fG h2 (aMR h1).symm
 cases e0:within f.extent 1 4 with
 | false =>
  have:mK f=false:=by simp[mK,e0]
  simp -implicitDefEqProofs only[go_sem,γ,bgM,mV]
  exact bad _ _ (by rw[he,this]; simp only[bgG]) rfl
 | true =>
  by_cases s1:f.laws.length≤4
  ·have s1':¬ ((f.laws.length:Nat):Int)>4:=by omega
   by_cases s2:f.models.length≤4
   ·have s2':¬ ((f.models.length:Nat):Int)>4:=by omega
    by_cases s3:f.domains.length≤40
    ·have s3':¬ ((f.domains.length:Nat):Int)>40:=by omega
     by_cases s4:f.drives.length≤24
     ·have s4':¬ ((f.drives.length:Nat):Int)>24:=by omega
      by_cases s5:f.policies.length≤4
      ·have s5':¬ ((f.policies.length:Nat):Int)>4:=by omega
       by_cases s6:f.volumes.length≤12
       ·have s6':¬ ((f.volumes.length:Nat):Int)>12:=by omega
        have hsz:=aAZ ⟨s1,s2,s3,s4,s5,s6⟩
        rw[e0] at hsz
        simp -implicitDefEqProofs only[go_sem,δ,γ,θ,reduceCtorEq,bgB,bfT,s1',s2',s3',s4',s5',s6']
        refine aB (L.doms f hf) rfl ?_
        cases e1:lP f with
        | false =>
         simp -implicitDefEqProofs only[go_sem,γ,reduceCtorEq,bgM,mV]
         exact bad _ _ (by rw[he,e1]; simp only[bhK,bgG]) rfl
        | true =>
         have hd:0<f.domains.length:=by
          rcases biB f.domains.length with h | h
          ·have:f.domains=[]:=List.eq_nil_of_length_eq_zero h
           rw[lP,this] at e1
           cases e1
          ·exact h
         have hz:FA f=bI (f.laws.all oI&&f.models.all (jW f)&&f.drives.all (iH f)&&f.policies.all (hJ f.models.length)&&f.volumes.all (lN f)&&rN f):=by
          rw[FA,he,hsz,e1]; rfl
         rw[hz]
         simp -implicitDefEqProofs only[go_sem,γ,reduceCtorEq,bgB,aEB,aEC]
         have e:=fun F H hv=>aZW L f hf ⟨s1,s2,s3,s4,s5,s6⟩ hd F H hv
         simp only[aMQ,ajZ,akA,akB,akC,akD,aD.wp,go_sem] at e
         exact e _ _ ⟨by simp -implicitDefEqProofs only[go_sem,γ],by simp -implicitDefEqProofs only[go_sem,γ],by simp -implicitDefEqProofs only[go_sem,γ],by simp -implicitDefEqProofs only[go_sem,γ],by simp -implicitDefEqProofs only[go_sem,γ],by simp -implicitDefEqProofs only[go_sem,γ],by simp -implicitDefEqProofs only[go_sem,γ]⟩
       ·have s6':((f.volumes.length:Nat):Int)>12:=by omega
        simp -implicitDefEqProofs only[go_sem,δ,γ,θ,reduceCtorEq,bgB,bfT,s1',s2',s3',s4',s5',s6',mV]
        exact bad _ _ (by rw[he,kT (by omega)]; simp only[bgG]) rfl
      ·have s5':((f.policies.length:Nat):Int)>4:=by omega
       simp -implicitDefEqProofs only[go_sem,δ,γ,θ,reduceCtorEq,bgB,bfT,s1',s2',s3',s4',s5',mV]
       exact bad _ _ (by rw[he,kT (by omega)]; simp only[bgG]) rfl
     ·have s4':((f.drives.length:Nat):Int)>24:=by omega
      simp -implicitDefEqProofs only[go_sem,δ,γ,θ,reduceCtorEq,bgB,bfT,s1',s2',s3',s4',mV]
      exact bad _ _ (by rw[he,kT (by omega)]; simp only[bgG]) rfl
    ·have s3':((f.domains.length:Nat):Int)>40:=by omega
     simp -implicitDefEqProofs only[go_sem,δ,γ,θ,reduceCtorEq,bgB,bfT,s1',s2',s3',mV]
     exact bad _ _ (by rw[he,kT (by omega)]; simp only[bgG]) rfl
   ·have s2':((f.models.length:Nat):Int)>4:=by omega
    simp -implicitDefEqProofs only[go_sem,δ,γ,θ,reduceCtorEq,bgB,bfT,s1',s2',mV]
    exact bad _ _ (by rw[he,kT (by omega)]; simp only[bgG]) rfl
  ·have s1':((f.laws.length:Nat):Int)>4:=by omega
   simp -implicitDefEqProofs only[go_sem,δ,γ,θ,reduceCtorEq,bgB,bfT,s1',mV]
   exact bad _ _ (by rw[he,kT (by omega)]; simp only[bgG]) rfl
end Go.PM
namespace Go.PM
open Go Go.Na
def lvl (f:aH) (i:Nat):Int:=(f.domains.map cK.level).getD i 0
def par (f:aH) (i:Nat):Int:=(f.domains.map cK.parent).getD i 0
def SA (f:aH) (i:Nat):Nat:=(par f i).toNat
def fF (f:aH) (d:Nat):Nat:=((f.drives.map cO.machine).getD d 0).toNat
def mdl (f:aH) (d:Nat):Nat:=((f.drives.map cO.model).getD d 0).toNat
def ext (f:aH) (d:Nat):Int:=(f.models.map cS.extents).getD (mdl f d) 0
def JC (f:aH) (v:Nat):Nat:=((f.volumes.map fI.policy).getD v 0).toNat
def a7B:cM:=⟨[],0,0,0,0,0,0,0,0,[],[],⟨false,[],[]⟩,⟨false,[],[]⟩⟩
def gC (f:aH) (v:Nat):cM:=f.policies.getD (JC f v) a7B
def upN (f:aH):Nat→Nat→Nat
 | 0,i=>i
 | k+1,i=>SA f (upN f k i)
theorem getD_at {α β:Type} {l:List α} {g:α→β} {i:Nat} {b:β} (h:i<l.length):(l.map g).getD i b=g l[i]:=by
 simp[bgT,h]
structure VF (f:aH):Prop where
 small:Small f
 root:0<f.domains.length∧lvl f 0=0∧par f 0=-1
 dom:∀ i,0<i→i<f.domains.length→0≤par f i∧SA f i<i∧lvl f (SA f i)=lvl f i-1∧1≤lvl f i∧lvl f i≤4
 drive:∀ d (h:d<f.drives.length),0≤(f.drives[d]).model∧mdl f d<f.models.length∧0≤(f.drives[d]).machine∧fF f d<f.domains.length∧lvl f (fF f d)=4
 policy:∀ p∈f.policies,1≤p.k∧p.k≤6∧0≤p.m∧p.m≤4∧p.k+p.m≤8∧p.s0=0∧(∀ l,0≤p.spread l∧p.spread l≤8)∧∀ m∈p.models,0≤m∧m<f.models.length
 volume:∀ v (h:v<f.volumes.length),0≤(f.volumes[v]).policy∧JC f v<f.policies.length
 model:∀ m∈f.models,1≤m.extents∧m.extents≤16
theorem a1I {p:cM} {n:Nat} (h:hJ n p=true):∀ m∈p.models,0≤m∧m<n:=by
 intro m hm
 simp only[hJ,bgP] at h
 obtain⟨i,hi,rfl⟩:=bhM hm
 have:=bhE.1 h.2 i (bhW.2 hi)
 rw[bgP] at this
 have h1:=within_iff.1 this.1
 simp only[bgT,bgF hi,biM] at h1
 omega
theorem ZG {x:Int} (h1:1≤x) (h2:x≤4):IntKind.i64.wrap (x-1)=x-1:=wrap_i64 (by omega) (by omega)
theorem VF.of {f:aH} (h:dE f=true):VF f:=by
 simp only[dE,bgP] at h
 obtain⟨⟨⟨hs,hd⟩,⟨⟨⟨hlaw,hmod⟩,hdrv⟩,hpol⟩,hvol⟩,-⟩:=h
 simp only[mK,bgP,decide_eq_true_eq] at hs
 obtain⟨⟨⟨⟨⟨⟨s0,s1⟩,s2⟩,s3⟩,s4⟩,s5⟩,s6⟩:=hs
 cases hdm:f.domains with
 | nil=>rw[lP,hdm] at hd; cases hd
 | cons r t =>
  rw[lP,hdm] at hd
  simp only[LK,bgP,decide_eq_true_eq] at hd
  obtain⟨⟨⟨⟨⟨⟨r1,r2⟩,r3⟩,r4⟩,r5⟩,r6⟩,hall⟩:=hd
  have hlen:f.domains.length=t.length+1:=by rw[hdm]; rfl
  refine⟨⟨s1,s2,s3,s4,s5,s6⟩,⟨by omega,by rw[lvl,hdm]; exact r2,by rw[par,hdm]; exact r3⟩,?_,?_,?_,?_,?_⟩
  ·intro i h0 hi
   obtain⟨k,rfl⟩:∃ k,i=k+1:=⟨i-1,by omega⟩
   have hk:k<t.length:=by omega
   have:=bhE.1 hall k (bhW.2 hk)
   rw[bgF hk] at this
   simp only[PK,bgP,decide_eq_true_eq] at this
   obtain⟨⟨⟨⟨d1,d2⟩,d3⟩,d4⟩,d5⟩:=this
   obtain⟨p0,p1⟩:=within_iff.1 d1
   obtain⟨l1,l4⟩:=within_iff.1 d3
   have e1:par f (k+1)=(t[k]).parent:=by rw[par,hdm]; simp[bgT,hk]
   have e2:lvl f (k+1)=(t[k]).level:=by rw[lvl,hdm]; simp[bgT,hk]
   rw[ZG l1 l4] at d2
   have e3:lvl f (t[k]).parent.toNat=(t[k]).level-1:=d2
   refine⟨by rw[e1]; exact p0,?_,?_,by rw[e2]; exact l1,by rw[e2]; exact l4⟩
   ·rw[SA,e1]; omega
   ·rw[SA,e1,e2]; exact e3
  ·intro d hd
   have:=bhE.1 hdrv _ (bgA hd)
   simp only[iH,bgP,decide_eq_true_eq] at this
   obtain⟨⟨d1,d2⟩,d3⟩:=this
   have a1:=within_iff.1 d1
   have a2:=within_iff.1 d2
   have e1:mdl f d=(f.drives[d]).model.toNat:=by rw[mdl,getD_at hd]
   have e2:fF f d=(f.drives[d]).machine.toNat:=by rw[fF,getD_at hd]
   refine⟨a1.1,by rw[e1]; omega,a2.1,by rw[e2]; omega,by rw[e2]; exact d3⟩
  ·intro p hp
   have h1:=bhE.1 hpol p hp
   have h2:=a1I h1
   simp only[hJ,RW,bgP,decide_eq_true_eq,List.all_cons,List.all_nil,biN] at h1
   obtain⟨⟨⟨⟨⟨⟨⟨⟨k1,m1⟩,km⟩,q1⟩,z0⟩,sp⟩,-⟩,-⟩,-⟩:=h1
   obtain⟨g0,g1,g2,g3,g4⟩:=sp
   have b1:=within_iff.1 k1
   have b2:=within_iff.1 m1
   have b3:=within_iff.1 g0
   have b4:=within_iff.1 g1
   have b5:=within_iff.1 g2
   have b6:=within_iff.1 g3
   have b7:=within_iff.1 g4
   refine⟨b1.1,b1.2,b2.1,b2.2,km,z0,fun l=>?_,h2⟩
   unfold cM.spread
   split<;>omega
  ·intro v hv
   have:=bhE.1 hvol _ (bgA hv)
   have a1:=within_iff.1 this
   have e1:JC f v=(f.volumes[v]).policy.toNat:=by rw[JC,getD_at hv]
   exact⟨a1.1,by rw[e1]; omega⟩
  ·intro m hm
   have:=bhE.1 hmod m hm
   simp only[jW,bgP] at this
   exact within_iff.1 this.1.1
theorem YR {f:aH} (h:VF f) {d:Nat} (hd:d<f.drives.length):∀ {k:Nat},k≤4→upN f k (fF f d)<f.domains.length∧lvl f (upN f k (fF f d))=4-(k:Int)
 | 0,_=>⟨(h.drive d hd).2.2.2.1,by rw[upN,(h.drive d hd).2.2.2.2]; rfl⟩
 | k+1,hk=>by
  obtain⟨h1,h2⟩:=YR h hd (k:=k) (by omega)
  have hne:0<upN f k (fF f d):=by
   rcases biB (upN f k (fF f d)) with e | e
   ·rw[e,h.root.2.1] at h2; omega
   ·exact e
  obtain⟨g1,g2,g3,g4,g5⟩:=h.dom _ hne h1
  refine⟨by rw[upN]; omega,?_⟩
  rw[upN,g3,h2]; omega
def iE (f:aH) (d:Nat) (level:Int):Nat:=upN f (4-level.toNat) (fF f d)
def fO (f:aH) (v:Nat):Int:=(gC f v).k+(gC f v).m
end Go.PM
namespace Go.PM
open Go Go.Na
def aC (l:List Nat) (n a:Nat):Nat × Nat:=if l.length≤a∨n<2 then (0,a) else (l.getD a 0%n,a+1)
theorem bM (l:List Nat) {n:Nat} (h:0<n) (a:Nat):(aC l n a).1<n:=by
 unfold aC
 split
 ·exact h
 ·exact bgX _ h
theorem bC (l:List Nat) (n:Nat) {a:Nat} (h:a≤l.length):(aC l n a).2≤l.length:=by
 unfold aC
 split
 ·exact h
 ·simp only; omega
def eI (l:List Nat) (a:Nat):RF × Nat :=
 let x:=aC l 6 a
 let y:=aC l 8 x.2
 (mkT ((1+x.1:Nat):Int) ((1+y.1:Nat):Int),y.2)
abbrev gX:RF:=mkT 0 1
def gB (l:List Nat) (i j a:Nat):RF × Nat :=
 if j=i+1 then eI l a
 else if j=i then (gX,a)
 else let t:=aC l 3 a
  if t.1=0 then eI l t.2 else (gX,t.2)
def cQ (l:List Nat) (i a:Nat):Nat→List RF × Nat
 | 0=>([],a)
 | j+1=>let s:=cQ l i a j
  let z:=gB l i j s.2
  (s.1++[z.1],z.2)
structure wW where
 start:List RF
 exit:List RF
 rates:List (List RF)
 left:Nat
 a:Nat
def cP (l:List Nat) (n i:Nat) (s:wW):Nat × Nat:=if i+1<n then aC l (s.left+1) s.a else (s.left,s.a)
def dX (l:List Nat) (n i a:Nat):RF × Nat :=
 let e:=eI l a
 if i+1<n then (let t:=aC l 3 e.2; (if t.1=0 then gX else e.1,t.2)) else e
def eR (l:List Nat) (n a:Nat):Nat→wW
 | 0=>⟨[],[],[],8,a⟩
 | i+1=>let s:=eR l n a i
  let k:=cP l n i s
  let e:=dX l n i k.2
  let r:=cQ l i e.2 n
  ⟨s.start++[mkT (k.1:Nat) 8],s.exit++[e.1],s.rates++[r.1],s.left-k.1,r.2⟩
def nH (l:List Nat) (dZ a:Nat):cL × Nat :=
 let t:=aC l dZ a
 let s:=eR l (1+t.1) t.2 (1+t.1)
 (⟨[],s.start,s.rates,s.exit⟩,s.a)
def gV (l:List Nat) (a:Nat):Nat→List RF × Nat
 | 0=>([],a)
 | k+1=>let s:=gV l a k
  let z:=eI l s.2
  (s.1++[z.1],z.2)
abbrev bO (n:Nat):List UInt8:=Lib.decDigits n
def fJ (l:List Nat) (a:Nat):Nat→List cL × Nat
 | 0=>([],a)
 | k+1=>let s:=fJ l a k
  let z:=nH l 2 s.2
  (s.1++[{ z.1 with name:=[108,97,119]++bO k }],z.2)
def dJ (l:List Nat) (laws a:Nat):Nat→List cS × Nat
 | 0=>([],a)
 | k+1=>let s:=dJ l laws a k
  let x:=aC l 4 s.2
  let y:=aC l 8 x.2
  let z:=aC l laws y.2
  (s.1++[⟨[109]++bO k,(1+x.1:Nat),(1+y.1:Nat),(z.1:Nat)⟩],z.2)
structure GS where
 doms:List cK
 drvs:List cO
 a:Nat
def gL (l:List Nat) (mc drives domain:Nat) (s:GS):Nat→GS
 | 0=>s
 | i+1=>let s:=gL l mc drives domain s i
  if s.drvs.length<drives then
   let t:=aC l mc s.a
   { s with drvs:=s.drvs++[⟨[100]++bO s.drvs.length,(t.1:Nat),(domain:Nat)⟩],a:=t.2 }
  else s
def jB (level:Nat):UInt8:=match level with
 | 0=>45
 | 1=>115
 | 2=>114
 | 3=>107
 | _=>109
def kM (l:List Nat) (level domain:Nat) (s:GS):GS :=
 let u:=aC l 16 s.a
 let t:=aC l 3 u.2
 let k:=aC l 6 t.2
 let sh:RF × Nat:=if t.1=0 then (mkT 1 ((2+k.1:Nat):Int),k.2) else (gX,t.2)
 { s with doms:=s.doms++[⟨[jB level]++bO s.doms.length,(level:Nat),(domain:Nat),(1+u.1:Nat),sh.1⟩],a:=sh.2 }
def mU (drives:Nat) (s:GS):Bool:=decide (drives≤s.drvs.length)||decide (35≤s.doms.length)
def fA (l:List Nat) (level drives domain:Nat) (rec:Nat→GS→GS) (s:GS):Nat→GS
 | 0=>s
 | i+1=>let s:=fA l level drives domain rec s i
  if mU drives s then s else (let s':=kM l level domain s; rec (s'.doms.length-1) s')
def dV (l:List Nat) (mc drives:Nat):Nat→Nat→GS→GS
 | 0,domain,s=>let t:=aC l 2 s.a
  gL l mc drives domain { s with a:=t.2 } (1+t.1)
 | k+1,domain,s=>let t:=aC l 2 s.a
  fA l (4-k) drives domain (dV l mc drives k) { s with a:=t.2 } (if 4-k=2 then 1 else 1+t.1)
def jY:cK:=⟨[],0,-1,0,gX⟩
def fK (l:List Nat) (a:Nat):Int × Nat :=
 let t:=aC l 3 a
 let k:=aC l 3 t.2
 if t.1=0 then ((1+k.1:Nat),k.2) else (0,t.2)
def jR (l:List Nat) (models i a:Nat):cM × Nat :=
 let k:=aC l 2 a
 let m:=aC l 3 k.2
 let h:=aC l 4 m.2
 let q:=aC l (m.1+1) h.2
 let r:=gV l q.2 (max m.1 1)
 let g:=aC l 9 r.2
 let s1:=fK l g.2
 let s2:=fK l s1.2
 let s3:=fK l s2.2
 let s4:=fK l s3.2
 let f:=aC l models s4.2
 let b:=aC l 2 f.2
 let ms:List Int × Nat:=if 1<models then (if b.1=0 then ([(f.1:Int),1-(f.1:Int)],b.2) else ([(f.1:Int)],b.2)) else ([(f.1:Int)],f.2)
 (⟨[112]++bO i,(1+k.1:Nat),(m.1:Nat),(1+k.1+q.1:Nat),0,s1.1,s2.1,s3.1,s4.1,ms.1,r.1,mkT (g.1:Nat) 8,mkT ((1+h.1:Nat):Int) 1⟩,ms.2)
def cT (l:List Nat) (models a:Nat):Nat→List cM × Nat
 | 0=>([],a)
 | k+1=>let s:=cT l models a k
  let z:=jR l models k s.2
  (s.1++[z.1],z.2)
def dL (l:List Nat) (pols a:Nat):Nat→List fI × Nat
 | 0=>([],a)
 | k+1=>let s:=dL l pols a k
  let z:=aC l pols s.2
  (s.1++[⟨[118]++bO k,(z.1:Nat)⟩],z.2)
def fC (l:List Nat) (drives volumes a:Nat):aH × Nat :=
 let e:=aC l 2 a
 let lw:=aC l 2 e.2
 let laws:=fJ l lw.2 (1+lw.1)
 let md:=aC l 2 laws.2
 let models:=dJ l (1+lw.1) md.2 (1+md.1)
 let g:=dV l (1+md.1) drives 4 0 ⟨[jY],[],models.2⟩
 let pl:=aC l 2 g.a
 let pols:=cT l (1+md.1) pl.2 (1+pl.1)
 let vo:=aC l (volumes+1) pols.2
 let vols:=dL l (1+pl.1) vo.2 vo.1
 (⟨(1+e.1:Nat),laws.1,models.1,g.doms,g.drvs,pols.1,vols.1⟩,vols.2)
def jX (l:List Nat) (a:Nat):Nat→List Int × Nat
 | 0=>([],a)
 | k+1=>let s:=jX l a k
  let z:=aC l 7 s.2
  (s.1++[(z.1:Int)-1],z.2)
def lC (l:List Nat) (f:aH) (a:Nat):List Int × Nat :=
 let t:=aC l 4 a
 if t.1=0 then ([],t.2) else jX l t.2 f.drives.length
def lS (l:List Nat) (drives at_ i a:Nat):Int × Nat :=
 if drives=0 then (-1,a) else
  let t:=aC l 6 a
  if t.1=0 then (let z:=aC l drives t.2; ((z.1:Int),z.2))
  else if t.1=1 then (let z:=aC l (drives+1) t.2; ((z.1:Int)-1,z.2))
  else (((at_+i)%drives:Nat),t.2)
def gW (l:List Nat) (drives at_ a:Nat):Nat→List Int × Nat
 | 0=>([],a)
 | i+1=>let s:=gW l drives at_ a i
  let z:=lS l drives at_ i s.2
  (s.1++[z.1],z.2)
def cG (l:List Nat) (f:aH) (a:Nat):Nat→List (List Int) × Nat
 | 0=>([],a)
 | v+1=>let s:=cG l f a v
  let t:=aC l (f.drives.length+1) s.2
  let r:=gW l f.drives.length t.1 t.2 (fO f v).toNat
  (s.1++[r.1],r.2)
end Go.PM
namespace Go.PM
open Go Go.Na
theorem a0K (a b:Nat):mkT (a:Int) (b:Int)=⟨false,aG (a/bfU a b),aG (b/bfU a b)⟩:=by
 have h1:decide ((a:Int)<0)=false:=decide_eq_false (by omega)
 have h2:decide ((b:Int)<0)=false:=decide_eq_false (by omega)
 unfold mkT xJ FV.rf
 rw[h1,h2,Int.natAbs_natCast,Int.natAbs_natCast]
 rfl
structure SmF (x:RF) (p q:Nat):Prop where
 eq:x=⟨false,aG (p/bfU p q),aG (q/bfU p q)⟩
 a:p≤64
 b:q≤64
 pos:0<q
theorem SmF.mk' {a b:Nat} (ha:a≤64) (hb:b≤64) (h:0<b):SmF (mkT (a:Int) (b:Int)) a b:=⟨a0K a b,ha,hb,h⟩
theorem SmF.num {x:RF} {a b:Nat} (h:SmF x a b):val x.num=a/bfU a b:=by rw[h.eq,aY]
theorem SmF.den {x:RF} {a b:Nat} (h:SmF x a b):val x.den=b/bfU a b:=by rw[h.eq,aY]
theorem SmF.v {x:RF} {a b:Nat} (h:SmF x a b):x.v=(false,a/bfU a b,b/bfU a b):=by
 unfold RF.v
 rw[h.num,h.den,h.eq]
theorem SmF.atR {x:RF} {a b:Nat} (_:SmF x a b):a/bfU a b≤a:=biS ..
theorem SmF.alF {x:RF} {a b:Nat} (_:SmF x a b):b/bfU a b≤b:=biS ..
theorem SmF.den_pos {x:RF} {a b:Nat} (h:SmF x a b):0<b/bfU a b:=Nat.div_pos (Nat.le_of_dvd h.pos (Nat.gcd_dvd_right a b)) (Nat.gcd_pos_of_pos_right a h.pos)
theorem tQ {n:Nat} (h:n≤4096):cA n≤32:=(jQ n 32).2 (by omega)
theorem ayQ {n:Nat} (h:0<n):0<cA n:=by
 rcases biB (cA n) with e | e
 ·rw[gQ] at e; omega
 ·exact e
theorem qI {a b:Nat} (ha:a≤4096) (hb:b≤4096) (h:0<b):dH a b=true:=by
 have h1:=tQ ha
 have h2:=tQ hb
 have h3:=ayQ h
 unfold dH
 rw[decide_eq_true h3,decide_eq_true (show cA b≤4096 by omega),decide_eq_true (show cA a≤4096 by omega)]
 rfl
theorem aEI {n:Bool} {a b:Nat} (ha:a≤4096) (hb:b≤4096):jP n a b=.ok (n&&decide (a/bfU a b≠0),a/bfU a b,b/bfU a b):=by
 have h1:=tQ (biK (biS a (bfU a b)) ha)
 have h2:=tQ (biK (biS b (bfU a b)) hb)
 unfold jP
 rw[if_neg (by omega)]
theorem SmF.lim {x:RF} {a b:Nat} (h:SmF x a b):fE x=true:=by
 have h1:=h.atR
 have h2:=h.alF
 have h3:=h.den_pos
 have:=h.a
 have:=h.b
 have hn:x.neg=false:=by rw[h.eq]
 unfold fE yM
 rw[h.num,h.den,hn,qI (by omega) (by omega) h3,if_pos rfl,aEI (by omega) (by omega)]
 have e1:=biS (a/bfU a b) (bfU (a/bfU a b) (b/bfU a b))
 have e2:=biS (b/bfU a b) (bfU (a/bfU a b) (b/bfU a b))
 simp only[bgG,bgM,bgR,bgP,decide_eq_true_eq]
 exact⟨tQ (by omega),tQ (by omega)⟩
theorem SmF.lO {x:RF} {a b:Nat} (h:SmF x a b) (ha:0<a):bS x=true:=by
 unfold bS
 rw[h.num]
 exact decide_eq_true (Nat.ne_of_gt (Nat.div_pos (Nat.le_of_dvd ha (Nat.gcd_dvd_left a b)) (Nat.gcd_pos_of_pos_right a h.pos)))
theorem SmF.zero {x:RF} {b:Nat} (h:SmF x 0 b):bS x=false:=by
 unfold bS
 rw[h.num,Nat.zero_div]
 rfl
theorem SmF.one {x:RF} {a b:Nat} (h:SmF x a b) (hab:a≤b):RY x=true:=by
 have h1:=h.atR
 have h2:=h.alF
 have h3:=h.den_pos
 have:=h.a
 have:=h.b
 have hn:x.neg=false:=by rw[h.eq]
 unfold RY
 rw[h.num,h.den,hn,qI (by omega) (by omega) h3]
 have:a/bfU a b≤b/bfU a b:=Nat.div_le_div_right hab
 show (true&&decide (dD (a/bfU a b*1) (1*(b/bfU a b))≤0))=true
 rw[Nat.mul_one,Nat.one_mul,bgR]
 refine decide_eq_true ?_
 unfold dD
 split
 ·decide
 ·split
  ·omega
  ·decide
theorem SmF.ok {x:RF} {a b:Nat} (h:SmF x a b):x.Ok:=by
 have h1:=h.atR
 have h2:=h.alF
 have:=h.a
 have:=h.b
 have k1:nl (a/bfU a b)≤1:=(gM _ _).2 (by omega)
 have k2:nl (b/bfU a b)≤1:=(gM _ _).2 (by omega)
 rw[h.eq]
 refine⟨bE _,bE _,?_,?_⟩
 ·show (aG _).length≤_
  rw[bH]; omega
 ·show (aG _).length≤_
  rw[bH]; omega
theorem aYU:∀ c:Fin 9,∀ k:Fin 9,c.val+k.val≤8 →
  (c.val/bfU c.val 8*(8/bfU k.val 8)+k.val/bfU k.val 8*(8/bfU c.val 8))/bfU (c.val/bfU c.val 8*(8/bfU k.val 8)+k.val/bfU k.val 8*(8/bfU c.val 8)) (8/bfU c.val 8*(8/bfU k.val 8))=(c.val+k.val)/bfU (c.val+k.val) 8 ∧
  8/bfU c.val 8*(8/bfU k.val 8)/bfU (c.val/bfU c.val 8*(8/bfU k.val 8)+k.val/bfU k.val 8*(8/bfU c.val 8)) (8/bfU c.val 8*(8/bfU k.val 8))=8/bfU (c.val+k.val) 8:=by decide +kernel
abbrev eV (c:Nat):FV:=(false,c/bfU c 8,8/bfU c 8)
theorem MX (c:Nat):0<8/bfU c 8:=Nat.div_pos (Nat.le_of_dvd (by decide) (Nat.gcd_dvd_right c 8)) (Nat.gcd_pos_of_pos_right c (by decide))
theorem akT {c k:Nat} (h:c+k≤8):iQ (eV c) (eV k)=.ok (eV (c+k)):=by
 obtain⟨e1,e2⟩:=aYU ⟨c,by omega⟩ ⟨k,by omega⟩ h
 simp only at e1 e2
 have a1:=biS c (bfU c 8)
 have a2:=biS k (bfU k 8)
 have a3:=biS 8 (bfU c 8)
 have a4:=biS 8 (bfU k 8)
 have p1:=MX c
 have p2:=MX k
 simp only[iQ]
 rw[qI (by omega) (by omega) p1,qI (by omega) (by omega) p2,Bool.and_self,if_pos rfl,if_pos trivial]
 have b1:c/bfU c 8*(8/bfU k 8)≤8*8:=Nat.mul_le_mul (by omega) a4
 have b2:k/bfU k 8*(8/bfU c 8)≤8*8:=Nat.mul_le_mul (by omega) a3
 have b3:8/bfU c 8*(8/bfU k 8)≤8*8:=Nat.mul_le_mul a3 a4
 rw[aEI (by omega) (by omega),e1,e2]
 rfl
theorem JM:∀ (l:List Nat) (c:Nat),c+l.sum≤8→(l.map eV).foldlM iQ (eV c)=.ok (eV (c+l.sum))
 | [],c,_=>rfl
 | k::l,c,h=>by
  rw[List.sum_cons] at h
  rw[bhA,List.foldlM_cons,akT (by omega),List.sum_cons,← bhX]
  exact JM l (c+k) (by omega)
theorem aYT:eV 0=(false,0,1):=by decide +kernel
theorem aTJ:eV 8=(false,1,1):=by decide +kernel
theorem a1R (l:List Nat) (h:l.sum=8):(match oM (l.map eV) with
  | .ok (n,a,b)=>decide (uV n a b false 1 1=0)
  | .error _=>false)=true:=by
 unfold oM
 rw[← aYT,JM l 0 (by omega),bgQ,h,aTJ]
 rfl
def dig (k:Nat):List UInt8:=if k<10 then [UInt8.ofNat (48+k)] else [UInt8.ofNat (48+k/10),UInt8.ofNat (48+k%10)]
def MR:List UInt8→Nat
 | [a]=>a.toNat-48
 | [a,b]=>(a.toNat-48)*10+(b.toNat-48)
 | _=>0
theorem HJ {k:Nat} (h:k<100):bO k=dig k:=by
 unfold bO dig
 by_cases h1:k<10
 ·rw[if_pos h1]; exact Lib.decDigits_one h1
 ·rw[if_neg h1]; exact Lib.decDigits_two h1 h
theorem alH:∀ k:Fin 100,MR (dig k.val)=k.val∧(dig k.val).length≤2∧((dig k.val).all fun c=>fX c.toNat)=true:=by decide +kernel
theorem aaO {p:List UInt8} {c:UInt8} {t:List UInt8} (e:p=c::t) (hc:fY c.toNat=true) (ht:(t.all fun c=>fX c.toNat)=true) (hl:p.length≤8) {k:Nat} (hk:k<100):isName (p++bO k)=true:=by
 obtain⟨-,h2,h3⟩:=alH ⟨k,hk⟩
 simp only at h2 h3
 subst e
 rw[HJ hk]
 show (decide ((c::t++dig k).length≤16)&&fY c.toNat&&(c::t++dig k).all fun c=>fX c.toNat)=true
 have hi:fX c.toNat=true:=by unfold fX; rw[hc]; rfl
 rw[decide_eq_true (by rw[bfW]; omega),hc,List.all_append,h3,List.all_cons,ht,hi]
 rfl
theorem MW {l:List (List UInt8)} (h1:∀ x∈l,isName x=true) (h2:l.Nodup):distinct l=true:=by
 unfold distinct
 rw[bhE]
 intro i hi
 rw[bhW] at hi
 have e:l.getD i []=l[i]:=by simp[bgT,hi]
 rw[e,h1 _ (bgA hi),bgR]
 have:¬ l[i]∈l.take i:=by
  intro hm
  obtain⟨j,hj,e⟩:=bhM hm
  rw[bgJ] at hj
  rw[List.getElem_take] at e
  have:=(List.nodup_iff_pairwise_ne.1 h2)
  rw[List.pairwise_iff_getElem] at this
  exact this j i (by omega) hi (by omega) e
 simp[this]
theorem II {l:List (List UInt8)} {g:List UInt8→Nat} (h:∀ i (hi:i<l.length),g l[i]=i):l.Nodup:=by
 rw[List.nodup_iff_pairwise_ne,List.pairwise_iff_getElem]
 intro i j hi hj hlt e
 have h1:=h i hi
 have h2:=h j hj
 rw[e] at h1
 omega
theorem pN {l:List (List UInt8)} {p:List UInt8} {c:UInt8} {t:List UInt8} (e:p=c::t) (hc:fY c.toNat=true) (ht:(t.all fun c=>fX c.toNat)=true) (hl:p.length≤8) (hn:l.length≤100) (h:∀ i (hi:i<l.length),l[i]=p++bO i):distinct l=true:=by
 refine MW ?_ (II (g:=fun s=>MR (s.drop p.length)) ?_)
 ·intro x hx
  obtain⟨i,hi,rfl⟩:=bhM hx
  rw[h i hi]
  exact aaO e hc ht hl (by omega)
 ·intro i hi
  rw[h i hi]
  simp only[List.drop_left]
  rw[HJ (by omega)]
  exact (alH ⟨i,by omega⟩).1
end Go.PM
namespace Go.PM
open Go Go.Na
structure pE (x:RF):Prop where
 lim:fE x=true
 ok:x.Ok
theorem SmF.o {x:RF} {a b:Nat} (h:SmF x a b):pE x:=⟨h.lim,h.ok⟩
theorem mN:SmF gX 0 1:=SmF.mk' (a:=0) (b:=1) (by decide) (by decide) (by decide)
theorem oG (l:List Nat) (a:Nat):pE (eI l a).1∧bS (eI l a).1=true:=by
 have h1:=bM l (show 0<6 by decide) a
 have h2:=bM l (show 0<8 by decide) (aC l 6 a).2
 have:=SmF.mk' (a:=1+(aC l 6 a).1) (b:=1+(aC l 8 (aC l 6 a).2).1) (by omega) (by omega) (by omega)
 exact⟨this.o,this.lO (by omega)⟩
theorem aTB (l:List Nat) (i j a:Nat):pE (gB l i j a).1∧(j=i→bS (gB l i j a).1=false)∧(j=i+1→bS (gB l i j a).1=true):=by
 unfold gB
 by_cases h1:j=i+1
 ·rw[if_pos h1]
  exact⟨(oG l a).1,fun h=>by omega,fun _=>(oG l a).2⟩
 ·rw[if_neg h1]
  by_cases h2:j=i
  ·rw[if_pos h2]
   exact⟨mN.o,fun _=>mN.zero,fun h=>absurd h h1⟩
  ·rw[if_neg h2]
   simp only
   split
   ·exact⟨(oG l _).1,fun h=>absurd h h2,fun h=>absurd h h1⟩
   ·exact⟨mN.o,fun h=>absurd h h2,fun h=>absurd h h1⟩
theorem aHA (l:List Nat) (i a:Nat):∀ n,(cQ l i a n).1.length=n∧∀ j (hj:j<(cQ l i a n).1.length),pE (cQ l i a n).1[j]∧(j=i→bS (cQ l i a n).1[j]=false)∧(j=i+1→bS (cQ l i a n).1[j]=true)
 | 0=>⟨rfl,fun j hj=>absurd hj (by simp[cQ])⟩
 | n+1=>by
  obtain⟨h1,h2⟩:=aHA l i a n
  have e:(cQ l i a (n+1)).1=(cQ l i a n).1++[(gB l i n (cQ l i a n).2).1]:=rfl
  rw[e]
  refine⟨by simp[h1],fun j hj=>?_⟩
  by_cases hlt:j<(cQ l i a n).1.length
  ·rw[List.getElem_append_left hlt]; exact h2 j hlt
  ·rw[bfW,bfZ] at hj
   have:j=n:=by omega
   subst this
   rw[List.getElem_append_right (by omega)]
   simp only[List.getElem_singleton]
   exact aTB l i j _
theorem aGZ (l:List Nat) (a:Nat):∀ n,(gV l a n).1.length=n∧∀ x∈(gV l a n).1,pE x∧bS x=true
 | 0=>⟨rfl,fun x hx=>by cases hx⟩
 | n+1=>by
  obtain⟨h1,h2⟩:=aGZ l a n
  have e:(gV l a (n+1)).1=(gV l a n).1++[(eI l (gV l a n).2).1]:=rfl
  rw[e]
  refine⟨by simp[h1],fun x hx=>?_⟩
  rw[bhJ,List.mem_singleton] at hx
  rcases hx with hx | rfl
  ·exact h2 x hx
  ·exact oG l _
theorem aTN (l:List Nat) (n i a:Nat):pE (dX l n i a).1∧(i+1=n→bS (dX l n i a).1=true):=by
 unfold dX
 by_cases h:i+1<n
 ·simp only[if_pos h]
  refine⟨?_,fun h2=>by omega⟩
  split
  ·exact mN.o
  ·exact (oG l a).1
 ·simp only[if_neg h]
  exact⟨(oG l a).1,fun _=>(oG l a).2⟩
def a3I (n:Nat) (rates:List (List RF)):Prop:=∀ i (hi:i<rates.length),rates[i].length=n∧∀ j (hj:j<rates[i].length),pE rates[i][j]∧(j=i→bS rates[i][j]=false)∧(j=i+1→bS rates[i][j]=true)
def a3G (n:Nat) (exit:List RF):Prop:=∀ i (hi:i<exit.length),pE exit[i]∧(i+1=n→bS exit[i]=true)
structure a8W (n i:Nat) (s:wW) (cs:List Nat):Prop where
 start:s.start=cs.map fun c=>mkT ((c:Nat):Int) ((8:Nat):Int)
 lens:s.exit.length=i∧s.rates.length=i∧cs.length=i
 left:cs.sum+s.left=8∧(i=n→0<n→s.left=0)
 exit:a3G n s.exit
 rates:a3I n s.rates
theorem oL {α:Type} {P:Nat→α→Prop} {xs:List α} {x:α} (h:∀ i (hi:i<xs.length),P i xs[i]) (hx:P xs.length x):∀ i (hi:i<(xs++[x]).length),P i (xs++[x])[i]:=by
 intro i hi
 by_cases hlt:i<xs.length
 ·rw[List.getElem_append_left hlt]; exact h i hlt
 ·rw[bfW,bfZ] at hi
  have:i=xs.length:=by omega
  subst this
  rw[List.getElem_append_right (by omega)]
  simpa using hx
theorem acU (l:List Nat) (n a:Nat):∀ i,i≤n→∃ cs,a8W n i (eR l n a i) cs
 | 0,_=>⟨[],rfl,⟨rfl,rfl,rfl⟩,⟨rfl,fun h h2=>by omega⟩,fun i hi=>absurd hi (by simp[eR]),fun i hi=>absurd hi (by simp[eR])⟩
 | i+1,hi=>by
  obtain⟨cs,h1,⟨h2,h3,h4⟩,⟨h5,-⟩,h6,h7⟩:=acU l n a i (by omega)
  generalize hs:eR l n a i=s at *
  have e:eR l n a (i+1)=⟨s.start++[mkT ((cP l n i s).1:Nat) 8],s.exit++[(dX l n i (cP l n i s).2).1],s.rates++[(cQ l i (dX l n i (cP l n i s).2).2 n).1],s.left-(cP l n i s).1,(cQ l i (dX l n i (cP l n i s).2).2 n).2⟩:=by
   simp only[eR,hs]
  rw[e]
  have hk:(cP l n i s).1≤s.left∧(i+1=n→(cP l n i s).1=s.left):=by
   unfold cP
   split
   ·exact⟨by have:=bM l (show 0<s.left+1 by omega) s.a; omega,fun h=>by omega⟩
   ·exact⟨bfX _,fun _=>rfl⟩
  refine⟨cs++[(cP l n i s).1],?_,⟨by simp[h2],by simp[h3],by simp[h4]⟩,⟨?_,fun h _=>?_⟩,?_,?_⟩
  ·simp only[h1,bhS,bhA,bhV]; rfl
  ·simp only[List.sum_append,List.sum_cons,List.sum_nil]; omega
  ·have:=hk.2 h
   simp only; omega
  ·refine oL (P:=fun i x=>pE x∧(i+1=n→bS x=true)) h6 ?_
   rw[h2]; exact aTN l n i _
  ·refine oL (P:=fun i (r:List RF)=>r.length=n∧∀ j (hj:j<r.length),pE r[j]∧(j=i→bS r[j]=false)∧(j=i+1→bS r[j]=true)) h7 ?_
   rw[h3]; exact aHA l i _ n
theorem aTL {x:cL} {e r:RF} (h1:x.exit=[e]) (h2:x.rates=[[r]]) (h3:bS e=true):pQ x=true:=by
 unfold pQ
 rw[h1]
 show ((fM x 2).all id)=true
 simp only[fM,eA,jJ,cW,h1,h2,biH,bhR,List.getD_cons_zero,bhA,bhV,h3]
 cases bS r<;>rfl
theorem JD {x:cL} {e0 e1 r00 r01 r10 r11:RF} (h1:x.exit=[e0,e1]) (h2:x.rates=[[r00,r01],[r10,r11]]) (h3:bS e1=true) (h4:bS r01=true) (a b:Bool) :
  ∃ c,eA x [a,b] 2=[c,true]∧(b=true→c=true)∧(a=true→c=true):=by
 have q1:jJ x [a,b] 0=[((a||bS e0)||bS r00&&(a||bS e0))||b,b]:=by
  unfold jJ
  rw[h1,h2]
  simp only[List.getD_cons_zero,bhA,List.set_cons_zero]
  generalize (a||bS e0)=c
  show cW [c,b] 0 [r00,r01] 2=_
  have:cW [c,b] 0 [r00,r01] 1=[c||bS r00&&c,b]:=rfl
  show (let R':=cW [c,b] 0 [r00,r01] 1; R'.set 0 (R'.getD 0 false||([r00,r01].map bS).getD 1 false&&R'.getD 1 false))=_
  rw[this]
  show [(c||bS r00&&c)||(bS r01&&b),b]=_
  rw[h4,bgR]
 have q2:∀ c,jJ x [c,b] 1=[c,true]:=by
  intro c
  unfold jJ
  rw[h1,h2]
  have:cW [c,true] 1 [r10,r11] 1=[c,true||bS r10&&c]:=rfl
  show cW [c,b||bS e1] 1 [r10,r11] 2=_
  rw[h3,Bool.or_true]
  show (let R':=cW [c,true] 1 [r10,r11] 1; R'.set 1 (R'.getD 1 false||([r10,r11].map bS).getD 1 false&&R'.getD 1 false))=_
  rw[this,Bool.true_or]
  show [c,true||bS r11&&true]=_
  rw[Bool.true_or]
 refine⟨_,by rw[show eA x [a,b] 2=jJ x (jJ x [a,b] 0) 1 from rfl,q1,q2],?_,?_⟩
 ·rintro rfl; rw[Bool.or_true]
 ·rintro rfl; simp
theorem aTM {x:cL} {e0 e1 r00 r01 r10 r11:RF} (h1:x.exit=[e0,e1]) (h2:x.rates=[[r00,r01],[r10,r11]]) (h3:bS e1=true) (h4:bS r01=true):pQ x=true:=by
 unfold pQ
 rw[h1]
 show ((fM x 3).all id)=true
 have e:∀ r,fM x (r+1)=eA x (fM x r) 2:=fun r=>by rw[fM,h1]; rfl
 have e0:fM x 0=[false,false]:=by rw[fM,h1]; rfl
 obtain⟨c1,k1,-,-⟩:=JD h1 h2 h3 h4 false false
 obtain⟨c2,k2,k3,-⟩:=JD h1 h2 h3 h4 c1 true
 obtain⟨c3,k4,k5,-⟩:=JD h1 h2 h3 h4 c2 true
 rw[e,e,e,e0,k1,k2,k4,k5 rfl]
 rfl
theorem apK {c:Nat}:∀ {cs:List Nat},c∈cs→c≤cs.sum
 | k::t,h=>by
  rw[List.sum_cons]
  rcases bgD.1 h with rfl | h
  ·omega
  ·have:=apK h; omega
theorem MD {α:Type} {l:List α} (h:l.length=2):∃ a b,l=[a,b]:=by
 match l,h with
 | [a,b],_=>exact⟨a,b,rfl⟩
theorem a4P (cs:List Nat) (h:cs.sum=8):(match oM ((cs.map fun c=>mkT ((c:Nat):Int) ((8:Nat):Int)).map RF.v) with
  | .ok (n,a,b)=>decide (uV n a b false 1 1=0)
  | .error _=>false)=true:=by
 have hle:∀ c∈cs,c≤8:=fun c hc=>by
  have:=apK hc
  omega
 have e:((cs.map fun c=>mkT ((c:Nat):Int) ((8:Nat):Int)).map RF.v)=cs.map eV:=by
  rw[List.map_map]
  refine List.map_congr_left fun c hc=>?_
  have:=hle c hc
  exact (SmF.mk' (a:=c) (b:=8) (by omega) (by decide) (by decide)).v
 rw[e]
 exact a1R cs h
theorem tP {α:Type} {p:α→Bool} {l:List α} (h:∀ i (hi:i<l.length),p l[i]=true):l.all p=true:=by
 rw[bhE]
 intro x hx
 obtain⟨i,hi,rfl⟩:=bhM hx
 exact h i hi
theorem aKC (l:List Nat) (a:Nat) (nm:List UInt8):oI { (nH l 2 a).1 with name:=nm }=true∧({ (nH l 2 a).1 with name:=nm }:cL).Ok:=by
 obtain⟨n,hn⟩:∃ n,n=1+(aC l 2 a).1:=⟨_,rfl⟩
 have hn2:n=1∨n=2:=by have:=bM l (show 0<2 by decide) a; omega
 obtain⟨cs,h1,⟨h2,h3,h4⟩,⟨h5,h5'⟩,h6,h7⟩:=acU l n (aC l 2 a).2 n (bfX _)
 generalize hs:eR l n (aC l 2 a).2 n=s at *
 have e:({ (nH l 2 a).1 with name:=nm }:cL)=⟨nm,s.start,s.rates,s.exit⟩:=by
  simp only[nH,← hn,hs]
 rw[e]
 have hsum:cs.sum=8:=by have:=h5' rfl (by omega); omega
 have hle:∀ c∈cs,c≤8:=fun c hc=>by
  have:=apK hc
  omega
 have hstart:∀ x∈s.start,pE x:=by
  intro x hx
  rw[h1] at hx
  obtain⟨c,hc,rfl⟩:=bgZ.1 hx
  have:=hle c hc
  exact (SmF.mk' (a:=c) (b:=8) (by omega) (by decide) (by decide)).o
 have hsl:s.start.length=n:=by rw[h1,bfT,h4]
 have hends:pQ ⟨nm,s.start,s.rates,s.exit⟩=true:=by
  rcases hn2 with rfl | rfl
  ·obtain⟨e,he⟩:=List.length_eq_one_iff.1 h2
   obtain⟨rw_,hr⟩:=List.length_eq_one_iff.1 h3
   have hrl:=(h7 0 (by omega)).1
   obtain⟨r,hr2⟩:=List.length_eq_one_iff.1 hrl
   have hx:=(h6 0 (by omega)).2 rfl
   simp only[hr,List.getElem_cons_zero] at hr2
   simp only[he,List.getElem_cons_zero] at hx
   exact aTL he (by rw[hr,hr2]) hx
  ·obtain⟨e0,e1,he⟩:=MD h2
   obtain⟨r0,r1,hr⟩:=MD h3
   have hr0:=(h7 0 (by omega)).1
   have hr1:=(h7 1 (by omega)).1
   have hx:=(h6 1 (by omega)).2 rfl
   have hy:=((h7 0 (by omega)).2 1 (by omega)).2.2 rfl
   simp only[he,List.getElem_cons_succ,List.getElem_cons_zero] at hx
   simp only[hr,List.getElem_cons_succ,List.getElem_cons_zero] at hr0 hr1 hy
   obtain⟨r00,r01,h00⟩:=MD hr0
   obtain⟨r10,r11,h10⟩:=MD hr1
   simp only[h00,List.getElem_cons_succ,List.getElem_cons_zero] at hy
   exact aTM he (by rw[hr,h00,h10]) hx hy
 constructor
 ·unfold oI
  simp only[bgP]
  refine⟨⟨⟨⟨⟨⟨⟨?_,?_⟩,?_⟩,?_⟩,?_⟩,?_⟩,?_⟩,hends⟩
  ·rw[within_iff]; omega
  ·exact decide_eq_true (by omega)
  ·exact decide_eq_true (by omega)
  ·exact bhE.2 fun x hx=>(hstart x hx).lim
  ·exact tP fun i hi=>(h6 i hi).1.lim
  ·rw[bhE]
   intro i hi
   rw[bhW] at hi
   obtain⟨k1,k2⟩:=h7 i hi
   have eg:s.rates.getD i []=s.rates[i]:=by simp[bgT,hi]
   rw[eg,bgP,bgP]
   refine⟨⟨decide_eq_true (by omega),tP fun j hj=>(k2 j hj).1.lim⟩,?_⟩
   have hij:i<s.rates[i].length:=by omega
   rw[getD_at hij,(k2 i hij).2.1 rfl]
   rfl
  ·rw[h1]; exact a4P cs hsum
 ·have hf:∀ m:Nat,m≤2→m≤9223372036854775807:=fun m hm=>by omega
  have hnl:n≤2:=by omega
  refine⟨⟨?_,fun x hx=>(hstart x hx).ok⟩,⟨?_,fun x hx=>?_⟩,?_,fun r hr=>⟨?_,fun x hx=>?_⟩⟩
  ·exact hf s.start.length (by omega)
  ·exact hf s.exit.length (by omega)
  ·obtain⟨i,hi,rfl⟩:=bhM hx
   exact (h6 i hi).1.ok
  ·exact hf s.rates.length (by omega)
  ·obtain⟨i,hi,rfl⟩:=bhM hr
   have:=(h7 i hi).1
   exact hf (s.rates[i]'hi).length (by omega)
  ·obtain⟨i,hi,rfl⟩:=bhM hr
   obtain⟨j,hj,rfl⟩:=bhM hx
   exact ((h7 i hi).2 j hj).1.ok
theorem NC (l:List Nat) (a:Nat):∀ n,(fJ l a n).1.length=n∧∀ i (hi:i<(fJ l a n).1.length),(fJ l a n).1[i].name=[108,97,119]++bO i∧oI (fJ l a n).1[i]=true∧(fJ l a n).1[i].Ok
 | 0=>⟨rfl,fun i hi=>absurd hi (by simp[fJ])⟩
 | n+1=>by
  obtain⟨h1,h2⟩:=NC l a n
  have e:(fJ l a (n+1)).1=(fJ l a n).1++[{ (nH l 2 (fJ l a n).2).1 with name:=[108,97,119]++bO n }]:=rfl
  rw[e]
  refine⟨by simp[h1],oL (P:=fun i (x:cL)=>x.name=[108,97,119]++bO i∧oI x=true∧x.Ok) h2 ?_⟩
  rw[h1]
  exact⟨rfl,aKC l _ _⟩
theorem FO (l:List Nat) (laws:Nat) (hl:0<laws) (a:Nat):∀ n,(dJ l laws a n).1.length=n∧∀ i (hi:i<(dJ l laws a n).1.length),(dJ l laws a n).1[i].name=[109]++bO i∧∃ e p w:Nat,(dJ l laws a n).1[i].extents=e∧1≤e∧e≤4∧(dJ l laws a n).1[i].port=p∧1≤p∧p≤8∧(dJ l laws a n).1[i].law=w∧w<laws
 | 0=>⟨rfl,fun i hi=>absurd hi (by simp[dJ])⟩
 | n+1=>by
  obtain⟨h1,h2⟩:=FO l laws hl a n
  obtain⟨s,hs⟩:∃ s,s=dJ l laws a n:=⟨_,rfl⟩
  have e:(dJ l laws a (n+1)).1=(dJ l laws a n).1++[⟨[109]++bO n,(1+(aC l 4 s.2).1:Nat),(1+(aC l 8 (aC l 4 s.2).2).1:Nat),((aC l laws (aC l 8 (aC l 4 s.2).2).2).1:Nat)⟩]:=by rw[hs]; rfl
  rw[e]
  refine⟨by simp[h1],oL (P:=fun i (x:cS)=>x.name=[109]++bO i∧∃ e p w:Nat,x.extents=e∧1≤e∧e≤4∧x.port=p∧1≤p∧p≤8∧x.law=w∧w<laws) h2 ?_⟩
  rw[h1]
  have k1:=bM l (show 0<4 by decide) s.2
  have k2:=bM l (show 0<8 by decide) (aC l 4 s.2).2
  have k3:=bM l hl (aC l 8 (aC l 4 s.2).2).2
  exact⟨rfl,_,_,_,rfl,by omega,by omega,rfl,by omega,by omega,rfl,k3⟩
end Go.PM
namespace Go.PM
open Go Go.Na
theorem tI (l:List Nat) (a:Nat):∃ n:Nat,(fK l a).1=n∧n≤3:=by
 have h:=bM l (show 0<3 by decide) (aC l 3 a).2
 unfold fK
 simp only
 split
 ·exact⟨1+(aC l 3 (aC l 3 a).2).1,rfl,by omega⟩
 ·exact⟨0,rfl,by omega⟩
theorem dM {n lo hi:Int} (h1:lo≤n) (h2:n≤hi):within n lo hi=true:=within_iff.2 ⟨h1,h2⟩
theorem a4E {nm:List UInt8} {k m q s1 s2 s3 s4 g h:Nat} {ms:List Int} {rp:List RF} {mc:Nat} (hk1:1≤k) (hk2:k≤2) (hm:m≤2) (hq1:k≤q) (hq2:q≤k+m) (h1:s1≤3) (h2:s2≤3) (h3:s3≤3) (h4:s4≤3) (hg:g≤8) (hh:h≤4)
  (hrl:rp.length=max m 1) (hrp:∀ x∈rp,pE x∧bS x=true)
  (hmc:mc≤2) (hms:∃ f:Nat,f<mc∧(ms=[(f:Int)]∨mc=2∧ms=[(f:Int),1-(f:Int)])) :
  hJ mc ⟨nm,(k:Nat),(m:Nat),(q:Nat),0,(s1:Nat),(s2:Nat),(s3:Nat),(s4:Nat),ms,rp,mkT (g:Nat) ((8:Nat):Int),mkT (h:Nat) ((1:Nat):Int)⟩=true ∧
  (⟨nm,(k:Nat),(m:Nat),(q:Nat),0,(s1:Nat),(s2:Nat),(s3:Nat),(s4:Nat),ms,rp,mkT (g:Nat) ((8:Nat):Int),mkT (h:Nat) ((1:Nat):Int)⟩:cM).Ok:=by
 have G:=SmF.mk' (a:=g) (b:=8) (by omega) (by decide) (by decide)
 have Z:=SmF.mk' (a:=h) (b:=1) (by omega) (by decide) (by decide)
 obtain⟨f,hf,hms⟩:=hms
 constructor
 ·unfold hJ RW ML
  simp only[bgP,List.all_cons,List.all_nil,biN]
  refine⟨⟨⟨⟨⟨⟨⟨⟨dM (by omega) (by omega),dM (by omega) (by omega)⟩,decide_eq_true (by omega)⟩,dM (by omega) (by omega)⟩,rfl⟩,dM (by omega) (by omega),dM (by omega) (by omega),dM (by omega) (by omega),dM (by omega) (by omega),dM (by omega) (by omega)⟩,?_⟩,⟨⟨⟨⟨decide_eq_true (by rw[hrl]; omega),?_⟩,G.lim⟩,G.one (by omega)⟩,Z.lim⟩⟩,?_⟩
  ·rcases hms with e | ⟨-,e⟩<;>rw[e]<;>rfl
  ·rw[bhE]
   intro x hx
   rw[(hrp x hx).1.lim,(hrp x hx).2]
   rfl
  ·rw[bhE]
   rcases hms with rfl | ⟨rfl,rfl⟩
   ·intro j hj
    simp only[biH,bhR,bhW] at hj
    have:j=0:=by omega
    subst this
    rw[bgP]
    exact⟨dM (by simp) (by simp; omega),by simp⟩
   ·intro j hj
    simp only[biH,bhR,bhW] at hj
    have:j=0∨j=1:=by omega
    rcases this with rfl | rfl
    ·rw[bgP]
     exact⟨dM (by simp) (by simp; omega),by simp⟩
    ·rw[bgP]
     refine⟨dM (by simp; omega) (by simp; omega),?_⟩
     have:¬ (1-(f:Int)=f):=by omega
     simp[this]
 ·refine⟨by unfold dT; constructor<;>simp only<;>omega,by unfold dT; constructor<;>simp only<;>omega,by unfold dT; constructor<;>simp only<;>omega,?_,?_,⟨?_,fun x hx=>(hrp x hx).1.ok⟩,G.ok,Z.ok⟩
  ·show ms.length≤_
   rcases hms with e | ⟨-,e⟩<;>rw[e]<;>simp
  ·show ∀ x∈ms,dT x
   unfold dT
   rcases hms with e | ⟨h2,e⟩<;>rw[e]<;>intro x hx<;>simp only[bgD,bgL,or_false] at hx
   ·subst hx; omega
   ·rcases hx with rfl | rfl<;>omega
  ·show rp.length≤_
   rw[hrl]; omega
theorem ajN (l:List Nat) {mc:Nat} (h0:0<mc) (h2:mc≤2) (i a:Nat):(jR l mc i a).1.name=[112]++bO i∧hJ mc (jR l mc i a).1=true∧(jR l mc i a).1.Ok:=by
 refine⟨rfl,?_⟩
 have hk:=bM l (show 0<2 by decide) a
 have hm:=bM l (show 0<3 by decide) (aC l 2 a).2
 have hh:=bM l (show 0<4 by decide) (aC l 3 (aC l 2 a).2).2
 unfold jR
 simp only
 generalize aC l 2 a=k at *
 generalize aC l 3 k.2=m at *
 generalize aC l 4 m.2=h at *
 have hq:=bM l (show 0<m.1+1 by omega) h.2
 generalize aC l (m.1+1) h.2=q at *
 obtain⟨r1,r2⟩:=aGZ l q.2 (max m.1 1)
 generalize gV l q.2 (max m.1 1)=r at *
 have hg:=bM l (show 0<9 by decide) r.2
 generalize aC l 9 r.2=g at *
 obtain⟨n1,e1,b1⟩:=tI l g.2
 generalize fK l g.2=s1 at *
 obtain⟨n2,e2,b2⟩:=tI l s1.2
 generalize fK l s1.2=s2 at *
 obtain⟨n3,e3,b3⟩:=tI l s2.2
 generalize fK l s2.2=s3 at *
 obtain⟨n4,e4,b4⟩:=tI l s3.2
 generalize fK l s3.2=s4 at *
 have hf:=bM l h0 s4.2
 generalize aC l mc s4.2=f at *
 generalize aC l 2 f.2=b at *
 rw[e1,e2,e3,e4]
 refine a4E (by omega) (by omega) (by omega) (by omega) (by omega) b1 b2 b3 b4 (by omega) (by omega) r1 r2 h2 ⟨f.1,hf,?_⟩
 split
 ·rename_i hmc
  split
  ·exact .inr ⟨by omega,rfl⟩
  ·exact .inl rfl
 ·exact .inl rfl
theorem wC (l:List Nat) {mc:Nat} (h0:0<mc) (h2:mc≤2) (a:Nat):∀ n,(cT l mc a n).1.length=n∧∀ i (hi:i<(cT l mc a n).1.length),(cT l mc a n).1[i].name=[112]++bO i∧hJ mc (cT l mc a n).1[i]=true∧(cT l mc a n).1[i].Ok
 | 0=>⟨rfl,fun i hi=>absurd hi (by simp[cT])⟩
 | n+1=>by
  obtain⟨k1,k2⟩:=wC l h0 h2 a n
  have e:(cT l mc a (n+1)).1=(cT l mc a n).1++[(jR l mc n (cT l mc a n).2).1]:=rfl
  rw[e]
  refine⟨by simp[k1],oL (P:=fun i (x:cM)=>x.name=[112]++bO i∧hJ mc x=true∧x.Ok) k2 ?_⟩
  rw[k1]
  exact ajN l h0 h2 n _
theorem AQ (l:List Nat) {pc:Nat} (h0:0<pc) (a:Nat):∀ n,(dL l pc a n).1.length=n∧∀ i (hi:i<(dL l pc a n).1.length),(dL l pc a n).1[i].name=[118]++bO i∧∃ p:Nat,(dL l pc a n).1[i].policy=p∧p<pc
 | 0=>⟨rfl,fun i hi=>absurd hi (by simp[dL])⟩
 | n+1=>by
  obtain⟨k1,k2⟩:=AQ l h0 a n
  have e:(dL l pc a (n+1)).1=(dL l pc a n).1++[⟨[118]++bO n,((aC l pc (dL l pc a n).2).1:Nat)⟩]:=rfl
  rw[e]
  refine⟨by simp[k1],oL (P:=fun i (x:fI)=>x.name=[118]++bO i∧∃ p:Nat,x.policy=p∧p<pc) k2 ?_⟩
  rw[k1]
  exact⟨rfl,_,rfl,bM l h0 _⟩
abbrev lvs (ds:List cK):List Int:=ds.map cK.level
def a8V (ds:List cK) (i:Nat) (d:cK):Prop:=∃ lev p u:Nat,d.name=[jB lev]++bO (i+1)∧d.level=lev∧1≤lev∧lev≤4∧d.parent=p∧p≤i∧(lvs ds)[p]?=some ((lev:Int)-1)∧d.uplink=u∧1≤u∧u≤16∧pE d.shock
def a3F (ds:List cK) (mc i:Nat) (d:cO):Prop:=∃ m c:Nat,d.name=[100]++bO i∧d.model=m∧m<mc∧d.machine=c∧(lvs ds)[c]?=some 4
structure GV (mc drives:Nat) (s:GS):Prop where
 len:s.doms.length≤35
 drvs:s.drvs.length≤drives
 root:s.doms[0]?=some jY
 dom:∀ i (hi:i+1<s.doms.length),a8V s.doms i s.doms[i+1]
 drv:∀ i (hi:i<s.drvs.length),a3F s.doms mc i s.drvs[i]
theorem GV.a {mc drives:Nat} {s:GS} (h:GV mc drives s) (x:Nat):GV mc drives { s with a:=x }:=⟨h.len,h.drvs,h.root,h.dom,h.drv⟩
theorem anZ (l:List Nat) {mc drives dom:Nat} (hmc:0<mc) {s:GS} (h:GV mc drives s) (hd:(lvs s.doms)[dom]?=some 4):∀ n,GV mc drives (gL l mc drives dom s n)∧(gL l mc drives dom s n).doms=s.doms
 | 0=>⟨h,rfl⟩
 | n+1=>by
  obtain⟨h1,h2⟩:=anZ l hmc h hd n
  simp only[gL]
  generalize gL l mc drives dom s n=t at *
  split
  ·rename_i hlt
   refine⟨⟨h1.len,by simp only[bfW,bfZ]; omega,h1.root,h1.dom,?_⟩,h2⟩
   refine oL (P:=fun i d=>a3F t.doms mc i d) h1.drv ?_
   exact⟨_,dom,rfl,rfl,bM l hmc _,rfl,by rw[h2]; exact hd⟩
  ·exact⟨h1,h2⟩
theorem MF {ds:List cK} {p:Nat} {x:Int} {t:List cK} (h:(lvs ds)[p]?=some x):(lvs (ds++t))[p]?=some x:=by
 unfold lvs at *
 rw[bhS,biP]
 ·exact h
 ·exact (bhF.1 h).1
theorem aYS (l:List Nat) {mc drives dom level:Nat} {s:GS} (h:GV mc drives s) (hl1:1≤level) (hl:level≤4) (hd:(lvs s.doms)[dom]?=some ((level:Int)-1)) (hf:mU drives s=false) :
  GV mc drives (kM l level dom s)∧(∃ t,(kM l level dom s).doms=s.doms++t)∧(kM l level dom s).doms.length=s.doms.length+1∧(lvs (kM l level dom s).doms)[s.doms.length]?=some (level:Int):=by
 unfold mU at hf
 simp only[Bool.or_eq_false_iff,decide_eq_false_iff_not] at hf
 have hdl:dom<s.doms.length:=by
  have:=(bhF.1 hd).1
  rwa [bfT] at this
 have hu:=bM l (show 0<16 by decide) s.a
 have hk:=bM l (show 0<6 by decide) (aC l 3 (aC l 16 s.a).2).2
 unfold kM
 simp only
 generalize aC l 16 s.a=u at *
 generalize aC l 3 u.2=t at *
 generalize aC l 6 t.2=k at *
 have hsh:pE (if t.1=0 then (mkT 1 ((2+k.1:Nat):Int),k.2) else (gX,t.2)).1:=by
  split
  ·exact (SmF.mk' (a:=1) (b:=2+k.1) (by omega) (by omega) (by omega)).o
  ·exact mN.o
 generalize (if t.1=0 then (mkT 1 ((2+k.1:Nat):Int),k.2) else (gX,t.2))=sh at *
 refine⟨⟨by simp only[bfW,bfZ]; omega,h.drvs,?_,?_,fun i hi=>?_⟩,⟨_,rfl⟩,by simp,?_⟩
 ·rw[biP (by omega)]; exact h.root
 ·intro i hi
  simp only[bfW,bfZ] at hi
  by_cases hlt:i+1<s.doms.length
  ·rw[List.getElem_append_left hlt]
   obtain⟨lev,p,v,h1,h2,h3,h4,h5,h6,h7,h8⟩:=h.dom i hlt
   exact⟨lev,p,v,h1,h2,h3,h4,h5,h6,MF h7,h8⟩
  ·have:i+1=s.doms.length:=by omega
   rw[List.getElem_append_right (by omega)]
   simp only[List.getElem_singleton]
   exact⟨level,dom,1+u.1,by rw[this],rfl,hl1,hl,rfl,by omega,MF hd,rfl,by omega,by omega,hsh⟩
 ·obtain⟨m,c,h1,h2,h3,h4,h5⟩:=h.drv i hi
  exact⟨m,c,h1,h2,h3,h4,MF h5⟩
 ·unfold lvs
  rw[bhS,biT (by rw[bfT]; exact bfX _),bfT,Nat.sub_self]
  rfl
theorem aoA (l:List Nat) {mc drives dom level:Nat} (hl1:1≤level) (hl:level≤4) {rec:Nat→GS→GS}
  (hrec:∀ d t,GV mc drives t→(lvs t.doms)[d]?=some (level:Int)→GV mc drives (rec d t)∧∃ u,(rec d t).doms=t.doms++u) {s:GS} (h:GV mc drives s) (hd:(lvs s.doms)[dom]?=some ((level:Int)-1)) :
  ∀ n,GV mc drives (fA l level drives dom rec s n)∧∃ u,(fA l level drives dom rec s n).doms=s.doms++u
 | 0=>⟨h,[],by simp[fA]⟩
 | n+1=>by
  obtain⟨h1,u,h2⟩:=aoA l hl1 hl hrec h hd n
  simp only[fA]
  generalize fA l level drives dom rec s n=t at *
  split
  ·exact⟨h1,u,h2⟩
  ·rename_i hf
   have hdt:(lvs t.doms)[dom]?=some ((level:Int)-1):=by rw[h2]; exact MF hd
   obtain⟨k1,⟨v,k2⟩,k3,k4⟩:=aYS l h1 hl1 hl hdt (by simpa using hf)
   obtain⟨m1,w,m2⟩:=hrec ((kM l level dom t).doms.length-1) (kM l level dom t) k1 (by rw[k3,Nat.add_sub_cancel]; exact k4)
   exact⟨m1,u++(v++w),by rw[m2,k2,h2]; simp⟩
theorem aoB (l:List Nat) {mc drives:Nat} (hmc:0<mc):∀ (k:Nat),k≤4→∀ (dom:Nat) {s:GS},GV mc drives s→(lvs s.doms)[dom]?=some (4-(k:Int))→GV mc drives (dV l mc drives k dom s)∧∃ u,(dV l mc drives k dom s).doms=s.doms++u
 | 0,_,dom,s,h,hd=>by
  simp only[dV]
  obtain⟨h1,h2⟩:=anZ l hmc (h.a (aC l 2 s.a).2) hd (1+(aC l 2 s.a).1)
  exact⟨h1,[],by rw[h2]; simp⟩
 | k+1,hk,dom,s,h,hd=>by
  simp only[dV]
  refine aoA l (by omega) (by omega) (fun d t ht hdt=>aoB l hmc k (by omega) d ht ?_) (h.a (aC l 2 s.a).2) ?_ _
  ·rw[hdt]; congr 1; omega
  ·rw[hd]; congr 1; omega
end Go.PM
namespace Go.PM
open Go Go.Na
theorem adA (lev:Nat) (h1:1≤lev) (h4:lev≤4):fY (jB lev).toNat=true∧jB lev≠100:=by
 have:lev=1∨lev=2∨lev=3∨lev=4:=by omega
 rcases this with rfl | rfl | rfl | rfl<;>decide
theorem YQ (c:UInt8) {k:Nat} (hk:k<100):MR (([c]++bO k).drop 1)=k:=by
 show MR (bO k)=k
 rw[HJ hk]
 exact (alH ⟨k,hk⟩).1
theorem ayY {mc drives:Nat} {s:GS} (h:GV mc drives s) (hd:drives≤60):distinct ((s.doms.drop 1).map cK.name++s.drvs.map cO.name)=true:=by
 have hA:∀ i (hi:i<((s.doms.drop 1).map cK.name).length),∃ lev:Nat,1≤lev∧lev≤4∧((s.doms.drop 1).map cK.name)[i]=[jB lev]++bO (i+1):=by
  intro i hi
  rw[bfT,bhQ] at hi
  obtain⟨lev,p,u,h1,-,h3,h4,-⟩:=h.dom i (by omega)
  refine⟨lev,h3,h4,?_⟩
  rw[bhL,List.getElem_drop]
  simp only[Nat.add_comm 1 i]
  exact h1
 have hB:∀ i (hi:i<(s.drvs.map cO.name).length),(s.drvs.map cO.name)[i]=[100]++bO i:=by
  intro i hi
  rw[bfT] at hi
  obtain⟨m,c,h1,-⟩:=h.drv i hi
  rw[bhL]; exact h1
 have lA:((s.doms.drop 1).map cK.name).length≤40:=by rw[bfT,bhQ]; have:=h.len; omega
 have lB:(s.drvs.map cO.name).length≤60:=by rw[bfT]; have:=h.drvs; omega
 generalize (s.doms.drop 1).map cK.name=A at *
 generalize s.drvs.map cO.name=B at *
 refine MW ?_ ?_
 ·intro x hx
  rcases bhJ.1 hx with hx | hx
  ·obtain⟨i,hi,rfl⟩:=bhM hx
   obtain⟨lev,h1,h4,e⟩:=hA i hi
   rw[e]
   exact aaO rfl (adA lev h1 h4).1 rfl (by simp) (by omega)
  ·obtain⟨i,hi,rfl⟩:=bhM hx
   rw[hB i hi]
   exact aaO rfl (by decide) rfl (by simp) (by omega)
 ·rw[biI]
  refine⟨?_,?_,?_⟩
  ·refine II (g:=fun s=>MR (s.drop 1)-1) fun i hi=>?_
   obtain⟨lev,-,-,e⟩:=hA i hi
   rw[e,YQ _ (by omega)]
   omega
  ·refine II (g:=fun s=>MR (s.drop 1)) fun i hi=>?_
   rw[hB i hi]
   exact YQ _ (by omega)
  ·intro x hx y hy e
   obtain⟨i,hi,rfl⟩:=bhM hx
   obtain⟨j,hj,rfl⟩:=bhM hy
   obtain⟨lev,h1,h4,e1⟩:=hA i hi
   rw[e1,hB j hj] at e
   exact (adA lev h1 h4).2 (List.cons.inj e).1
theorem aWF {mc drives a:Nat}:GV mc drives ⟨[jY],[],a⟩ :=
 ⟨by simp,bgE _,rfl,fun i hi=>absurd hi (by simp),fun i hi=>absurd hi (by simp)⟩
theorem aZT {mc drives:Nat} {s:GS} (h:GV mc drives s) (f:aH) (hf:f.domains=s.doms):lP f=true:=by
 have hr:=h.root
 have hdom:=h.dom
 unfold lP
 rw[hf]
 cases hdm:s.doms with
 | nil=>rw[hdm] at hr; cases hr
 | cons r t =>
  rw[hdm] at hr
  have:r=jY:=by simpa using hr
  subst this
  show LK f jY t=true
  unfold LK
  simp only[bgP]
  refine⟨⟨⟨⟨⟨⟨rfl,rfl⟩,rfl⟩,rfl⟩,mN.lim⟩,by rw[show jY.shock=gX from rfl,mN.zero]; rfl⟩,?_⟩
  rw[bhE]
  intro i hi
  rw[bhW] at hi
  rw[bgF hi]
  obtain⟨lev,p,u,h1,h2,h3,h4,h5,h6,h7,h8,h9,h10,h11⟩:=hdom i (by rw[hdm]; simp; omega)
  have e:s.doms[i+1]'(by rw[hdm]; simp; omega)=t[i]:=by simp[hdm]
  rw[e] at h1 h2 h5 h8 h11
  show PK f i t[i]=true
  unfold PK
  simp only[bgP]
  refine⟨⟨⟨⟨?_,?_⟩,?_⟩,?_⟩,h11.lim⟩
  ·rw[h5]; exact dM (by omega) (by omega)
  ·rw[h5,h2,hf,Int.toNat_natCast,bgT,h7,ZG (by omega) (by omega)]
   exact decide_eq_true rfl
  ·rw[h2]; exact dM (by omega) (by omega)
  ·rw[h8]; exact dM (by omega) (by omega)
theorem mG (l:List Nat) (drives volumes a:Nat) (hd:drives≤24) (hv:volumes≤12) :
  dE (fC l drives volumes a).1=true∧(fC l drives volumes a).1.Ok:=by
 unfold fC
 simp only
 have he:=bM l (show 0<2 by decide) a
 generalize aC l 2 a=e at *
 have hlw:=bM l (show 0<2 by decide) e.2
 generalize aC l 2 e.2=lw at *
 obtain⟨w1,w2⟩:=NC l lw.2 (1+lw.1)
 generalize fJ l lw.2 (1+lw.1)=laws at *
 have hmd:=bM l (show 0<2 by decide) laws.2
 generalize aC l 2 laws.2=md at *
 obtain⟨m1,m2⟩:=FO l (1+lw.1) (by omega) md.2 (1+md.1)
 generalize dJ l (1+lw.1) md.2 (1+md.1)=models at *
 obtain⟨G,-⟩:=aoB l (mc:=1+md.1) (drives:=drives) (by omega) 4 (by decide) 0 (s:=⟨[jY],[],models.2⟩) aWF rfl
 generalize dV l (1+md.1) drives 4 0 ⟨[jY],[],models.2⟩=g at *
 have hpl:=bM l (show 0<2 by decide) g.a
 generalize aC l 2 g.a=pl at *
 obtain⟨p1,p2⟩:=wC l (mc:=1+md.1) (by omega) (by omega) pl.2 (1+pl.1)
 generalize cT l (1+md.1) pl.2 (1+pl.1)=pols at *
 have hvo:=bM l (show 0<volumes+1 by omega) pols.2
 generalize aC l (volumes+1) pols.2=vo at *
 obtain⟨v1,v2⟩:=AQ l (pc:=1+pl.1) (by omega) vo.2 vo.1
 generalize dL l (1+pl.1) vo.2 vo.1=vols at *
 have g1:=G.len
 have g2:=G.drvs
 have hdp:∀ f:aH,f.domains=g.doms→lP f=true:=fun f hf=>aZT G f hf
 have hfit:∀ n:Nat,n≤1000→n≤9223372036854775807:=fun n h=>by omega
 have hdrv:∀ x∈g.drvs,∃ m c:Nat,x.model=m∧m<1+md.1∧x.machine=c∧c<g.doms.length∧(lvs g.doms)[c]?=some 4:=by
  intro x hx
  obtain⟨i,hi,rfl⟩:=bhM hx
  obtain⟨m,c,-,h2,h3,h4,h5⟩:=G.drv i hi
  refine⟨m,c,h2,h3,h4,?_,h5⟩
  have:=(bhF.1 h5).1
  rwa [bfT] at this
 constructor
 ·unfold dE
  rw[hdp _ rfl]
  simp only[bgP,biN]
  refine⟨⟨?_,⟨⟨⟨⟨?_,?_⟩,?_⟩,?_⟩,?_⟩⟩,⟨⟨⟨?_,?_⟩,ayY G (by omega)⟩,?_⟩,?_⟩
  ·unfold mK
   simp only[bgP]
   exact⟨⟨⟨⟨⟨⟨dM (by omega) (by omega),decide_eq_true (by omega)⟩,decide_eq_true (by omega)⟩,decide_eq_true (by omega)⟩,decide_eq_true (by omega)⟩,decide_eq_true (by omega)⟩,decide_eq_true (by omega)⟩
  ·exact tP fun i hi=>(w2 i hi).2.1
  ·refine tP fun i hi=>?_
   obtain⟨-,x,y,z,e1,e2,e3,e4,e5,e6,e7,e8⟩:=m2 i hi
   unfold jW
   simp only[bgP]
   rw[e1,e4,e7,w1]
   exact⟨⟨dM (by omega) (by omega),dM (by omega) (by omega)⟩,dM (by omega) (by omega)⟩
  ·rw[bhE]
   intro x hx
   obtain⟨m,c,e1,e2,e3,e4,e5⟩:=hdrv x hx
   unfold iH
   simp only[bgP]
   rw[e1,e3,m1,Int.toNat_natCast,bgT,e5]
   exact⟨⟨dM (by omega) (by omega),dM (by omega) (by omega)⟩,rfl⟩
  ·refine tP fun i hi=>?_
   rw[m1]; exact (p2 i hi).2.1
  ·refine tP fun i hi=>?_
   obtain⟨-,p,e1,e2⟩:=v2 i hi
   unfold lN
   rw[e1,p1]
   exact dM (by omega) (by omega)
  ·refine pN (p:=[108,97,119]) rfl (by decide) (by decide) (by decide) (by rw[bfT]; omega) fun i hi=>?_
   rw[bhL]; exact (w2 i (by simpa using hi)).1
  ·refine pN (p:=[109]) rfl (by decide) (by decide) (by decide) (by rw[bfT]; omega) fun i hi=>?_
   rw[bhL]; exact (m2 i (by simpa using hi)).1
  ·refine pN (p:=[112]) rfl (by decide) (by decide) (by decide) (by rw[bfT]; omega) fun i hi=>?_
   rw[bhL]; exact (p2 i (by simpa using hi)).1
  ·refine pN (p:=[118]) rfl (by decide) (by decide) (by decide) (by rw[bfT]; omega) fun i hi=>?_
   rw[bhL]; exact (v2 i (by simpa using hi)).1
 ·refine⟨hfit laws.1.length (by omega),hfit models.1.length (by omega),hfit g.doms.length (by omega),hfit g.drvs.length (by omega),hfit pols.1.length (by omega),hfit vols.1.length (by omega),?_,?_,?_,?_,?_⟩
  ·intro x hx
   obtain⟨i,hi,rfl⟩:=bhM hx
   exact (w2 i hi).2.2
  ·intro x hx
   obtain⟨i,hi,rfl⟩:=bhM hx
   rcases biB i with rfl | hp
   ·have:g.doms[0]=jY:=by have:=G.root; rw[bgF hi] at this; exact biA.inj this
    rw[this]
    exact⟨mN.ok,by unfold dT; decide,by unfold dT; decide⟩
   ·obtain⟨k,rfl⟩:∃ k,i=k+1:=⟨i-1,by omega⟩
    obtain⟨lev,p,u,h1,h2,h3,h4,h5,h6,h7,h8,h9,h10,h11⟩:=G.dom k hi
    have hi':k+1<g.doms.length:=hi
    rw[h2,h5]
    exact⟨h11.ok,by unfold dT; omega,by unfold dT; omega⟩
  ·intro x hx
   obtain⟨m,c,e1,e2,e3,e4,e5⟩:=hdrv x hx
   rw[e1,e3]
   unfold dT; omega
  ·intro x hx
   obtain⟨i,hi,rfl⟩:=bhM hx
   exact (p2 i hi).2.2
  ·intro x hx
   obtain⟨i,hi,rfl⟩:=bhM hx
   obtain⟨-,p,e1,e2⟩:=v2 i hi
   rw[e1]
   unfold dT; omega
end Go.PM
namespace Go.PM
open Go
def ahB:Rg:=[iA 1 (.box true (Tm 0)),iA 2 (.mv (.const (.bool false)))]
def ahC:Rg:=[iA 3 (.load (some 7) (Tm 1)),iA 4 (.call 96 [(Tm 3)]),iC 5 .eql 4 0,iM 2 5]
def yU:aD:=(.seq (.region ahB) (.seq (.region ahC) .ret))
def aRS:List Nat:=[1]
def JY:bG:=⟨1,6,yU,[.tmp 2]⟩
def avD:Rg:=[iA 2 (.box true (Tm 0)),iI 4 0]
def avE:Rd:=[(iF 6 5 2,false),(iL 7 6,false),(iF 8 6 2,false),(iL 9 8,false),(iM 10 1,false),(iX 11 2 9 10,false),(iF 12 1 11,false),(iL 13 12,false),(iX 14 17 7 13,false),(iA 15 (.load (some 17) (Tm 14)),false),(iA 5 (.alloc [(.str []),(.int .i64 0),(.int .i64 0),(.int .i64 0),(.int .i64 0),(.int .i64 0),(.int .i64 0),(.int .i64 0),(.int .i64 0),.nils,.nils,(.bool false),.nils,.nils,(.bool false),.nils,.nils]),true),(iS 17 5 15,true)]
def avF:Rg:=[iF 16 1 5,iL 17 16,iF 18 2 5,iL 19 18,iB 20 .add 17 19,iM 4 20]
def EF:aD:=(.seq (.region avD) (.seq (.draw avE) (.seq (.region avF) .ret)))
def aWQ:List Nat:=[2]
def XV:bG:=⟨2,21,EF,[.tmp 4]⟩
def afW:Rg:=[iA 3 (.box true (Tm 0)),iI 6 0]
def afX:Rg:=[iF 8 4 3,iL 9 8,iM 10 1,iX 11 3 9 10,iF 12 2 11,iL 13 12,iM 7 13]
def afY:Rg:=[iF 14 3 3,iL 15 14,iM 16 7,iX 17 7 15 16,iF 18 1 17,iL 19 18,iM 20 2,iB 21 .gtr 19 20]
def afZ:Rg:=[iF 22 3 3,iL 23 22,iM 24 7,iX 25 7 23 24,iF 26 2 25,iL 27 26,iM 7 27]
def afV:aD:=(.seq (.seq (.region afY) (.cond (Tm 21) .skip (.exit 0))) (.block 1 (.region afZ)))
def agA:Rg:=[iM 28 7,iM 6 28]
def yP:aD:=(.seq (.region afW) (.seq (.region afX) (.seq (.block 0 (.loop afV)) (.seq (.region agA) .ret))))
def aQZ:List Nat:=[3]
def JO:bG:=⟨3,29,yP,[.tmp 6]⟩
def avI:Rg:=[iA 2 (.box true (Tm 0)),iA 4 (.mv (.const .nils))]
def avJ:Rg:=[iA 7 (.load (some 7) (Tm 2)),iA 8 (.call 161 [(Tm 7)]),iA 9 (.un .not (Tm 8))]
def avK:Rg:=[iA 4 (.mv (.const .nils))]
def avL:Rg:=[iF 10 4 2,iL 11 10,iN 12 11,iA 13 (.mkslice 1 8 [(.int .i64 0)] (Tm 12) (Tm 12)),iM 5 13]
def avM:Rg:=[iM 14 5,iN 15 14,iI 16 0]
def avN:Rg:=[iB 17 .lss 16 15]
def avO:Rg:=[iM 18 16,iM 6 18]
def avP:Rd:=[(iM 19 5,false),(iM 20 6,false),(iF 21 2 2,false),(iL 22 21,false),(iF 23 4 2,false),(iL 24 23,false),(iM 25 6,false),(iX 26 3 24 25,false),(iF 27 1 26,false),(iL 28 27,false),(iX 29 4 22 28,false),(iF 30 1 29,false),(iL 31 30,false),(iX 32 1 19 20,false),(iS 1 32 31,true)]
def avQ:Rg:=[iM 33 1,iN 34 33,iM 35 5,iN 36 35,iB 37 .eql 34 36]
def avR:Rd:=[(iM 38 5,false),(iM 39 6,false),(iM 40 1,false),(iM 41 6,false),(iX 42 1 40 41,false),(iL 43 42,false),(iA 44 (.minmax true (Tm 43) (Ci 0)),false),(iM 45 5,false),(iM 46 6,false),(iX 47 1 45 46,false),(iL 48 47,false),(iA 49 (.minmax false (Tm 44) (Tm 48)),false),(iX 50 1 38 39,false),(iS 1 50 49,true)]
def JW:Rg:=[iC 51 .add 16 1,iM 16 51]
def agS:aD:=(.seq (.region avN) (.seq (.cond (Tm 17) .skip (.exit 0)) (.seq (.block 1 (.seq (.region avO) (.seq (.draw avP) (.seq (.region avQ) (.cond (Tm 37) (.draw avR) .skip))))) (.region JW))))
def agT:Rg:=[iM 52 5,iM 4 52]
def EI:aD:=(.seq (.region avI) (.seq (.seq (.region avJ) (.cond (Tm 9) (.seq (.region avK) .ret) .skip)) (.seq (.region avL) (.seq (.seq (.region avM) (.block 0 (.loop agS))) (.seq (.region agT) .ret)))))
def aWS:List Nat:=[2]
def wI:bG:=⟨2,53,EI,[.tmp 4]⟩
def aRA:Rg:=[iA 3 (.box true (Tm 0)),iI 6 0]
def aRB:Rg:=[iA 7 (.load (some 7) (Tm 3)),iA 8 (.call 161 [(Tm 7)]),iA 9 (.un .not (Tm 8)),iM 10 9,iG 11 (.mv (Tm 1)) 10 false,iG 12 (.bin .lss (Tm 11) (Ci 0)) 10 false,iA 13 (.pick (Tm 10) (.const (.bool true)) (Tm 12)),iM 14 13,iG 15 (.mv (Tm 1)) 14 false,iG 16 (.fieldA 4 (Tm 3)) 14 false,iG 17 (.load none (Tm 16)) 14 false,iG 18 (.len (Tm 17)) 14 false,iG 19 (.bin .geq (Tm 15) (Tm 18)) 14 false,iA 20 (.pick (Tm 14) (.const (.bool true)) (Tm 19)),iM 21 20,iG 22 (.mv (Tm 2)) 21 false,iG 23 (.bin .lss (Tm 22) (Ci 0)) 21 false,iA 24 (.pick (Tm 21) (.const (.bool true)) (Tm 23)),iM 25 24,iG 26 (.mv (Tm 2)) 25 false,iG 27 (.bin .geq (Tm 26) (Ci 5)) 25 false,iA 28 (.pick (Tm 25) (.const (.bool true)) (Tm 27))]
def AL:Rg:=[iI 6 (-1)]
def aRC:Rg:=[iA 29 (.load (some 7) (Tm 3)),iM 30 1,iM 31 2,iA 32 (.call 155 [(Tm 29),(Tm 30),(Tm 31)]),iM 6 32]
def SH:aD:=(.seq (.region aRA) (.seq (.seq (.region aRB) (.cond (Tm 28) (.seq (.region AL) .ret) .skip)) (.seq (.region aRC) .ret)))
def a4R:List Nat:=[3]
def tat:bG:=⟨3,33,SH,[.tmp 6]⟩
def XN:Rg:=[iA 2 (.box true (Tm 0)),iA 4 (.mv (.const .nils))]
def XO:Rg:=[iA 5 (.mv (.const .nils))]
def XP:Rg:=[iA 7 (.load (some 7) (Tm 2)),iA 8 (.call 161 [(Tm 7)]),iA 9 (.un .not (Tm 8)),iM 10 9,iG 11 (.mv (Tm 1)) 10 false,iG 12 (.bin .lss (Tm 11) (Ci 0)) 10 false,iA 13 (.pick (Tm 10) (.const (.bool true)) (Tm 12)),iM 14 13,iG 15 (.mv (Tm 1)) 14 false,iG 16 (.fieldA 3 (Tm 2)) 14 false,iG 17 (.load none (Tm 16)) 14 false,iG 18 (.len (Tm 17)) 14 false,iG 19 (.bin .geq (Tm 15) (Tm 18)) 14 false,iA 20 (.pick (Tm 14) (.const (.bool true)) (Tm 19))]
def tJ:Rg:=[iM 21 5,iM 4 21]
def XQ:Rg:=[iF 22 4 2,iL 23 22,iN 24 23,iI 25 0]
def XR:Rg:=[iB 26 .lss 25 24]
def XS:Rg:=[iM 27 25,iM 6 27]
def XT:Rd:=[(iA 28 (.load (some 7) (Tm 2)),false),(iM 29 6,false),(iF 30 3 2,false),(iL 31 30,false),(iM 32 1,false),(iX 33 7 31 32,false),(iF 34 1 33,false),(iL 35 34,false),(iA 36 (.call 155 [(Tm 28),(Tm 29),(Tm 35)]),true),(iM 37 1,true),(iB 38 .eql 36 37,false)]
def XU:Rg:=[iM 39 5,iM 40 6,iA 41 (.bslice true 1 1 [(.int .i64 0)] [(0,(Tm 40))]),iA 42 (.append 1 8 (Tm 39) (Tm 41)),iM 5 42]
def EE:Rg:=[iC 43 .add 25 1,iM 25 43]
def OL:aD:=(.seq (.region XR) (.seq (.cond (Tm 26) .skip (.exit 0)) (.seq (.block 1 (.seq (.region XS) (.seq (.draw XT) (.cond (Tm 38) (.region XU) .skip)))) (.region EE))))
def OM:Rg:=[iM 44 5,iM 4 44]
def vE:aD:=(.seq (.region XN) (.seq (.region XO) (.seq (.seq (.region XP) (.cond (Tm 20) (.seq (.region tJ) .ret) .skip)) (.seq (.seq (.region XQ) (.block 0 (.loop OL))) (.seq (.region OM) .ret)))))
def aMI:List Nat:=[2,41]
def AM:bG:=⟨2,45,vE,[.tmp 4]⟩
def agB:Rg:=[iA 2 (.box true (Tm 0)),iA 4 (.mv (.const .nils))]
def agC:Rg:=[iA 5 (.mv (.const .nils))]
def agD:Rg:=[iA 8 (.load (some 7) (Tm 2)),iA 9 (.call 161 [(Tm 8)]),iA 10 (.un .not (Tm 9)),iM 11 10,iG 12 (.mv (Tm 1)) 11 false,iG 13 (.bin .lss (Tm 12) (Ci 0)) 11 false,iA 14 (.pick (Tm 11) (.const (.bool true)) (Tm 13))]
def JQ:Rg:=[iM 15 5,iM 4 15]
def agE:Rg:=[iF 16 3 2,iL 17 16,iN 18 17,iI 19 0]
def agF:Rg:=[iB 20 .lss 19 18]
def agG:Rg:=[iM 21 19,iX 22 7 17 19,iA 23 (.load (some 7) (Tm 22)),iA 7 (.alloc [(.str []),(.int .i64 0),(.int .i64 0),(.int .i64 0),(.bool false),.nils,.nils]),iM 6 21,iS 7 7 23]
def JR:Rg:=[iF 24 2 7,iL 25 24,iM 26 1,iB 27 .eql 25 26]
def agH:Rg:=[iM 28 5,iM 29 6,iA 30 (.bslice true 1 1 [(.int .i64 0)] [(0,(Tm 29))]),iA 31 (.append 1 8 (Tm 28) (Tm 30)),iM 5 31]
def JS:Rg:=[iC 32 .add 19 1,iM 19 32]
def XL:aD:=(.seq (.region agF) (.seq (.cond (Tm 20) .skip (.exit 0)) (.seq (.block 1 (.seq (.region agG) (.seq (.region JR) (.cond (Tm 27) (.region agH) .skip)))) (.region JS))))
def XM:Rg:=[iM 33 5,iM 4 33]
def yQ:aD:=(.seq (.region agB) (.seq (.region agC) (.seq (.seq (.region agD) (.cond (Tm 14) (.seq (.region JQ) .ret) .skip)) (.seq (.seq (.region agE) (.block 0 (.loop XL))) (.seq (.region XM) .ret)))))
def aRE:List Nat:=[2,30]
def JP:bG:=⟨2,34,yQ,[.tmp 4]⟩
def agK:Rg:=[iA 2 (.box true (Tm 0)),iA 4 (.mv (.const .nils))]
def agL:Rg:=[iF 10 4 2,iL 11 10,iN 12 11,iA 13 (.mkslice 1 8 [(.int .i64 0)] (Tm 12) (Tm 12)),iM 5 13]
def agM:Rg:=[iM 14 1,iN 15 14,iI 16 0]
def agN:Rg:=[iB 17 .lss 16 15]
def agO:Rg:=[iX 18 1 14 16,iL 19 18,iM 7 19]
def agP:Rg:=[iM 20 7,iN 21 20,iI 22 0]
def agQ:Rg:=[iB 23 .lss 22 21]
def wG:Rg:=[iX 24 1 20 22,iL 25 24,iM 9 25]
def wH:Rg:=[iM 26 9,iC 27 .geq 26 0,iM 28 27,iG 29 (.mv (Tm 9)) 28 true,iG 30 (.mv (Tm 5)) 28 true,iG 31 (.len (Tm 30)) 28 true,iG 32 (.bin .lss (Tm 29) (Tm 31)) 28 true,iA 33 (.pick (Tm 28) (Tm 32) (.const (.bool false)))]
def agR:Rg:=[iM 34 5,iM 35 9,iX 36 1 34 35,iL 37 36,iC 38 .add 37 1,iX 39 1 34 35,iS 1 39 38]
def tK:Rg:=[iC 40 .add 22 1,iM 22 40]
def XW:aD:=(.seq (.region agQ) (.seq (.cond (Tm 23) .skip (.exit 2)) (.seq (.block 3 (.seq (.region wG) (.seq (.region wH) (.cond (Tm 33) (.region agR) .skip)))) (.region tK))))
def EG:Rg:=[iC 41 .add 16 1,iM 16 41]
def XY:aD:=(.seq (.region agN) (.seq (.cond (Tm 17) .skip (.exit 0)) (.seq (.block 1 (.seq (.region agO) (.seq (.region agP) (.block 2 (.loop XW))))) (.region EG))))
def EH:Rg:=[iM 42 5,iM 4 42]
def yS:aD:=(.seq (.region agK) (.seq (.region agL) (.seq (.seq (.region agM) (.block 0 (.loop XY))) (.seq (.region EH) .ret))))
def aRJ:List Nat:=[2]
def JU:bG:=⟨2,43,yS,[.tmp 4]⟩
def afR:Rg:=[iA 2 (.box true (Tm 0)),iA 4 (.mv (.const .nils))]
def afS:Rg:=[iA 5 (.load (some 7) (Tm 2)),iA 6 (.call 161 [(Tm 5)]),iA 7 (.un .not (Tm 6))]
def afT:Rg:=[iA 4 (.mv (.const .nils))]
def afU:Rg:=[iA 8 (.load (some 7) (Tm 2)),iM 9 1,iA 10 (.call 157 [(Tm 8),(Tm 9)]),iM 4 10]
def yO:aD:=(.seq (.region afR) (.seq (.seq (.region afS) (.cond (Tm 7) (.seq (.region afT) .ret) .skip)) (.seq (.region afU) .ret)))
def aQX:List Nat:=[2]
def JN:bG:=⟨2,11,yO,[.tmp 4]⟩
def agV:Rg:=[iA 3 (.box true (Tm 0)),iA 6 (.alloc [(.int .i64 0),(.int .i64 0),(.int .i64 0)]),iA 7 (.mv (.const (.bool false)))]
def agW:Rd:=[(iM 10 1,true),(iM 11 2,true),(iX 12 1 10 11,true),(iL 13 12,true),(iN 14 13,true),(iA 15 (.load (some 7) (Tm 3)),false),(iM 16 2,false),(iA 17 (.call 156 [(Tm 15),(Tm 16)]),true),(iB 18 .neq 14 17,false)]
def agX:Rg:=[iM 19 2,iM 20 1,iM 21 2,iX 22 1 20 21,iL 23 22,iN 24 23,iA 25 (.build [(.int .i64 0),(.int .i64 0),(.int .i64 0)] [(0,1,(Ci 1)),(1,1,(Tm 19)),(2,1,(Tm 24))]),iS 3 6 25,iA 7 (.mv (.const (.bool true)))]
def agY:Rg:=[iM 26 1,iM 27 2,iX 28 1 26 27,iL 29 28,iN 30 29,iI 31 0]
def agZ:Rg:=[iB 32 .lss 31 30]
def wJ:Rg:=[iM 33 31,iX 34 1 29 31,iL 35 34,iM 8 33,iM 9 35]
def wK:Rg:=[iM 36 9,iC 37 .lss 36 (-1),iM 38 37,iG 39 (.mv (Tm 9)) 38 false,iG 40 (.fieldA 4 (Tm 3)) 38 false,iG 41 (.load none (Tm 40)) 38 false,iG 42 (.len (Tm 41)) 38 false,iG 43 (.bin .geq (Tm 39) (Tm 42)) 38 false,iA 44 (.pick (Tm 38) (.const (.bool true)) (Tm 43))]
def JX:Rg:=[iM 45 2,iM 46 8,iA 47 (.build [(.int .i64 0),(.int .i64 0),(.int .i64 0)] [(0,1,(Ci 1)),(1,1,(Tm 45)),(2,1,(Tm 46))]),iS 3 6 47,iA 7 (.mv (.const (.bool true)))]
def ahA:Rg:=[iC 48 .add 31 1,iM 31 48]
def agU:aD:=(.seq (.region agZ) (.seq (.cond (Tm 32) .skip (.exit 0)) (.seq (.block 1 (.seq (.region wJ) (.seq (.region wK) (.cond (Tm 44) (.seq (.region JX) .ret) .skip)))) (.region ahA))))
def YB:Rg:=[iA 49 (.build [(.int .i64 0),(.int .i64 0),(.int .i64 0)] []),iS 3 6 49,iA 7 (.mv (.const (.bool false)))]
def yT:aD:=(.seq (.region agV) (.seq (.seq (.draw agW) (.cond (Tm 18) (.seq (.region agX) .ret) .skip)) (.seq (.seq (.region agY) (.block 0 (.loop agU))) (.seq (.region YB) .ret))))
def aRQ:List Nat:=[3]
def vF:bG:=⟨3,50,yT,[.cell 6 (some 3),.tmp 7]⟩
def XC:Rg:=[iA 2 (.box true (Tm 0)),iA 4 (.mv (.const (.bool false)))]
def XD:Rg:=[iA 8 (.load (some 7) (Tm 2)),iA 9 (.call 161 [(Tm 8)]),iA 10 (.un .not (Tm 9)),iM 11 10,iG 12 (.mv (Tm 1)) 11 false,iG 13 (.len (Tm 12)) 11 false,iG 14 (.fieldA 6 (Tm 2)) 11 false,iG 15 (.load none (Tm 14)) 11 false,iG 16 (.len (Tm 15)) 11 false,iG 17 (.bin .neq (Tm 13) (Tm 16)) 11 false,iA 18 (.pick (Tm 11) (.const (.bool true)) (Tm 17))]
def EB:Rg:=[iA 4 (.mv (.const (.bool false)))]
def XE:Rg:=[iM 19 1,iN 20 19,iI 21 0]
def XF:Rg:=[iB 22 .lss 21 20]
def XG:Rg:=[iM 23 21,iM 5 23]
def XH:Rg:=[iA 25 (.load (some 7) (Tm 2)),iM 26 1,iM 27 5,iA 28 (.call 160 [(Tm 25),(Tm 26),(Tm 27)]),iM 24 28,iA 29 (.extract (Tm 24) 0),iA 30 (.extract (Tm 24) 1),iA 6 (.alloc [(.int .i64 0),(.int .i64 0),(.int .i64 0)]),iS 3 6 29,iM 7 30]
def EC:Rg:=[iM 31 7]
def XI:Rg:=[iA 4 (.mv (.const (.bool false)))]
def XJ:Rg:=[iC 32 .add 21 1,iM 21 32]
def OJ:aD:=(.seq (.region XF) (.seq (.cond (Tm 22) .skip (.exit 0)) (.seq (.block 1 (.seq (.region XG) (.seq (.region XH) (.seq (.region EC) (.cond (Tm 31) (.seq (.region XI) .ret) .skip))))) (.region XJ))))
def OK:Rg:=[iA 4 (.mv (.const (.bool true)))]
def vD:aD:=(.seq (.region XC) (.seq (.seq (.region XD) (.cond (Tm 18) (.seq (.region EB) .ret) .skip)) (.seq (.seq (.region XE) (.block 0 (.loop OJ))) (.seq (.region OK) .ret))))
def aMG:List Nat:=[2]
def AK:bG:=⟨2,33,vD,[.tmp 4]⟩
def ahN:Rg:=[iA 5 (.alloc [(.int .i64 0),(.int .i64 0),(.int .i64 0)])]
def ahO:Rg:=[iM 6 0,iL 7 2,iM 8 1,iA 9 (.build [(.int .i64 0),(.int .i64 0),(.int .i64 0)] [(0,1,(Tm 6)),(1,1,(Tm 7)),(2,1,(Tm 8))]),iS 3 5 9]
def yV:aD:=(.seq (.region ahN) (.seq (.region ahO) .ret))
def aRU:List Nat:=[]
def KE:bG:=⟨2,10,yV,[.cell 5 (some 3)]⟩
def awC:Rg:=[iA 3 (.box true (Tm 0)),iA 5 (.box false (Tm 2)),iA 6 (.mv (.const .nils))]
def awD:Rd:=[(iF 25 5 3,false),(iL 26 25,false),(iF 27 6 3,false),(iL 28 27,false),(iL 29 5,false),(iX 30 2 28 29,false),(iF 31 1 30,false),(iL 32 31,false),(iX 33 17 26 32,false),(iA 34 (.load (some 17) (Tm 33)),false),(iA 7 (.alloc [(.str []),(.int .i64 0),(.int .i64 0),(.int .i64 0),(.int .i64 0),(.int .i64 0),(.int .i64 0),(.int .i64 0),(.int .i64 0),.nils,.nils,(.bool false),.nils,.nils,(.bool false),.nils,.nils]),true),(iS 17 7 34,true)]
def awE:Rg:=[iF 35 2 3,iL 36 35,iN 37 36,iA 38 (.mkslice 1 1 [(.bool false)] (Tm 37) (Tm 37)),iM 8 38]
def awF:Rg:=[iF 39 9 7,iL 40 39,iN 41 40,iI 42 0]
def awG:Rg:=[iB 43 .lss 42 41]
def awH:Rg:=[iX 44 1 40 42,iL 45 44,iM 10 45]
def awI:Rg:=[iM 46 8,iM 47 10,iX 48 1 46 47,⟨none,.store 1 (Tm 48) (.const (.bool true)),none⟩]
def awJ:Rg:=[iC 49 .add 42 1,iM 42 49]
def awB:aD:=(.seq (.region awG) (.seq (.cond (Tm 43) .skip (.exit 0)) (.seq (.block 1 (.seq (.region awH) (.region awI))) (.region awJ))))
def awK:Rg:=[iA 50 (.mkfn 159 [(Tm 5)]),iM 11 50]
def ahP:Rg:=[iA 12 (.mv (.const .nils)),iA 13 (.mv (.const .nils))]
def ahQ:Rd:=[(iF 51 4 3,false),(iL 52 51,false),(iN 53 52,false),(iA 54 (.mkslice 1 8 [(.int .i64 0)] (Tm 53) (Tm 53)),true),(iF 55 3 3,false),(iL 56 55,false),(iN 57 56,false),(iA 58 (.mkslice 1 8 [(.int .i64 0)] (Tm 57) (Tm 57)),true),(iM 14 54,false),(iM 15 58,false)]
def ahR:Rg:=[iM 59 1,iL 60 5,iX 61 1 59 60,iL 62 61,iN 63 62,iI 64 0]
def sF:Rg:=[iB 65 .lss 64 63]
def wM:Rg:=[iM 66 64,iX 67 1 62 64,iL 68 67,iM 16 66,iM 17 68]
def wN:Rg:=[iM 69 17,iC 70 .lss 69 0]
def ahS:Rg:=[iM 71 12,iM 72 11,iM 73 16,iA 74 (.callv (Tm 72) [(Ci 2),(Tm 73)]),iA 75 (.bslice true 3 1 [(.int .i64 0),(.int .i64 0),(.int .i64 0)] [(0,(Tm 74))]),iA 76 (.append 3 24 (Tm 71) (Tm 75)),iM 12 76]
def KH:Rg:=[iM 77 8,iF 78 4 3,iL 79 78,iM 80 17,iX 81 3 79 80,iF 82 1 81,iL 83 82,iX 84 1 77 83,iL 85 84,iA 86 (.un .not (Tm 85))]
def ahT:Rg:=[iM 87 13,iM 88 11,iM 89 16,iA 90 (.callv (Tm 88) [(Ci 4),(Tm 89)]),iA 91 (.bslice true 3 1 [(.int .i64 0),(.int .i64 0),(.int .i64 0)] [(0,(Tm 90))]),iA 92 (.append 3 24 (Tm 87) (Tm 91)),iM 13 92]
def KI:Rg:=[iM 93 14,iM 94 17,iX 95 1 93 94,iL 96 95,iC 97 .add 96 1,iX 98 1 93 94,iS 1 98 97]
def KJ:Rg:=[iF 99 4 3,iL 100 99,iM 101 17,iX 102 3 100 101,iF 103 2 102,iL 104 103,iM 18 104]
def ahU:Rg:=[iM 105 18,iC 106 .gtr 105 0]
def ahV:Rg:=[iM 113 15,iM 114 18,iX 115 1 113 114,iL 116 115,iC 117 .add 116 1,iX 118 1 113 114,iS 1 118 117]
def ahW:Rg:=[iF 107 3 3,iL 108 107,iM 109 18,iX 110 7 108 109,iF 111 2 110,iL 112 111,iM 18 112]
def wL:aD:=(.seq (.seq (.region ahU) (.cond (Tm 106) .skip (.exit 4))) (.seq (.block 5 (.region ahV)) (.region ahW)))
def wO:Rg:=[iC 119 .add 64 1,iM 64 119]
def oZ:aD:=(.seq (.region sF) (.seq (.cond (Tm 65) .skip (.exit 2)) (.seq (.block 3 (.seq (.region wM) (.seq (.seq (.region wN) (.cond (Tm 70) (.seq (.region ahS) (.exit 3)) .skip)) (.seq (.seq (.region KH) (.cond (Tm 86) (.region ahT) .skip)) (.seq (.region KI) (.seq (.region KJ) (.block 4 (.loop wL)))))))) (.region wO))))
def ahX:Rg:=[iM 120 12,iM 19 120]
def ahY:Rg:=[iM 121 14,iN 122 121,iI 123 0]
def ahZ:Rg:=[iB 124 .lss 123 122]
def aiA:Rg:=[iM 125 123,iX 126 1 121 123,iL 127 126,iM 20 125,iM 21 127]
def aiB:Rg:=[iM 128 21,iC 129 .gtr 128 1]
def aiC:Rg:=[iM 130 19,iM 131 11,iM 132 20,iA 133 (.callv (Tm 131) [(Ci 3),(Tm 132)]),iA 134 (.bslice true 3 1 [(.int .i64 0),(.int .i64 0),(.int .i64 0)] [(0,(Tm 133))]),iA 135 (.append 3 24 (Tm 130) (Tm 134)),iM 19 135]
def KK:Rg:=[iC 136 .add 123 1,iM 123 136]
def KF:aD:=(.seq (.region ahZ) (.seq (.cond (Tm 124) .skip (.exit 6)) (.seq (.block 7 (.seq (.region aiA) (.seq (.region aiB) (.cond (Tm 129) (.region aiC) .skip)))) (.region KK))))
def aiD:Rg:=[iM 137 19,iM 138 13,iA 139 (.append 3 24 (Tm 137) (Tm 138)),iM 19 139]
def aiE:Rg:=[iM 140 15,iN 141 140,iI 142 0]
def aiF:Rg:=[iB 143 .lss 142 141]
def aiG:Rg:=[iM 144 142,iX 145 1 140 142,iL 146 145,iM 22 144,iM 23 146]
def KL:Rg:=[iF 147 3 3,iL 148 147,iM 149 22,iX 150 7 148 149,iF 151 1 150,iL 152 151,iF 153 4 7,iA 154 (.idxA 5 1 (Tm 153) (Tm 152)),iL 155 154,iM 24 155]
def wP:Rg:=[iM 156 24,iC 157 .gtr 156 0,iM 158 157,iG 159 (.mv (Tm 23)) 158 true,iG 160 (.mv (Tm 24)) 158 true,iG 161 (.bin .gtr (Tm 159) (Tm 160)) 158 true,iA 162 (.pick (Tm 158) (Tm 161) (.const (.bool false)))]
def aiH:Rg:=[iM 163 19,iM 164 11,iM 165 22,iA 166 (.callv (Tm 164) [(Ci 5),(Tm 165)]),iA 167 (.bslice true 3 1 [(.int .i64 0),(.int .i64 0),(.int .i64 0)] [(0,(Tm 166))]),iA 168 (.append 3 24 (Tm 163) (Tm 167)),iM 19 168]
def wQ:Rg:=[iC 169 .add 142 1,iM 142 169]
def KG:aD:=(.seq (.region aiF) (.seq (.cond (Tm 143) .skip (.exit 8)) (.seq (.block 9 (.seq (.region aiG) (.seq (.region KL) (.seq (.region wP) (.cond (Tm 162) (.region aiH) .skip))))) (.region wQ))))
def aiI:Rg:=[iM 170 19,iM 6 170]
def EK:aD:=(.seq (.region awC) (.seq (.draw awD) (.seq (.region awE) (.seq (.seq (.region awF) (.block 0 (.loop awB))) (.seq (.region awK) (.seq (.region ahP) (.seq (.draw ahQ) (.seq (.seq (.region ahR) (.block 2 (.loop oZ))) (.seq (.region ahX) (.seq (.seq (.region ahY) (.block 6 (.loop KF))) (.seq (.region aiD) (.seq (.seq (.region aiE) (.block 8 (.loop KG))) (.seq (.region aiI) .ret)))))))))))))
def aWX:List Nat:=[3,75,91,134,167]
def ajY:bG:=⟨3,171,EK,[.tmp 6]⟩
def avS:Rg:=[iA 3 (.box true (Tm 0)),iA 6 (.mv (.const .nils))]
def avT:Rg:=[iA 15 (.load (some 7) (Tm 3)),iA 16 (.call 161 [(Tm 15)]),iA 17 (.un .not (Tm 16)),iM 14 17]
def avU:Rg:=[iA 6 (.mv (.const .nils))]
def SI:Rg:=[iM 19 1,iN 20 19,iF 21 6 3,iL 22 21,iN 23 22,iB 24 .neq 20 23,iM 18 24]
def avV:Rg:=[iM 25 1,iN 26 25,iA 27 (.build [(.int .i64 0),(.int .i64 0),(.int .i64 0)] [(0,1,(Ci 1)),(1,1,(Ci (-1))),(2,1,(Tm 26))]),iA 28 (.bslice true 3 1 [(.int .i64 0),(.int .i64 0),(.int .i64 0)] [(0,(Tm 27))]),iM 6 28]
def avW:Rg:=[iA 7 (.mv (.const .nils))]
def avX:Rg:=[iM 29 1,iN 30 29,iI 31 0]
def avY:Rg:=[iB 32 .lss 31 30]
def avZ:Rg:=[iM 33 31,iM 8 33]
def awA:Rg:=[iA 35 (.load (some 7) (Tm 3)),iM 36 1,iM 37 8,iA 38 (.call 160 [(Tm 35),(Tm 36),(Tm 37)]),iM 34 38,iA 39 (.extract (Tm 34) 0),iA 40 (.extract (Tm 34) 1),iA 9 (.alloc [(.int .i64 0),(.int .i64 0),(.int .i64 0)]),iS 3 9 39,iM 10 40]
def KB:Rg:=[iM 41 10]
def ahE:Rg:=[iM 42 7,iA 43 (.load (some 3) (Tm 9)),iA 44 (.bslice true 3 1 [(.int .i64 0),(.int .i64 0),(.int .i64 0)] [(0,(Tm 43))]),iA 45 (.append 3 24 (Tm 42) (Tm 44)),iM 7 45]
def ahF:Rg:=[iM 46 7,iA 47 (.load (some 7) (Tm 3)),iM 48 1,iM 49 8,iA 50 (.call 158 [(Tm 47),(Tm 48),(Tm 49)]),iA 51 (.append 3 24 (Tm 46) (Tm 50)),iM 7 51]
def KC:Rg:=[iC 52 .add 31 1,iM 31 52]
def ahD:aD:=(.seq (.region avY) (.seq (.cond (Tm 32) .skip (.exit 1)) (.seq (.block 2 (.seq (.region avZ) (.seq (.seq (.region awA) (.seq (.region KB) (.cond (Tm 41) (.seq (.region ahE) (.exit 2)) .skip))) (.region ahF)))) (.region KC))))
def ahG:Rg:=[iA 53 (.load (some 7) (Tm 3)),iM 54 2,iA 55 (.call 152 [(Tm 53),(Tm 54)]),iM 11 55]
def ahH:Rg:=[iA 56 (.load (some 7) (Tm 3)),iM 57 1,iA 58 (.call 157 [(Tm 56),(Tm 57)]),iN 59 58,iI 60 0]
def ahI:Rg:=[iB 61 .lss 60 59]
def ahJ:Rg:=[iM 62 60,iX 63 1 58 60,iL 64 63,iM 12 62,iM 13 64]
def ahK:Rg:=[iM 65 13,iM 66 11,iM 67 12,iX 68 1 66 67,iL 69 68,iB 70 .gtr 65 69]
def ahL:Rg:=[iM 71 7,iM 72 12,iA 73 (.build [(.int .i64 0),(.int .i64 0),(.int .i64 0)] [(0,1,(Ci 6)),(1,1,(Ci (-1))),(2,1,(Tm 72))]),iA 74 (.bslice true 3 1 [(.int .i64 0),(.int .i64 0),(.int .i64 0)] [(0,(Tm 73))]),iA 75 (.append 3 24 (Tm 71) (Tm 74)),iM 7 75]
def KD:Rg:=[iC 76 .add 60 1,iM 60 76]
def JZ:aD:=(.seq (.region ahI) (.seq (.cond (Tm 61) .skip (.exit 3)) (.seq (.block 4 (.seq (.region ahJ) (.seq (.region ahK) (.cond (Tm 70) (.region ahL) .skip)))) (.region KD))))
def ahM:Rg:=[iM 77 7,iM 6 77]
def EJ:aD:=(.seq (.region avS) (.seq (.block 0 (.seq (.region avT) (.cond (Tm 14) (.seq (.region avU) .ret) (.seq (.region SI) (.cond (Tm 18) (.seq (.region avV) .ret) .skip))))) (.seq (.region avW) (.seq (.seq (.region avX) (.block 1 (.loop ahD))) (.seq (.region ahG) (.seq (.seq (.region ahH) (.block 3 (.loop JZ))) (.seq (.region ahM) .ret)))))))
def aWV:List Nat:=[3,28,44,74]
def YD:bG:=⟨3,78,EJ,[.tmp 6]⟩
def agI:Rg:=[iA 3 (.box true (Tm 0)),iA 6 (.mv (.const (.bool false)))]
def agJ:Rg:=[iA 7 (.load (some 7) (Tm 3)),iA 8 (.call 161 [(Tm 7)]),iM 9 8,iG 10 (.load (some 7) (Tm 3)) 9 true,iG 11 (.mv (Tm 1)) 9 true,iG 12 (.mv (Tm 2)) 9 true,iG 13 (.call 154 [(Tm 10),(Tm 11),(Tm 12)]) 9 true,iG 14 (.len (Tm 13)) 9 true,iG 15 (.bin .eql (Tm 14) (Ci 0)) 9 true,iA 16 (.pick (Tm 9) (Tm 15) (.const (.bool false))),iM 6 16]
def yR:aD:=(.seq (.region agI) (.seq (.region agJ) .ret))
def aRH:List Nat:=[3]
def JT:bG:=⟨3,17,yR,[.tmp 6]⟩
end Go.PM
namespace Go.PM
open Go Go.Na
theorem aRR {C:Ctx} (h:∀ f:aH,f.Ok→aI C 96 [.agg f.cells] .nil (aL (.int .i64 (FA f)))) (f:aH) (hf:f.Ok) :
  yU.wp C (aX JY.res (bY (.bool (dE f)))) (PF.args [.agg f.cells]) .nil:=by
 simp -implicitDefEqProofs only[go_sem,δ,γ,yU,ahB,ahC,JY]
 refine aB (h f hf) rfl ?_
 simp -implicitDefEqProofs only[go_sem,γ]
 refine aU rfl ?_
 unfold FA
 cases dE f<;>rfl
theorem rV {f:aH} {d:Nat} (h:d<f.drives.length):(f.drives.map cO.cells)[d]?=some (f.drives[d]).cells:=by simp[h]
theorem mR {f:aH} {d:Nat} (h:d<f.domains.length):(f.domains.map cK.cells)[d]?=some (f.domains[d]).cells:=by simp[h]
theorem FF {f:aH} {d:Nat} (h:d<f.volumes.length):(f.volumes.map fI.cells)[d]?=some (f.volumes[d]).cells:=by simp[h]
theorem yL {f:aH} {d:Nat} (h:d<f.policies.length):(f.policies.map cM.cells)[d]?=some (f.policies[d]).cells:=by simp[h]
theorem aPC {f:aH} {d:Nat} (h:d<f.models.length):(f.models.map cS.cells)[d]?=some (f.models[d]).cells:=by simp[h]
theorem apZ {f:aH} {d:Nat} (h:d<f.domains.length):(f.domains[d]).level=lvl f d:=by rw[lvl,getD_at h]
theorem WU {f:aH} {d:Nat} (h:d<f.domains.length):(f.domains[d]).parent=par f d:=by rw[par,getD_at h]
theorem VF.aEL {f:aH} (h:VF f) {d:Nat} (hd:d<f.drives.length):(f.drives[d]).machine=((fF f d:Nat):Int):=by
 have:=(h.drive d hd).2.2.1
 rw[fF,getD_at hd]; omega
theorem VF.aqF {f:aH} (h:VF f) {d:Nat} (hd:d<f.drives.length):(f.drives[d]).model=((mdl f d:Nat):Int):=by
 have:=(h.drive d hd).1
 rw[mdl,getD_at hd]; omega
theorem VF.auE {f:aH} (h:VF f) {v:Nat} (hv:v<f.volumes.length):(f.volumes[v]).policy=((JC f v:Nat):Int):=by
 have:=(h.volume v hv).1
 rw[JC,getD_at hv]; omega
theorem VF.aGX {f:aH} (h:VF f) {i:Nat} (h0:0<i) (hi:i<f.domains.length):par f i=((SA f i:Nat):Int):=by
 have:=(h.dom i h0 hi).1
 rw[SA]; omega
theorem oJ {f:aH} (h:VF f) {v:Nat} (hv:v<f.volumes.length):∃ hp:JC f v<f.policies.length,f.policies[JC f v]=gC f v:=by
 have hp:=(h.volume v hv).2
 exact⟨hp,by simp[gC,bgT,hp]⟩
theorem aWP {C:Ctx} (f:aH) (hv:VF f) (v:Nat) (h:v<f.volumes.length) :
  EF.wp C (aX XV.res (bY (.int .i64 (fO f v)))) (PF.args [.agg f.cells,.int .i64 v]) .nil:=by
 obtain⟨hp,he⟩:=oJ hv h
 have hpol:=hv.policy _ (bgA hp)
 rw[he] at hpol
 have hw:IntKind.i64.wrap ((gC f v).k+(gC f v).m)=(gC f v).k+(gC f v).m:=wrap_i64 (by omega) (by omega)
 simp -implicitDefEqProofs only[go_sem,EF,avD,XV]
 refine cD .nil dS PH.nil_le ?_
 simp -implicitDefEqProofs only[go_sem,δ,γ,θ,avE,FF h,hv.auE h,yL hp,he]
 refine aP fun o ho=>?_
 simp -implicitDefEqProofs only[go_sem,δ,γ,θ,avF,hw]
 refine⟨PH.nil_le,?_⟩
 exact fG (n:=(gC f v).k+(gC f v).m) rfl rfl
def abF (f:aH) (level:Int) (i:Nat):PF:=(((PF.nil.set 3 (.rptr f.cells)).set 2 (.int .i64 level)).set 7 (.int .i64 i))
theorem aQY {C:Ctx} (f:aH) (hv:VF f) (d:Nat) (h:d<f.drives.length) (level:Int) (h0:0≤level) (h4:level≤4) :
  yP.wp C (aX JO.res (bY (.int .i64 (iE f d level:Nat)))) (PF.args [.agg f.cells,.int .i64 d,.int .i64 level]) .nil:=by
 simp -implicitDefEqProofs only[go_sem,δ,γ,θ,yP,afW,afX,JO,rV h,hv.aEL h]
 refine wp_loop (α:=Nat) (fun k=>abF f level (upN f k (fF f d))) (fun _=>.nil) (fun k=>k≤4-level.toNat) (fun k=>4-level.toNat-k) 0 (bgE _) ?_ PH.nil_le ?_
 ·unfold abF
  (repeat' (first|exact PF.nil_le|refine PF.aA ?_ ?_))<;>first|(simp -implicitDefEqProofs only[go_sem,γ,upN]<;>rfl)|rfl
 intro k hk
 obtain⟨u1,u2⟩:=YR hv h (k:=k) (by omega)
 simp -implicitDefEqProofs only[go_sem,δ,γ,θ,afV,afY,abF,mR u1,apZ u1]
 by_cases hlt:k<4-level.toNat
 ·have hc:lvl f (upN f k (fF f d))>level:=by rw[u2]; omega
  have hne:0<upN f k (fF f d):=by
   rcases biB (upN f k (fF f d)) with e | e
   ·rw[e,hv.root.2.1] at u2; omega
   ·exact e
  simp -implicitDefEqProofs only[go_sem,δ,γ,θ,hc,afZ,mR u1,WU u1,hv.aGX hne u1]
  refine aJ (k+1) hlt (by omega) ?_ PH.nil_le
  (repeat' (first|exact PF.nil_le|refine PF.aA ?_ ?_))<;>first|(simp -implicitDefEqProofs only[go_sem,γ,upN]<;>rfl)|rfl
 ·have hc:¬ lvl f (upN f k (fF f d))>level:=by rw[u2]; omega
  have:k=4-level.toNat:=by omega
  subst this
  simp -implicitDefEqProofs only[go_sem,γ,hc,agA]
  exact fG rfl rfl
structure LH (C:Ctx):Prop where
 valid:∀ f:aH,f.Ok→aI C 161 [.agg f.cells] .nil (aL (.bool (dE f)))
 lO:∀ (f:aH) (d:Nat) (level:Int),VF f→d<f.drives.length→0≤level→level≤4→aI C 155 [.agg f.cells,.int .i64 d,.int .i64 level] .nil (aL (.int .i64 (iE f d level:Nat)))
 frag:∀ (f:aH) (v:Nat),VF f→v<f.volumes.length→aI C 156 [.agg f.cells,.int .i64 v] .nil (aL (.int .i64 (fO f v)))
def atP (f:aH) (d level:Int):Int:=if dE f∧0≤d∧d<f.drives.length∧0≤level∧level<5 then (iE f d.toNat level:Nat) else -1
theorem a4Q {C:Ctx} (L:LH C) (f:aH) (hf:f.Ok) (d level:Int) :
  SH.wp C (aX tat.res (bY (.int .i64 (atP f d level)))) (PF.args [.agg f.cells,.int .i64 d,.int .i64 level]) .nil:=by
 simp -implicitDefEqProofs only[go_sem,δ,γ,SH,aRA,aRB,tat]
 refine aB (L.valid f hf) rfl ?_
 unfold atP
 cases hv:dE f with
 | false =>
  simp -implicitDefEqProofs only[go_sem,ο,γ,reduceCtorEq,bgM,AL]
  exact fG rfl (by simp)
 | true =>
  have hV:=VF.of hv
  by_cases c1:d<0
  ·simp -implicitDefEqProofs only[go_sem,ο,γ,reduceCtorEq,bgB,c1,AL]
   exact fG rfl (by rw[if_neg (by omega)])
  ·by_cases c2:d≥(f.drives.length:Nat)
   ·simp -implicitDefEqProofs only[go_sem,ο,δ,γ,θ,reduceCtorEq,bgB,c1,bfT,c2,AL]
    exact fG rfl (by rw[if_neg (by omega)])
   ·by_cases c3:level<0
    ·simp -implicitDefEqProofs only[go_sem,ο,δ,γ,θ,reduceCtorEq,bgB,c1,bfT,c2,c3,AL]
     exact fG rfl (by rw[if_neg (by omega)])
    ·by_cases c4:level≥5
     ·simp -implicitDefEqProofs only[go_sem,ο,δ,γ,θ,reduceCtorEq,bgB,c1,bfT,c2,c3,c4,AL]
      exact fG rfl (by rw[if_neg (by omega)])
     ·simp -implicitDefEqProofs only[go_sem,ο,δ,γ,θ,reduceCtorEq,bgB,c1,bfT,c2,c3,c4,aRC]
      have hc:=L.lO f d.toNat level hV (by omega) (by omega) (by omega)
      rw[Int.toNat_of_nonneg (by omega)] at hc
      refine aB hc rfl ?_
      simp -implicitDefEqProofs only[go_sem,ο,γ]
      exact fG rfl (by rw[if_pos (by omega)])
end Go.PM
