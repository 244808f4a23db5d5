/-
  Texts of ours, joined: R1W3 R1W4 MkPlain MdPlain Mv1 MdP2 MkCode MkW1 MkW2 MkW3 MkW4 MkW5 MkW6 MkW7 MkW8 MkW9 MkW10 MkW11 MkW12 MkW13 MkW14 MkW15 MkW16 MdW1 MdW2 MdW3 MdW4 MdW5 MdW6 MdW7 MdW8 Mv2 Mv3 Mv4 MdV L11P1 L11Code L. No condition.
-/
import Derived.Test.YtiikgogbaninlaaGreatRq1
import Derived.Test.YtiikgogbaninlaaGreatRq2
import Derived.Test.YtiikgogbaninlaaGreatRq3
import Derived.Lib.ItoaNum
import Derived.Shelf.Sort.Plain
import Derived.Shelf.Slices.CompactI
import Derived.Shelf.Slices.In.SortNone
import Derived.Lib.SlicesCompact
set_option linter.unusedSimpArgs false
set_option linter.unusedVariables false
open Nat renaming reduceEqDiff → γ, reduceAdd → δ, reduceSub → ε, reduceMul → ζ, reduceLT → η, reduceLeDiff → θ, reduceBEq → τ
open Int renaming reduceLT → ι, reduceLE → κ, reduceEq → μ, reduceToNat → ν, reduceAdd → ξ, reduceNeg → ο, reduceBEq → ρ, reduceBNe → σ
open List renaming reduceReplicate → υ
open List renaming length_map → bwN, range → bwO, replicate → bwP, getElem_mem → bwS, length_append → bwW, getElem?_eq_getElem → bxA, take_of_length_le → bxC, length_singleton → bxD, length_take → bxE, mem_cons → bxF, getD_eq_getElem?_getD → bxI, all_eq_true → bxL, take_length → bxM, drop_zero → bxP, append_assoc → bxU, mem_map → bxV, getElem?_map → bxW, getElem?_eq_none → bxY, getElem?_eq_some_iff → bxZ, mem_append → byA, not_mem_nil → byC, mem_range → byD, drop_eq_getElem_cons → byG, take_succ_eq_append_getElem → byH, length_drop → byI, mem_singleton → byJ, getElem_map → byO, getElem_of_mem → byP, length_cons → byQ, length_set → byR, Sublist → byT, append_nil → byU, length_nil → byV, nil_append → byW, take_append_drop → byX, getElem?_append_right → bzA, map_cons → bzB, mem_of_getElem? → bzC, map_append → bzD, nodup_append → bzE, getElem?_append_left → bzJ, cons_append → bzP, getElem?_take → bzQ, drop_of_length_le → bzU, getElem?_drop → bzV, length_replicate → bzW, eq_nil_of_length_eq_zero → bzY, set_append_right → bzZ
open Nat renaming gcd → bwQ, le_refl → bwR, mul_add → bwX, zero_le → bwZ, lt_or_ge → bxG, mul_assoc → bxH, mul_comm → bxK, add_mul → bxN, zero_add → bxO, mul_le_mul_right → bxQ, mod_eq_of_lt → bxR, mod_lt → bxX, add_zero → byB, pow_succ → byE, min_eq_left → byK, mul_le_mul_left → byM, pos_of_ne_zero → byN, add_assoc → byS, pow_pos → byY, div_lt_iff_lt_mul → bzF, eq_zero_or_pos → bzK, div_add_mod → bzR, div_eq_of_lt → bzS
open Bool renaming false_and → bwT, not_true → bwU, true_and → bwY, not_false → bxB, and_eq_true → bxJ, and_false → bxT, and_true → byL, and_assoc → bzI, false_eq_true → bzN
open Option renaming map_eq_some_iff → bwV, map_some → bxS, some → byZ, getD_some → bzG, bind_eq_some_iff → bzL, bind_some → bzX
open Array renaming replicate → byF, length_toList → bzH, getElem?_eq_getElem → bzM, getElem?_eq_some_iff → bzT
open Int renaming toNat_natCast → bzO
namespace Go.PM
open Go Go.Na
def aWO (a b:Nat):PF:=((PF.nil.set 6 (aD (aF a))).set 7 (aD (aF b)))
structure WR (C:Ctx):Prop extends arH C where
 divide:∀ A B:Nat,B≠0→nl A≤512→nl B≤512→aE C 39 [aD (aF A),aD (aF B)] .nil (aC (nM A B))
def aTY (a b:Nat):PV:=if dK a b then .tup [aD [],.int .i64 2] else .tup [aD (aF (bwQ a b)),.int .i64 0]
theorem bdI {C:Ctx} (L:WR C) (a b:List Nat) (ha:Lim a) (hb:Lim b) (la:a.length≤35184372087808) (lb:b.length≤35184372087808) :
  NL.wp C (aS aEX.res (bV (aTY (val a) (val b)))) (PF.args [aD a,aD b]) .nil:=by
 unfold aTY
 simp only[go_sem,reduceCtorEq,NL,aPZ,aQA,aEX]
 refine aA (L.large a ha la) rfl ?_
 by_cases c1:nl (val a)>512
 ·simp only[go_sem,γ,c1,aiL]
  rw[if_pos (by simp[dK,c1])]
  exact dU rfl
 simp only[go_sem,γ,c1]
 refine aA (L.large b hb lb) rfl ?_
 by_cases c2:nl (val b)>512
 ·simp only[go_sem,γ,reduceCtorEq,c2,aiL]
  rw[if_pos (by simp[dK,c2])]
  exact dU rfl
 rw[if_neg (by simp[dK,c1,c2])]
 simp only[go_sem,γ,reduceCtorEq,c2,aQB]
 refine aA (L.trim a ha la) rfl ?_
 simp only[go_sem,γ]
 refine aA (L.trim b hb lb) rfl ?_
 simp only[go_sem,γ]
 refine wp_loop (α:=Nat × Nat) (fun t=>aWO t.1 t.2) (fun _=>.nil) (fun t=>bwQ t.1 t.2=bwQ (val a) (val b)∧nl t.1≤512∧nl t.2≤512) (fun t=>t.2) (val a,val b) ⟨rfl,by simp only; omega,by simp only; omega⟩ ?_ PH.nil_le ?_
 ·unfold aWO
  exact Lq
 rintro⟨x,y⟩ ⟨hg,hx,hy⟩
 simp only at hg hx hy
 simp only[go_sem,γ,aPY,aQC,aWO,aV]
 by_cases c3:y=0
 ·subst c3
  have:¬ ((nl 0:Nat):Int)>0:=by rw[uP]; decide
  simp only[go_sem,γ,this,aQF]
  refine aU (vs:=[aD (aF x),.int .i64 0]) (.inr rfl) .nil rfl PH.nil_le ⟨?_,rfl⟩
  rw[← hg,Nat.gcd_zero_right]
  exact .refl _
 ·have h0:nl y≠0:=fun h=>c3 (fT.1 h)
  have:((nl y:Nat):Int)>0:=by omega
  simp only[go_sem,γ,this,aQD]
  refine aA (L.divide x y c3 Om Om) rfl ?_
  simp only[go_sem,γ,nM,aQE]
  have hlt:x%y<y:=bxX _ (byN c3)
  refine aJ (y,x%y) ⟨?_,hy,?_⟩ hlt ?_ PH.nil_le
  ·simp only
   rw[← hg,Nat.gcd_comm y,← Nat.gcd_rec y x,Nat.gcd_comm]
  ·have:=eU (Nat.le_of_lt hlt)
   simp only; omega
  ·exact Lq
theorem bdG {C:Ctx} (L:WR C) (a b:List Nat) (ha:Lim a) (hb:Lim b) (la:a.length≤35184372087808) (lb:b.length≤35184372087808) :
  NI.wp C (aS udiv.res (bV (kI (val a) (val b)))) (PF.args [aD a,aD b]) .nil:=by
 unfold kI
 simp only[go_sem,reduceCtorEq,NI,aPS,aPT,udiv]
 refine aA (L.large a ha la) rfl ?_
 by_cases c1:nl (val a)>512
 ·simp only[go_sem,γ,c1,aiK]
  rw[if_pos (by simp[dK,c1])]
  exact oY rfl
 simp only[go_sem,γ,c1]
 refine aA (L.large b hb lb) rfl ?_
 by_cases c2:nl (val b)>512
 ·simp only[go_sem,γ,reduceCtorEq,c2,aiK]
  rw[if_pos (by simp[dK,c2])]
  exact oY rfl
 rw[if_neg (by simp[dK,c1,c2])]
 simp only[go_sem,γ,reduceCtorEq,c2,aPU]
 refine aA (L.trim b hb lb) rfl ?_
 simp only[go_sem,γ,bwN,aV,xR,fT]
 by_cases c3:val b=0
 ·rw[if_pos c3]
  simp only[go_sem,decide_eq_true c3,aPV]
  exact oY rfl
 rw[if_neg c3]
 simp only[go_sem,reduceCtorEq,decide_eq_false c3,aPW]
 refine aA (L.trim a ha la) rfl ?_
 simp only[go_sem,γ]
 refine aA (L.trim b hb lb) rfl ?_
 simp only[go_sem]
 refine aA (L.divide (val a) (val b) c3 Om Om) rfl ?_
 simp only[go_sem,γ,nM,aPX]
 exact aU (.inr rfl) .nil rfl PH.nil_le ⟨.refl _,rfl⟩
def kD (neg:Bool) (a b:Nat):FV:=(neg&&decide (a/bwQ a b≠0),a/bwQ a b,b/bwQ a b)
structure arI (C:Ctx):Prop extends WR C where
 gcd:∀ a b,Lim a→Lim b→a.length≤35184372087808→b.length≤35184372087808→aE C 34 [aD a,aD b] .nil (aC (aTY (val a) (val b)))
 div:∀ a b,Lim a→Lim b→a.length≤35184372087808→b.length≤35184372087808→aE C 33 [aD a,aD b] .nil (aC (kI (val a) (val b)))
theorem qC {n:Nat} (h:nl n≤512):(aF n).length≤35184372087808:=by rw[aV]; omega
theorem sJ:aF 1=[1]:=lI (by decide) (by decide)
theorem ZW {n:Nat} (h:n≠0):aF n=n%4294967296::aF (n/4294967296):=oX h
theorem vH {n:Nat} (h:n≠0):(nl n>1∨n%4294967296>1)↔n≠1:=by
 constructor
 ·rintro h1 rfl
  rcases h1 with h1 | h1
  ·rw[nl,sJ] at h1; simp at h1
  ·omega
 ·intro h1
  by_cases c:nl n>1
  ·exact .inl c
  ·have:n<4294967296 ^ 1:=(fY n 1).1 Om
   rw[Nat.pow_one] at this
   rw[bxR this]
   exact .inr Om
theorem aWU {C:Ctx} (L:arI C) (neg:Bool) (a b:List Nat) (ha:Lim a) (hb:Lim b) (la:a.length≤35184372087808) (lb:b.length≤35184372087808) (na:nl (val a)≤512) (nb:nl (val b)≤512) (h0:val b≠0) :
  wF.wp C (aS BV.res (bV (.agg (kD neg (val a) (val b)).rf.cells))) (PF.args [.bool neg,aD a,aD b]) .nil:=by
 have hg0:bwQ (val a) (val b)≠0:=fun h=>h0 (Nat.eq_zero_of_gcd_eq_zero_right h)
 have hgb:bwQ (val a) (val b)≤val b:=Nat.gcd_le_right _ (byN h0)
 have ng:nl (bwQ (val a) (val b))≤512:=Nat.le_trans (eU hgb) nb
 have hnb:dK (val a) (val b)=false:=fR na nb
 simp only[go_sem,δ,wF,adQ,adR,BV]
 refine aP fun o ho=>?_
 simp only[go_sem,γ]
 refine aA (L.trim a ha la) rfl ?_
 simp only[go_sem,γ]
 refine aA (L.trim b hb lb) rfl ?_
 simp only[go_sem,γ,adS,bwN,aV,xR,fT]
 by_cases c1:val a=0
 ·simp only[go_sem,υ,δ,γ,η,θ,ζ,decide_eq_true c1,adT]
  have e:(kD neg (val a) (val b)).rf=⟨false,[],[1]⟩:=by
   rw[c1]
   unfold kD FV.rf
   simp[eQ,Nat.div_self (byN h0),sJ]
  rw[e]
  refine aU (vs:=[.agg [.bool false,.buJ,aD [1]]]) (.inr rfl) .nil ?_ PH.nil_le ⟨show Co (.agg _) (.agg _) from CoL.agg (CoL.cons (.refl _) (CoL.cons (.nil 1) (CoL.cons (.refl _) .nil))),rfl⟩
  simp only[go_sem,δ,γ]
  rfl
 have hgcd:=L.gcd (aF (val a)) (aF (val b)) (aR _) (aR _) (qC na) (qC nb)
 rw[aQ,aQ,aTY,hnb] at hgcd
 simp only[go_sem,γ,decide_eq_false c1,adU]
 refine aA hgcd rfl ?_
 have fin:∀ x y:Nat,x=val a/bwQ (val a) (val b)→y=val b/bwQ (val a) (val b)→∀ (F:PF) (H:PH),F 0=some (.bool neg)→F 1=some (aD (aF x))→F 2=some (aD (aF y))→F 6=some (.ptr o 3 0 0)→H o=some (.rows 3 [[.bool false,.buJ,.buJ]]) →
   aB.wp C (.seq (.region tX) .ret) (aS [.cell 6 (some 3)] (bV (.agg (kD neg (val a) (val b)).rf.cells))) F H:=by
  intro x y hx hy F H f0 f1 f2 f6 hH
  subst hx; subst hy
  simp only[go_sem,δ,γ,θ,tX,f0,f1,f2,f6,hH]
  have hq:val a/bwQ (val a) (val b)≠0:=by
   have:=Nat.div_pos (Nat.gcd_le_left (val b) (byN c1)) (byN hg0)
   omega
  have e:(kD neg (val a) (val b)).rf=⟨neg,aF (val a/bwQ (val a) (val b)),aF (val b/bwQ (val a) (val b))⟩:=by
   unfold kD FV.rf
   simp only[hq,ne_eq,not_false_eq_true,decide_true,byL]
  rw[e]
  refine aU (vs:=[.agg (dS neg (aF (val a/bwQ (val a) (val b))) (aF (val b/bwQ (val a) (val b))))]) (.inr rfl) .nil ?_ PH.nil_le ⟨.refl _,rfl⟩
  simp only[go_sem,δ,γ,f6]
 simp only[aB.wp,go_sem] at fin
 have hd:=fun x (hx:nl x≤512)=>L.div (aF x) (aF (bwQ (val a) (val b))) (aR _) (aR _) (qC hx) (qC ng)
 simp only[aQ,kI] at hd
 have tail:bwQ (val a) (val b)≠1→∀ (F:PF) (H:PH),F 0=some (.bool neg)→F 1=some (aD (aF (val a)))→F 2=some (aD (aF (val b)))→F 6=some (.ptr o 3 0 0)→F 7=some (aD (aF (bwQ (val a) (val b))))→H o=some (.rows 3 [[.bool false,.buJ,.buJ]]) →
   aB.wp C (.seq (.seq (.region HG) (.region HH)) (.seq (.region tX) .ret)) (aS [.cell 6 (some 3)] (bV (.agg (kD neg (val a) (val b)).rf.cells))) F H:=by
  intro _ F H f0 f1 f2 f6 f7 hH
  have d1:=hd (val a) na
  have d2:=hd (val b) nb
  rw[fR na ng,if_neg hg0] at d1
  rw[fR nb ng,if_neg hg0] at d2
  simp only[go_sem,γ,HG,f1,f7]
  refine aA d1 rfl ?_
  simp only[go_sem,γ,bzN,HH,f2,f7]
  refine aA d2 rfl ?_
  simp only[go_sem,γ,bzN]
  exact fin _ _ rfl rfl _ _ (by simp only[go_sem,reduceCtorEq,f0]) rfl rfl (by simp only[go_sem,γ,f6]) hH
 simp only[aB.wp,go_sem] at tail
 simp only[go_sem,γ,bzN,adV,bwN,aV]
 by_cases c2:nl (bwQ (val a) (val b))>1
 ·have c2':((nl (bwQ (val a) (val b)):Nat):Int)>1:=by omega
  simp only[go_sem,γ,c2']
  exact tail ((vH hg0).1 (.inl c2)) _ _ rfl rfl rfl rfl rfl Sq
 ·have c2':¬ ((nl (bwQ (val a) (val b)):Nat):Int)>1:=by omega
  simp only[go_sem,ν,γ,reduceCtorEq,c2',ZW hg0]
  by_cases c3:bwQ (val a) (val b)%4294967296>1
  ·have c3':((bwQ (val a) (val b)%4294967296:Nat):Int)>1:=by omega
   simp only[go_sem,c3']
   exact tail ((vH hg0).1 (.inr c3)) _ _ rfl rfl rfl rfl (by simp only[go_sem,γ,ZW hg0]) Sq
  ·have c3':¬ ((bwQ (val a) (val b)%4294967296:Nat):Int)>1:=by omega
   have h1:bwQ (val a) (val b)=1:=by
    rcases Decidable.em (bwQ (val a) (val b)=1) with h | h
    ·exact h
    ·rcases (vH hg0).2 h with h | h
     ·exact absurd h c2
     ·exact absurd h c3
   simp only[go_sem,c3']
   exact fin (val a) (val b) (by rw[h1,Nat.div_one]) (by rw[h1,Nat.div_one]) _ _ rfl rfl rfl rfl Sq
theorem a8A {C:Ctx} (v:Int) (h1:-9223372036854775808≤v) (h2:v≤9223372036854775807) :
  HL.wp C (aS aeC.res (aC (.int .u64 (v.natAbs:Nat)))) (PF.args [.int .i64 v]) .nil:=by
 simp only[go_sem,γ,reduceCtorEq,HL,aGK,aGL,aeC]
 by_cases c:v<0
 ·have e1:IntKind.i64.wrap (v+1)=v+1:=wrap_i64 Om Om
  have e2:IntKind.i64.wrap (0-(v+1))=-(v+1):=by rw[wrap_i64 Om Om]; omega
  have e3:IntKind.u64.wrap (IntKind.u64.wrap (-(v+1))+1)=((v.natAbs:Nat):Int):=by
   rw[eV,eV]; omega
  simp only[go_sem,γ,reduceCtorEq,c,aGM,e1,e2,e3]
  refine aI (.inr rfl) rfl ?_
  rfl
 ·have e:IntKind.u64.wrap v=((v.natAbs:Nat):Int):=by
   rw[eV]; omega
  simp only[go_sem,γ,reduceCtorEq,c,aGN,e]
  refine aI (.inr rfl) rfl ?_
  rfl
structure aSN (C:Ctx):Prop extends arI C where
 lowest:∀ neg a b,Lim a→Lim b→a.length≤35184372087808→b.length≤35184372087808→nl (val a)≤512→nl (val b)≤512→val b≠0→aE C 58 [.bool neg,aD a,aD b] .nil (aC (.agg (kD neg (val a) (val b)).rf.cells))
 size:∀ v:Int,cQ v→aE C 59 [.int .i64 v] .nil (aC (.int .u64 (v.natAbs:Nat)))
def mkT (n d:Int):RF:=(kD (decide (n<0) != decide (d<0)) n.natAbs d.natAbs).rf
def BW (n d:Int):PV:=if d=0 then wW 3 else .tup [.agg (mkT n d).cells,.int .i64 0]
theorem a7U {C:Ctx} (L:aSN C) (n d:Int) (h1:cQ n) (h2:cQ d) :
  HI.wp C (aS QD.res (bV (BW n d))) (PF.args [.int .i64 n,.int .i64 d]) .nil:=by
 simp only[go_sem,δ,HI,aFY,aFZ]
 refine aP fun o ho=>?_
 unfold BW
 by_cases c:d=0
 ·subst c
  simp only[go_sem,ρ,δ,γ,aGA]
  refine fS ?_
  simp only[go_sem,δ,γ,QD]
 ·rw[if_neg c]
  simp only[go_sem,γ,reduceCtorEq,bD c,aGB]
  refine aA (L.size n h1) rfl ?_
  simp only[go_sem]
  refine aA (L.make n.natAbs Om) rfl ?_
  simp only[go_sem,γ]
  refine aA (L.size d h2) rfl ?_
  simp only[go_sem]
  refine aA (L.make d.natAbs Om) rfl ?_
  simp only[go_sem]
  have n1:nl n.natAbs≤2:=kY Om
  have n2:nl d.natAbs≤2:=kY Om
  have low:=L.lowest (decide (n<0) != decide (d<0)) (aF n.natAbs) (aF d.natAbs) (aR _) (aR _) (by rw[aV]; omega) (by rw[aV]; omega)
  rw[aQ,aQ] at low
  have low:=low Om Om Om
  refine aA low rfl ?_
  simp only[go_sem,δ,γ]
  exact aU (.inr rfl) .nil (vs:=[.agg (mkT n d).cells,.int .i64 0]) (by simp only[go_sem,δ,γ,QD]; rfl) PH.nil_le ⟨.refl _,rfl⟩
structure arJ (C:Ctx):Prop extends aSN C where
 fmk:∀ n d:Int,cQ n→cQ d→aE C 50 [.int .i64 n,.int .i64 d] .nil (aC (BW n d))
theorem bdU {C:Ctx} (L:arJ C) (n:Int) (h1:cQ n) :
  OB.wp C (aS aFV.res (bV (.agg (mkT n 1).cells))) (PF.args [.int .i64 n]) .nil:=by
 simp only[go_sem,δ,OB,aRF,aRG,aFV]
 refine aP fun o ho=>?_
 simp only[go_sem,reduceCtorEq]
 refine aA (L.fmk n 1 h1 (by unfold cQ; omega)) rfl ?_
 unfold BW
 rw[if_neg (by decide)]
 simp only[go_sem,δ,γ]
 refine aP fun p hp=>?_
 have hne:o≠p:=by
  rintro rfl
  simp only[bL,if_true] at hp
  cases hp
 have bvO:p≠o:=fun h=>hne h.symm
 simp only[go_sem,δ,γ,hne,aRH]
 refine aU (vs:=[.agg (mkT n 1).cells]) (.inr rfl) .nil ?_ PH.nil_le ⟨.refl _,rfl⟩
 simp only[go_sem,δ,γ,bvO]
def eT (l:List Nat) (n a:Nat):Nat × Nat:=if l.length≤a∨n<2 then (0,a) else (l.getD a 0%n,a+1)
def aqT (l:List Nat) (a:Nat):RF × Nat :=
 let x:=eT l 6 a
 let y:=eT l 8 x.2
 (mkT ((1+x.1:Nat):Int) ((1+y.1:Nat):Int),y.2)
abbrev nL:RF:=mkT 0 1
def biN (l:List Nat) (i j a:Nat):RF × Nat :=
 if j=i+1 then aqT l a
 else if j=i then (nL,a)
 else let t:=eT l 3 a
  if t.1=0 then aqT l t.2 else (nL,t.2)
def bgP (l:List Nat) (i a:Nat):Nat→List RF × Nat
 | 0=>([],a)
 | j+1=>let s:=bgP l i a j
  let z:=biN l i j s.2
  (s.1++[z.1],z.2)
structure beQ where
 start:List RF
 exit:List RF
 buN:List (List RF)
 left:Nat
 a:Nat
def bjF (l:List Nat) (n i:Nat) (s:beQ):Nat × Nat:=if i+1<n then eT l (s.left+1) s.a else (s.left,s.a)
def bjB (l:List Nat) (n i a:Nat):RF × Nat :=
 let e:=aqT l a
 if i+1<n then (let t:=eT l 3 e.2; (if t.1=0 then nL else e.1,t.2)) else e
def bfG (l:List Nat) (n a:Nat):Nat→beQ
 | 0=>⟨[],[],[],8,a⟩
 | i+1=>let s:=bfG l n a i
  let k:=bjF l n i s
  let e:=bjB l n i k.2
  let r:=bgP l i e.2 n
  ⟨s.start++[mkT (k.1:Nat) 8],s.exit++[e.1],s.buN++[r.1],s.left-k.1,r.2⟩
def bpA (l:List Nat) (bfZ a:Nat):cD × Nat :=
 let t:=eT l bfZ a
 let s:=bfG l (1+t.1) t.2 (1+t.1)
 (⟨[],s.start,s.buN,s.exit⟩,s.a)
def bgJ (l:List Nat) (a:Nat):Nat→List RF × Nat
 | 0=>([],a)
 | k+1=>let s:=bgJ l a k
  let z:=aqT l s.2
  (s.1++[z.1],z.2)
abbrev xC (n:Nat):List UInt8:=Lib.decDigits n
def a8Q (l:List Nat) (a:Nat):Nat→List cD × Nat
 | 0=>([],a)
 | k+1=>let s:=a8Q l a k
  let z:=bpA l 2 s.2
  (s.1++[{ z.1 with name:=[108,97,119]++xC k }],z.2)
def aLU (l:List Nat) (buS a:Nat):Nat→List cP × Nat
 | 0=>([],a)
 | k+1=>let s:=aLU l buS a k
  let x:=eT l 4 s.2
  let y:=eT l 8 x.2
  let z:=eT l buS y.2
  (s.1++[⟨[109]++xC k,(1+x.1:Nat),(1+y.1:Nat),(z.1:Nat)⟩],z.2)
structure GS where
 buU:List bJ
 bvI:List cA
 a:Nat
def a8L (l:List Nat) (mc buH domain:Nat) (s:GS):Nat→GS
 | 0=>s
 | i+1=>let s:=a8L l mc buH domain s i
  if s.bvI.length<buH then
   let t:=eT l mc s.a
   { s with bvI:=s.bvI++[⟨[100]++xC s.bvI.length,(t.1:Nat),(domain:Nat)⟩],a:=t.2 }
  else s
def aLR (level:Nat):UInt8:=match level with
 | 0=>45
 | 1=>115
 | 2=>114
 | 3=>107
 | _=>109
def boT (l:List Nat) (level domain:Nat) (s:GS):GS :=
 let u:=eT l 16 s.a
 let t:=eT l 3 u.2
 let k:=eT l 6 t.2
 let sh:RF × Nat:=if t.1=0 then (mkT 1 ((2+k.1:Nat):Int),k.2) else (nL,t.2)
 { s with buU:=s.buU++[⟨[aLR level]++xC s.buU.length,(level:Nat),(domain:Nat),(1+u.1:Nat),sh.1⟩],a:=sh.2 }
def bjD (buH:Nat) (s:GS):Bool:=decide (buH≤s.bvI.length)||decide (35≤s.buU.length)
def a8M (l:List Nat) (level buH domain:Nat) (rec:Nat→GS→GS) (s:GS):Nat→GS
 | 0=>s
 | i+1=>let s:=a8M l level buH domain rec s i
  if bjD buH s then s else (let s':=boT l level domain s; rec (s'.buU.length-1) s')
def a8O (l:List Nat) (mc buH:Nat):Nat→Nat→GS→GS
 | 0,domain,s=>let t:=eT l 2 s.a
  a8L l mc buH domain { s with a:=t.2 } (1+t.1)
 | k+1,domain,s=>let t:=eT l 2 s.a
  a8M l (4-k) buH domain (a8O l mc buH k) { s with a:=t.2 } (if 4-k=2 then 1 else 1+t.1)
def hC:bJ:=⟨[],0,-1,0,nL⟩
def PW (l:List Nat) (a:Nat):Int × Nat :=
 let t:=eT l 3 a
 let k:=eT l 3 t.2
 if t.1=0 then ((1+k.1:Nat),k.2) else (0,t.2)
def bcK (l:List Nat) (buI i a:Nat):cV × Nat :=
 let k:=eT l 2 a
 let m:=eT l 3 k.2
 let h:=eT l 4 m.2
 let q:=eT l (m.1+1) h.2
 let r:=bgJ l q.2 (max m.1 1)
 let g:=eT l 9 r.2
 let s1:=PW l g.2
 let s2:=PW l s1.2
 let s3:=PW l s2.2
 let s4:=PW l s3.2
 let f:=eT l buI s4.2
 let b:=eT l 2 f.2
 let ms:List Int × Nat:=if 1<buI then (if b.1=0 then ([(f.1:Int),1-(f.1:Int)],b.2) else ([(f.1:Int)],b.2)) else ([(f.1:Int)],f.2)
 (⟨[112]++xC i,(1+k.1:Nat),(m.1:Nat),(1+k.1+q.1:Nat),0,s1.1,s2.1,s3.1,s4.1,ms.1,r.1,mkT (g.1:Nat) 8,mkT ((1+h.1:Nat):Int) 1⟩,ms.2)
def amY (l:List Nat) (buI a:Nat):Nat→List cV × Nat
 | 0=>([],a)
 | k+1=>let s:=amY l buI a k
  let z:=bcK l buI k s.2
  (s.1++[z.1],z.2)
def aGF (l:List Nat) (pols a:Nat):Nat→List dW × Nat
 | 0=>([],a)
 | k+1=>let s:=aGF l pols a k
  let z:=eT l pols s.2
  (s.1++[⟨[118]++xC k,(z.1:Nat)⟩],z.2)
def YZ (l:List Nat) (buH buK a:Nat):aL × Nat :=
 let e:=eT l 2 a
 let lw:=eT l 2 e.2
 let buS:=a8Q l lw.2 (1+lw.1)
 let md:=eT l 2 buS.2
 let buI:=aLU l (1+lw.1) md.2 (1+md.1)
 let g:=a8O l (1+md.1) buH 4 0 ⟨[hC],[],buI.2⟩
 let pl:=eT l 2 g.a
 let pols:=amY l (1+md.1) pl.2 (1+pl.1)
 let vo:=eT l (buK+1) pols.2
 let vols:=aGF l (1+pl.1) vo.2 vo.1
 (⟨(1+e.1:Nat),buS.1,buI.1,g.buU,g.bvI,pols.1,vols.1⟩,vols.2)
def nxM (l:List Int) (n a:Nat):Nat:=if n=0 then 0 else ((l.getD a ((a%3:Nat):Int))%(n:Int)).toNat
theorem cG (l:List Int) {n:Nat} (h:0<n) (a:Nat):nxM l n a<n:=by
 unfold nxM
 rw[if_neg Om]
 have h1:=Int.emod_lt_of_pos (l.getD a ((a%3:Nat):Int)) (Om:(0:Int)<n)
 have h2:=Int.emod_nonneg (l.getD a ((a%3:Nat):Int)) (Om:(n:Int)≠0)
 omega
def dD (c:UInt8) (n:Nat):List UInt8:=[c,UInt8.ofNat (97+n/26%26),UInt8.ofNat (97+n%26)]
def dB (ds:List bJ) (level parent bvJ:Nat):List bJ:=ds++[⟨dD 110 ds.length,(level:Nat),(parent:Nat),(bvJ:Nat),nL⟩]
structure MS where
 buU:List bJ
 bvI:List cA
 site:Nat
 room:Nat
 rack:Nat
 a:Nat
def eC (l:List Int) (i:Nat) (s:MS):MS :=
 let new (a:Nat):MS :=
  let d1:=dB s.buU 1 0 (16+nxM l 17 a)
  let d2:=dB d1 2 s.buU.length (16+nxM l 17 (a+1))
  let d3:=dB d2 3 d1.length (8+nxM l 9 (a+2))
  ⟨d3,s.bvI,s.buU.length,d1.length,d2.length,a+3⟩
 if i=0 then new s.a
 else if nxM l 4 s.a=0 then new (s.a+1)
 else if nxM l 2 (s.a+1)=0 then ⟨dB s.buU 3 s.room (8+nxM l 9 (s.a+2)),s.bvI,s.site,s.room,s.buU.length,s.a+3⟩
 else { s with a:=s.a+2 }
def gV (l:List Int) (m:Nat):Nat→List cA × Nat→List cA × Nat
 | 0,s=>s
 | k+1,s=>if s.1.length<9 then gV l m k (s.1++[⟨dD 100 s.1.length,((if nxM l 4 s.2=0 then 1 else 0:Nat):Int),(m:Nat)⟩],s.2+1) else s
def xF (l:List Int) (i:Nat) (s:MS):MS :=
 let p:=eC l i s
 let ds:=dB p.buU 4 p.rack (8+nxM l 9 p.a)
 let d:=gV l p.buU.length (1+nxM l 2 (p.a+1)) (p.bvI,p.a+2)
 { p with buU:=ds,bvI:=d.1,a:=d.2 }
def dZ (l:List Int) (s:MS):Nat→MS
 | 0=>s
 | i+1=>xF l i (dZ l s i)
def nN (l:List Int) (n a:Nat):cV :=
 let k:=1+nxM l 2 a
 let m:=nxM l 3 (a+1)
 ⟨dD 112 n,(k:Nat),(m:Nat),(k+nxM l (m+1) (a+2):Nat),0,0,0,(nxM l 4 (a+3):Nat),(nxM l 3 (a+4):Nat),if nxM l 5 (a+5)=0 then [0] else [0,1],bwP (max m 1) (mkT 1 2),mkT 1 1000,mkT 30 1⟩
def gP (l:List Int):Nat→Nat→List cV
 | 0,_=>[]
 | n+1,a=>nN l (n+1) a::gP l n (a+6)
def kA (l:List Int) (pols:Nat):Nat→Nat→List dW
 | 0,_=>[]
 | n+1,a=>⟨dD 118 (n+1),(nxM l pols a:Nat)⟩::kA l pols n (a+1)
def cZ (l:List Int) (buK a:Nat):aL × Nat :=
 let law:cD:=⟨[100,105,115,107],[mkT 1 1],[[mkT 0 1]],[mkT 1 ((100+nxM l 100 (a+1):Nat):Int)]⟩
 let m1:cP:=⟨[98,105,103],(3+nxM l 2 (a+2):Nat),(8+nxM l 9 (a+3):Nat),0⟩
 let m2:cP:=⟨[111,108,100],(1+nxM l 3 (a+4):Nat),(4+nxM l 9 (a+5):Nat),0⟩
 let s:=dZ l ⟨[hC],[],0,0,0,a+7⟩ (3+nxM l 3 (a+6))
 let np:=1+nxM l 2 s.a
 let nv:=1+nxM l buK (s.a+1+6*np)
 (⟨(1+nxM l 2 a:Nat),[law],[m1,m2],s.buU,s.bvI,gP l np (s.a+1),kA l np nv (s.a+2+6*np)⟩,s.a+2+6*np+nv)
def oF (row:List Int) (n:Nat):Nat→Nat→Nat
 | 0,d=>d
 | k+1,d=>if row.contains (d:Int) then oF row n k ((d+1)%n) else d
def tO (l:List Int) (row:List Int) (n a:Nat):Int × Nat :=
 let d:=oF row n n (nxM l n a)
 if row.contains (d:Int) then (-1,a+1) else if nxM l 12 (a+1)=0 then (-1,a+2) else ((d:Int),a+2)
def jE (l:List Int) (n a:Nat):Nat→List Int × Nat
 | 0=>([],a)
 | i+1=>let s:=jE l n a i
  let z:=tO l s.1 n s.2
  (s.1++[z.1],z.2)
def cU (l:List Int) (f:aL) (a:Nat):Nat→List (List Int) × Nat
 | 0=>([],a)
 | v+1=>let s:=cU l f a v
  let r:=jE l f.buH.length s.2 (eW f v).toNat
  (s.1++[r.1],r.2)
def uZ (l:List Int) (x:Int) (a:Nat):Int × Nat :=
 if nxM l 9 a=0 then (0,a+1) else if nxM l 9 a=1 then ((nxM l (x+1).toNat (a+1):Nat),a+2) else (x,a+1)
def eS (l:List Int):List Int→Nat→List Int × Nat
 | [],a=>([],a)
 | x::xs,a=>let z:=uZ l x a
  let r:=eS l xs z.2
  (z.1::r.1,r.2)
theorem aJB (l:List Int) (m:Nat):∀ (k:Nat) (s:List cA × Nat),s.1.length≤9→(gV l m k s).1.length≤9∧s.2≤(gV l m k s).2∧(gV l m k s).2≤s.2+k
 | 0,s,h=>⟨h,bwR _,bwR _⟩
 | k+1,s,h=>by
  rw[gV]
  split
  ·have:=aJB l m k (s.1++[⟨dD 100 s.1.length,((if nxM l 4 s.2=0 then 1 else 0:Nat):Int),(m:Nat)⟩],s.2+1) (by simp; omega)
   simp only at this
   omega
  ·exact⟨h,bwR _,by omega⟩
theorem aLT (a b:Nat):mkT (a:Int) (b:Int)=⟨false,aF (a/bwQ a b),aF (b/bwQ a b)⟩:=by
 have h1:decide ((a:Int)<0)=false:=decide_eq_false Om
 have h2:decide ((b:Int)<0)=false:=decide_eq_false Om
 unfold mkT kD FV.rf
 rw[h1,h2,Int.natAbs_natCast,Int.natAbs_natCast]
 rfl
structure SmF (x:RF) (p q:Nat):Prop where
 eq:x=⟨false,aF (p/bwQ p q),aF (q/bwQ p q)⟩
 a:p≤64
 b:q≤64
 pos:0<q
theorem SmF.mk' {a b:Nat} (ha:a≤64) (hb:b≤64) (h:0<b):SmF (mkT (a:Int) (b:Int)) a b:=⟨aLT a b,ha,hb,h⟩
theorem SmF.num {x:RF} {a b:Nat} (h:SmF x a b):val x.num=a/bwQ a b:=by rw[h.eq,aQ]
theorem SmF.den {x:RF} {a b:Nat} (h:SmF x a b):val x.den=b/bwQ a b:=by rw[h.eq,aQ]
theorem SmF.v {x:RF} {a b:Nat} (h:SmF x a b):x.v=(false,a/bwQ a b,b/bwQ a b):=by
 unfold RF.v
 rw[h.num,h.den,h.eq]
theorem SmF.aAP {x:RF} {a b:Nat} (_:SmF x a b):a/bwQ a b≤a:=Nat.div_le_self ..
theorem SmF.asO {x:RF} {a b:Nat} (_:SmF x a b):b/bwQ a b≤b:=Nat.div_le_self ..
theorem SmF.den_pos {x:RF} {a b:Nat} (h:SmF x a b):0<b/bwQ a b:=Nat.div_pos (Nat.le_of_dvd h.pos (Nat.gcd_dvd_right a b)) (Nat.gcd_pos_of_pos_right a h.pos)
theorem uF {n:Nat} (h:n≤4096):bZ n≤32:=(jS n 32).2 Om
theorem aHK {n:Nat} (h:0<n):0<bZ n:=by
 rcases bzK (bZ n) with e | e
 ·rw[iH] at e; omega
 ·exact e
theorem OA {a b:Nat} (ha:a≤4096) (hb:b≤4096) (h:0<b):cH a b=true:=by
 have h1:=uF ha
 have h2:=uF hb
 have h3:=aHK h
 unfold cH
 rw[decide_eq_true h3,decide_eq_true (Om:bZ b≤4096),decide_eq_true (Om:bZ a≤4096)]
 rfl
theorem bbM {n:Bool} {a b:Nat} (ha:a≤4096) (hb:b≤4096):fU n a b=.ok (n&&decide (a/bwQ a b≠0),a/bwQ a b,b/bwQ a b):=by
 have h1:=uF (Nat.le_trans (Nat.div_le_self a (bwQ a b)) ha)
 have h2:=uF (Nat.le_trans (Nat.div_le_self b (bwQ a b)) hb)
 unfold fU
 rw[if_neg Om]
theorem SmF.lim {x:RF} {a b:Nat} (h:SmF x a b):cC x=true:=by
 have h1:=h.aAP
 have h2:=h.asO
 have h3:=h.den_pos
 have:=h.a
 have:=h.b
 have hn:x.neg=false:=by rw[h.eq]
 unfold cC lN
 rw[h.num,h.den,hn,OA Om Om h3,if_pos rfl,bbM Om Om]
 have e1:=Nat.div_le_self (a/bwQ a b) (bwQ (a/bwQ a b) (b/bwQ a b))
 have e2:=Nat.div_le_self (b/bwQ a b) (bwQ (a/bwQ a b) (b/bwQ a b))
 simp only[bwT,bxB,bwY,bxJ,decide_eq_true_eq]
 exact⟨uF Om,uF Om⟩
theorem SmF.tC {x:RF} {a b:Nat} (h:SmF x a b) (ha:0<a):bW x=true:=by
 unfold bW
 rw[h.num]
 exact decide_eq_true (Nat.ne_of_gt (Nat.div_pos (Nat.le_of_dvd ha (Nat.gcd_dvd_left a b)) (Nat.gcd_pos_of_pos_right a h.pos)))
theorem SmF.zero {x:RF} {b:Nat} (h:SmF x 0 b):bW x=false:=by
 unfold bW
 rw[h.num,Nat.zero_div]
 rfl
theorem SmF.one {x:RF} {a b:Nat} (h:SmF x a b) (hab:a≤b):rC x=true:=by
 have h1:=h.aAP
 have h2:=h.asO
 have h3:=h.den_pos
 have:=h.a
 have:=h.b
 have hn:x.neg=false:=by rw[h.eq]
 unfold rC
 rw[h.num,h.den,hn,OA Om Om h3]
 have:a/bwQ a b≤b/bwQ a b:=Nat.div_le_div_right hab
 show (true&&decide (cW (a/bwQ a b*1) (1*(b/bwQ a b))≤0))=true
 rw[Nat.mul_one,Nat.one_mul,bwY]
 refine decide_eq_true ?_
 unfold cW
 split
 ·decide
 ·split
  ·omega
  ·decide
theorem SmF.ok {x:RF} {a b:Nat} (h:SmF x a b):x.Ok:=by
 have h1:=h.aAP
 have h2:=h.asO
 have:=h.a
 have:=h.b
 have k1:nl (a/bwQ a b)≤1:=(fY _ _).2 Om
 have k2:nl (b/bwQ a b)≤1:=(fY _ _).2 Om
 rw[h.eq]
 refine⟨aR _,aR _,?_,?_⟩
 ·show (aF _).length≤_
  rw[aV]; omega
 ·show (aF _).length≤_
  rw[aV]; omega
theorem QI {l:List (List UInt8)} (h1:∀ x∈l,isName x=true) (h2:l.Nodup):distinct l=true:=by
 unfold distinct
 rw[bxL]
 intro i hi
 rw[byD] at hi
 have e:l.getD i []=l[i]:=by simp[bxI,hi]
 rw[e,h1 _ (bwS hi),bwY]
 have:¬ l[i]∈l.take i:=by
  intro hm
  obtain⟨j,hj,e⟩:=byP hm
  rw[bxE] at hj
  rw[List.getElem_take] at e
  have:=(List.nodup_iff_pairwise_ne.1 h2)
  rw[List.pairwise_iff_getElem] at this
  exact this j i Om hi Om e
 simp[this]
theorem LC {l:List (List UInt8)} {g:List UInt8→Nat} (h:∀ i (hi:i<l.length),g l[i]=i):l.Nodup:=by
 rw[List.nodup_iff_pairwise_ne,List.pairwise_iff_getElem]
 intro i j hi hj hlt e
 have h1:=h i hi
 have h2:=h j hj
 rw[e] at h1
 omega
theorem mK (a b:Nat) (ha:a<4294967296) (hb:b<4294967296):(mkT (a:Int) (b:Int)).Ok:=by
 rw[aLT]
 have h1:=Nat.div_le_self a (bwQ a b)
 have h2:=Nat.div_le_self b (bwQ a b)
 have k1:nl (a/bwQ a b)≤1:=(fY _ _).2 Om
 have k2:nl (b/bwQ a b)≤1:=(fY _ _).2 Om
 refine⟨aR _,aR _,?_,?_⟩
 ·show (aF _).length≤_
  rw[aV]; omega
 ·show (aF _).length≤_
  rw[aV]; omega
theorem jL {n:Nat} (h:n≤1000000):cQ (n:Int):=by unfold cQ; omega
def IU (ds:List bJ):Prop:=∀ x∈ds,x.bvB.Ok∧cQ x.level∧cQ x.parent
def WM (ds:List cA):Prop:=∀ x∈ds,cQ x.model∧cQ x.machine
theorem IU.dom {ds:List bJ} (h:IU ds) {level parent bvJ:Nat} (h1:level≤1000) (h2:parent≤1000):IU (dB ds level parent bvJ):=fun x hx=>by
 unfold dB at hx
 rw[byA,byJ] at hx
 rcases hx with hx | rfl
 ·exact h x hx
 ·exact⟨mK 0 1 (by decide) (by decide),jL Om,jL Om⟩
structure MOk (k:Nat) (a0:Nat) (s:MS):Prop where
 len:s.buU.length≤1+4*k
 buU:IU s.buU
 dlen:s.bvI.length≤9
 bvI:WM s.bvI
 room:s.room≤4*k
 rack:s.rack≤4*k
 lo:a0≤s.a
 hi:s.a≤a0+8*k
structure POk (k:Nat) (a0:Nat) (s:MS):Prop where
 len:s.buU.length≤4+4*k
 buU:IU s.buU
 dlen:s.bvI.length≤9
 bvI:WM s.bvI
 room:s.room≤3+4*k
 rack:s.rack≤3+4*k
 lo:a0≤s.a
 hi:s.a≤a0+8*k+4
theorem mJ (ds:List bJ) (a b c:Nat):(dB ds a b c).length=ds.length+1:=by simp[dB]
theorem RY (l:List Int) (i:Nat) {k a0:Nat} {s:MS} (hk:k≤100) (h:MOk k a0 s):POk k a0 (eC l i s):=by
 obtain⟨h1,h2,h3,h4,h5,h6,h7,h8⟩:=h
 have key:∀ a,s.a≤a→a≤s.a+1→POk k a0 ⟨dB (dB (dB s.buU 1 0 (16+nxM l 17 a)) 2 s.buU.length (16+nxM l 17 (a+1))) 3 (dB s.buU 1 0 (16+nxM l 17 a)).length (8+nxM l 9 (a+2)),s.bvI,s.buU.length,(dB s.buU 1 0 (16+nxM l 17 a)).length,(dB (dB s.buU 1 0 (16+nxM l 17 a)) 2 s.buU.length (16+nxM l 17 (a+1))).length,a+3⟩:=fun a g1 g2 =>
  ⟨by simp only[mJ]; omega,((h2.dom Om Om).dom Om Om).dom Om (by rw[mJ]; omega),h3,h4,by simp only[mJ]; omega,by simp only[mJ]; omega,by simp only; omega,by simp only; omega⟩
 unfold eC
 simp only
 split
 ·exact key _ (bwR _) Om
 ·split
  ·exact key _ Om (bwR _)
  ·split
   ·exact⟨by simp only[mJ]; omega,h2.dom Om Om,h3,h4,by simp only; omega,by simp only; omega,by simp only; omega,by simp only; omega⟩
   ·exact⟨by simp only; omega,h2,h3,h4,by simp only; omega,by simp only; omega,by simp only; omega,by simp only; omega⟩
theorem akC (l:List Int) {m:Nat} (hm:m≤1000):∀ (k:Nat) (s:List cA × Nat),WM s.1→WM (gV l m k s).1
 | 0,s,h=>h
 | k+1,s,h=>by
  rw[gV]
  split
  ·refine akC l hm k _ fun x hx=>?_
   rw[byA,byJ] at hx
   rcases hx with hx | rfl
   ·exact h x hx
   ·refine⟨jL ?_,jL Om⟩
    split<;>omega
  ·exact h
theorem aUR (l:List Int) (i:Nat) {k a0:Nat} {s:MS} (hk:k≤100) (h:MOk k a0 s):MOk (k+1) a0 (xF l i s):=by
 obtain⟨h1,h2,h3,h4,h5,h6,h7,h8⟩:=RY l i hk h
 have n2:=cG l (show 0<2 by decide) ((eC l i s).a+1)
 unfold xF
 simp only
 obtain⟨g1,g2,g3⟩:=aJB l (eC l i s).buU.length (1+nxM l 2 ((eC l i s).a+1)) ((eC l i s).bvI,(eC l i s).a+2) h3
 have g4:=akC l (m:=(eC l i s).buU.length) Om (1+nxM l 2 ((eC l i s).a+1)) ((eC l i s).bvI,(eC l i s).a+2) h4
 simp only at g2 g3
 exact⟨by simp only[mJ]; omega,h2.dom Om Om,g1,g4,by simp only; omega,by simp only; omega,by simp only; omega,by simp only; omega⟩
theorem nY (l:List Int) {a0:Nat} {s:MS} (h:MOk 0 a0 s):∀ k,k≤100→MOk k a0 (dZ l s k)
 | 0,_=>h
 | k+1,hk=>aUR l k Om (nY l h k Om)
theorem aaO (a:Nat):MOk 0 a ⟨[hC],[],0,0,0,a⟩ :=
 ⟨by simp,fun x hx=>by
  rw[byJ] at hx
  subst hx
  exact⟨mK 0 1 (by decide) (by decide),by unfold cQ hC; simp,by unfold cQ hC; simp⟩,by simp,(fun x hx=>by cases hx),by simp,by simp,bwR _,by simp only; omega⟩
theorem pB (l:List Int):∀ n a,(gP l n a).length=n
 | 0,_=>rfl
 | n+1,a=>by rw[gP,byQ,pB l n]
theorem xW (l:List Int) (p:Nat):∀ n a,(kA l p n a).length=n
 | 0,_=>rfl
 | n+1,a=>by rw[kA,byQ,xW l p n]
theorem baZ:(mkT 1 2).Ok:=mK 1 2 (by decide) (by decide)
theorem bcH (l:List Int) (n a:Nat):(nN l n a).Ok:=by
 have n1:=cG l (show 0<2 by decide) a
 have n2:=cG l (show 0<3 by decide) (a+1)
 have n3:=cG l (Om:0<nxM l 3 (a+1)+1) (a+2)
 unfold nN
 refine⟨jL Om,jL Om,jL Om,?_,?_,⟨?_,?_⟩,mK 1 1000 (by decide) (by decide),mK 30 1 (by decide) (by decide)⟩
 ·simp only; split<;>decide
 ·simp only
  intro m hm
  split at hm
  ·rw[byJ] at hm; subst hm; exact jL (n:=0) (by decide)
  ·rw[bxF,byJ] at hm
   rcases hm with rfl | rfl
   ·exact jL (n:=0) (by decide)
   ·exact jL (n:=1) (by decide)
 ·show (bwP _ _).length≤_
  rw[bzW]; omega
 ·intro x hx
  rw[List.eq_of_mem_replicate hx]; exact baZ
theorem aBN (l:List Int):∀ n a,∀ p∈gP l n a,p.Ok
 | 0,_,p,h=>by cases h
 | n+1,a,p,h=>by
  rw[gP,bxF] at h
  rcases h with rfl | h
  ·exact bcH l _ _
  ·exact aBN l n _ p h
theorem aGE (l:List Int) {p:Nat} (hp:0<p) (hp2:p≤1000):∀ n a,∀ x∈kA l p n a,0≤x.buX∧x.buX<p∧cQ x.buX
 | 0,_,x,h=>by cases h
 | n+1,a,x,h=>by
  rw[kA,bxF] at h
  rcases h with rfl | h
  ·have:=cG l hp a
   exact⟨by simp only; omega,by simp only; omega,jL Om⟩
  ·exact aGE l hp hp2 n _ x h
theorem aBM (l:List Int):∀ n a,∀ p∈gP l n a,1≤p.k∧p.k≤2∧0≤p.m∧p.m≤2
 | 0,_,p,h=>by cases h
 | n+1,a,p,h=>by
  rw[gP,bxF] at h
  rcases h with rfl | h
  ·have n1:=cG l (show 0<2 by decide) a
   have n2:=cG l (show 0<3 by decide) (a+1)
   unfold nN
   simp only
   omega
  ·exact aBM l n _ p h
structure FM (f:aL):Prop where
 ok:f.Ok
 km:∀ p∈f.buM,1≤p.k∧p.k≤2∧0≤p.m∧p.m≤2
 buH:f.buH.length≤9
 pols:1≤f.buM.length∧f.buM.length≤2
 vols:∀ x∈f.buK,0≤x.buX∧x.buX<f.buM.length
theorem wV (l:List Int) {buK:Nat} (hv:buK≤1000) (a:Nat):FM (cZ l buK a).1∧(cZ l buK a).1.buK.length≤1+buK∧a≤(cZ l buK a).2∧(cZ l buK a).2≤a+100+buK:=by
 have n3:=cG l (show 0<3 by decide) (a+6)
 obtain⟨h1,h2,h3,h4,-,-,h7,h8⟩:=nY l (aaO (a+7)) (3+nxM l 3 (a+6)) Om
 unfold cZ
 simp only
 generalize dZ l ⟨[hC],[],0,0,0,a+7⟩ (3+nxM l 3 (a+6))=s at *
 have n2:=cG l (show 0<2 by decide) s.a
 have nv:nxM l buK (s.a+1+6*(1+nxM l 2 s.a))≤buK:=by
  rcases bzK buK with e | e
  ·subst e; unfold nxM; simp
  ·exact Nat.le_of_lt (cG l e _)
 have n100:=cG l (show 0<100 by decide) (a+1)
 have hvo:=aGE l (p:=1+nxM l 2 s.a) Om Om (1+nxM l buK (s.a+1+6*(1+nxM l 2 s.a))) (s.a+2+6*(1+nxM l 2 s.a))
 refine⟨⟨⟨by simp,by simp,by unfold Fits; simp only; omega,by unfold Fits; simp only; omega,by unfold Fits; rw[pB]; omega,by unfold Fits; rw[xW]; omega,?_,h2,h4,fun p hp=>aBN l _ _ p hp,fun x hx=>(hvo x hx).2.2⟩,fun p hp=>aBM l _ _ p hp,h3,by rw[pB]; omega,fun x hx=>by rw[pB]; exact⟨(hvo x hx).1,by have:=(hvo x hx).2.1; omega⟩⟩,by rw[xW]; omega,by omega,by omega⟩
 intro x hx
 rw[byJ] at hx
 subst hx
 refine⟨⟨by simp,fun x hx=>?_⟩,⟨by simp,fun x hx=>?_⟩,by simp,fun r hr=>?_⟩
 ·rw[byJ] at hx; subst hx; exact mK 1 1 (by decide) (by decide)
 ·rw[byJ] at hx; subst hx; exact mK 1 _ (by decide) Om
 ·rw[byJ] at hr
  subst hr
  refine⟨by simp,fun x hx=>?_⟩
  rw[byJ] at hx; subst hx; exact mK 0 1 (by decide) (by decide)
theorem FM.pol {f:aL} (h:FM f) {v:Nat} (hv:v<f.buK.length):tA f v<f.buM.length∧eY f v∈f.buM:=by
 have h1:=h.vols _ (bwS hv)
 have h2:tA f v=(f.buK[v]).buX.toNat:=by rw[tA,mX hv]
 have h3:tA f v<f.buM.length:=by omega
 refine⟨h3,?_⟩
 unfold eY
 rw[bxI,bxA h3,bzG]
 exact bwS h3
theorem FM.TS {f:aL} (h:FM f) {v:Nat} (hv:v<f.buK.length):1≤eW f v∧eW f v≤4:=by
 have:=h.km _ (h.pol hv).2
 unfold eW
 omega
theorem BN (l:List Int) (n a:Nat):∀ k,(jE l n a k).1.length=k∧a≤(jE l n a k).2∧(jE l n a k).2≤a+2*k
 | 0=>⟨rfl,bwR _,bwR _⟩
 | k+1=>by
  obtain⟨h1,h2,h3⟩:=BN l n a k
  rw[jE]
  simp only[bwW,bxD,h1,true_and]
  unfold tO
  simp only
  split
  ·simp only; omega
  ·split<;>simp only<;>omega
theorem pX (l:List Int) {f:aL} (hf:FM f) (a:Nat):∀ k,k≤f.buK.length→(cU l f a k).1.length=k∧(∀ r∈(cU l f a k).1,r.length≤4)∧a≤(cU l f a k).2∧(cU l f a k).2≤a+8*k
 | 0,_=>⟨rfl,(fun r h=>by cases h),bwR _,bwR _⟩
 | k+1,hk=>by
  obtain⟨h1,h2,h3,h4⟩:=pX l hf a k Om
  have hfr:=hf.TS (v:=k) Om
  obtain⟨r1,r2,r3⟩:=BN l f.buH.length (cU l f a k).2 (eW f k).toNat
  rw[cU]
  simp only[bwW,bxD,h1,true_and]
  refine⟨fun r hr=>?_,by omega,by omega⟩
  rw[byA,byJ] at hr
  rcases hr with hr | rfl
  ·exact h2 r hr
  ·rw[r1]; omega
def aCU:Rg:=[iA 2 (.box true (Tm 0)),iI 4 0]
def aCV:Rd:=[(iF 6 5 2,false),(iL 7 6,false),(iF 8 6 2,false),(iL 9 8,false),(iM 10 1,false),(iX 11 2 9 10,false),(iF 12 1 11,false),(iL 13 12,false),(iX 14 17 7 13,false),(iO 15 17 14,false),(iA 5 (.alloc [(.str []),(.int .i64 0),(.int .i64 0),(.int .i64 0),(.int .i64 0),(.int .i64 0),(.int .i64 0),(.int .i64 0),(.int .i64 0),.buJ,.buJ,(.bool false),.buJ,.buJ,(.bool false),.buJ,.buJ]),true),(iS 17 5 15,true)]
def aCW:Rg:=[iF 16 1 5,iL 17 16,iF 18 2 5,iL 19 18,iB 20 .add 17 19,iM 4 20]
def GB:aB:=(sq aCU (dq aCV (sq aCW .ret)))
def a6Q:List Nat:=[2]
def abZ:aW:=⟨2,21,GB,[.tmp 4]⟩
abbrev bjS (l:List Nat):List (List PV):=l.map fun (n:Nat)=>[PV.int .u8 (n:Int)]
abbrev aqV (v:PV) (a:Nat):cM:=.rows 2 [[v,.int .i64 a]]
structure Tp (l:List Nat) (v:PV):Prop where
 seen:Seen 1 v (bjS l)
 byte:∀ x∈l,x<256
 len:l.length≤400
section
variable {C:Ctx} {F:PF} {H:PH} {l:List Nat} {v:PV} {o a:Nat}
end
abbrev PK (l:List RF):List (List PV):=l.map RF.cells
theorem aTW (l:List RF) (x:RF):PK l++[x.cells]=PK (l++[x]):=by simp[PK]
theorem JX (l:List RF):(PK l).length=l.length:=by simp[PK]
theorem Tp.frz {l:List Nat} {v:PV} (T:Tp l v) (q s:Nat) (rs:List (List PV)):PV.dX q s rs v=v:=by
 rcases T.seen with ⟨_,rfl⟩ | rfl<;>rfl



section
variable {C:Ctx} {F:PF} {H Hs:PH} {l:List Nat} {v:PV} {o a:Nat}
end
theorem bR.yP {H:PH} {s:Nat} {v:PV} {rows:List (List PV)} (h:bR H s v rows):PV.yP v=some (.int .i64 (rows.length:Nat)):=by
 rcases h with ⟨rfl,rfl⟩ | ⟨q,rs,rfl,_⟩<;>rfl
abbrev dC (l:List bJ):List (List PV):=l.map bJ.cells
abbrev dT (l:List cA):List (List PV):=l.map cA.cells
abbrev flB (ext wl wm wd wr wp wv:PV):cM:=.rows 7 [[ext,wl,wm,wd,wr,wp,wv]]
structure GE where
 o:Nat
 fo:Nat
 qm:Nat
 ext:PV
 wl:PV
 wp:PV
 wv:PV
abbrev GE.boxes (G:GE) (v:PV) (mc:Nat) (wd wr:PV) (a:Nat):List BX:=[(G.o,aqV v a),(G.fo,flB G.ext G.wl (.osl G.qm 4 0 mc) wd wr G.wp G.wv)]
theorem bR.one {H:PH} {s:Nat} {v:PV} {rows:List (List PV)} (h:bR H s v rows) (hn:0<rows.length):∃ q,v=.osl q s 0 rows.length:=by
 rcases h with ⟨rfl,_⟩ | ⟨q,rs,rfl,_⟩
 ·simp at hn
 ·exact⟨q,rfl⟩


structure FE where
 o:Nat
 o6:Nat
 o7:Nat
 buH:Nat
 buK:Nat
abbrev flZ:cM:=flB (.int .i64 0) .buJ .buJ .buJ .buJ .buJ .buJ
abbrev FE.boxes (E:FE) (v ext w1 w2 w3 w4 w5 w6:PV) (a:Nat):List BX:=[(E.o,aqV v a),(E.o7,flB ext w1 w2 w3 w4 w5 w6),(E.o6,flZ)]
abbrev ayE (l:List cD):List (List PV):=l.map cD.cells
abbrev aZF (l:List cP):List (List PV):=l.map cP.cells


abbrev FE.lists (w1 w2 w3 w4 w5:PV) (lw:List cD) (md:List cP) (dm:List bJ) (dv:List cA) (pr:List (List PV)):List LI:=[(w1,4,ayE lw),(w2,4,aZF md),(w3,7,dC dm),(w4,3,dT dv),(w5,17,pr)]
abbrev kJ (l:List cV):List (List PV):=l.map cV.cells
abbrev oA (l:List dW):List (List PV):=l.map dW.cells
theorem qF {rows:List (List PV)} (h:∀ r∈rows,∀ c∈r,c.oid=none):Flat rows:=Flat.of fun r hr c hc q s rs=>tN (h r hr c hc) q s rs
theorem aJA (l:List bJ):Flat (dC l):=qF fun r hr c hc=>by
 obtain⟨x,_,rfl⟩:=bxV.1 hr
 simp only[bJ.cells,bxF,byC,or_false] at hc
 rcases hc with rfl | rfl | rfl | rfl | rfl | rfl | rfl<;>rfl
theorem aJC (l:List cA):Flat (dT l):=qF fun r hr c hc=>by
 obtain⟨x,_,rfl⟩:=bxV.1 hr
 simp only[cA.cells,bxF,byC,or_false] at hc
 rcases hc with rfl | rfl | rfl<;>rfl
theorem bdW (l:List dW):Flat (oA l):=qF fun r hr c hc=>by
 obtain⟨x,_,rfl⟩:=bxV.1 hr
 simp only[dW.cells,bxF,byC,or_false] at hc
 rcases hc with rfl | rfl<;>rfl
theorem aNO (l:List cV):Flat (kJ l):=qF fun r hr c hc=>by
 obtain⟨x,_,rfl⟩:=bxV.1 hr
 simp only[cV.cells,bxF,byC,or_false] at hc
 rcases hc with rfl | rfl | rfl | rfl | rfl | rfl | rfl | rfl | rfl | rfl | rfl | rfl | rfl | rfl | rfl | rfl | rfl<;>rfl
def aXJ (l:List Nat) (v:PV) (o buH buK a:Nat) (r:PV) (H:PH):Prop:=Co r (.agg (YZ l buH buK a).1.cells)∧H=PH.nil.set o (aqV v (YZ l buH buK a).2)
theorem aXJ.exact {C:Ctx} {name:Nat} {args:List PV} {H:PH} {l:List Nat} {v:PV} {o buH buK a:Nat} (h:aE C name args H (aXJ l v o buH buK a)):aE C name args H (fun r H=>r=.agg (YZ l buH buK a).1.cells∧H=PH.nil.set o (aqV v (YZ l buH buK a).2)) :=
 h.post fun r H' hr=>⟨_,hr.1,rfl,hr.2⟩
theorem bjQ (x:Int) {n:Int} (h:0<n):(if Int.tmod x n<0 then Int.tmod x n+n else Int.tmod x n)=x%n:=by
 rcases Int.le_total 0 x with c | c
 ·have e:=Int.tmod_eq_emod_of_nonneg c (b:=n)
  have h1:=Int.emod_nonneg x (Om:n≠0)
  rw[e,if_neg Om]
 ·have e:Int.tmod x n=-((-x)%n):=by rw[← Int.tmod_eq_emod_of_nonneg (Om:0≤-x),Int.neg_tmod,Int.neg_neg]
  have h1:=Int.emod_nonneg (-x) (Om:n≠0)
  have h2:=Int.neg_emod (a:=-x) (b:=n)
  rw[Int.neg_neg] at h2
  rw[e,h2]
  by_cases d:n ∣ -x
  ·rw[if_pos d,Int.emod_eq_zero_of_dvd d]
   simp
  ·have h3:(-x)%n≠0:=fun h=>d (Int.dvd_of_emod_eq_zero h)
   rw[if_neg d,if_pos Om]
   omega
abbrev bE (l:List Int) (a:Nat):cM:=.rows 2 [[ints l,.int .i64 (a:Nat)]]
def WP (l:List Int) (o n a:Nat) (r:PV) (H:PH):Prop:=r=.int .i64 (nxM l n a:Nat)∧H=PH.nil.set o (bE l (a+1))
theorem a3V {C:Ctx} (l:List Int) (hl:l.length≤9223372036854775807) (h64:∀ x∈l,cQ x) (o n a:Nat) (hn:n≤1000000) (ha:a≤1000000):DO.wp C (aS DN.res (WP l o n a)) (PF.args [.ptr o 2 0 0,.int .i64 n]) (PH.nil.set o (bE l a)):=by
 have ew:IntKind.i64.wrap ((a:Int)+1)=((a+1:Nat):Int):=cY Om
 have e3:Int.tmod ((a:Nat):Int) 3=((a%3:Nat):Int):=rfl
 have rest:∀ (x:Int) (F:PF),cQ x→x=l.getD a ((a%3:Nat):Int)→F 0=some (.ptr o 2 0 0)→F 1=some (.int .i64 n)→F 5=some (.int .i64 x) →
   aB.wp C (.seq (.region TJ) (.seq (.seq (.region TK) (.cond (.tmp 40) (.seq (.region TL) .ret) .skip)) (.seq (.region TM) (.seq (.seq (.region TN) (.cond (.tmp 45) (.seq (.region TO) .ret) .skip)) (.seq (.region JI) .ret))))) (aS DN.res (WP l o n a)) F (PH.nil.set o (bE l a)):=by
  intro x F hx he f0 f1 f5
  simp only[go_sem,γ,δ,ε,ζ,η,θ,ι,κ,μ,ν,ξ,ο,ρ,σ,τ,υ,reduceIte,reduceCtorEq,TJ,f0,ew,TK,f1,DN]
  by_cases c:n=0
  ·have c':((n:Nat):Int)<1:=by omega
   simp only[go_sem,γ,δ,ε,ζ,η,θ,ι,κ,μ,ν,ξ,ο,ρ,σ,τ,υ,reduceIte,reduceCtorEq,c',TL]
   refine aU (vs:=[.int .i64 0]) (.inr rfl) _ rfl PH.le_refl ⟨?_,rfl⟩
   unfold nxM
   rw[if_pos c]; rfl
  ·have c':¬ ((n:Nat):Int)<1:=by omega
   have hn0:¬ ((n:Nat):Int)=0:=by omega
   have hm:=bjQ x (Om:(0:Int)<n)
   have h1:=Int.emod_nonneg x (Om:(n:Int)≠0)
   have h2:=Int.emod_lt_of_pos x (Om:(0:Int)<n)
   have hT:nxM l n a=(x%(n:Int)).toNat:=by unfold nxM; rw[if_neg c,he]
   simp only[go_sem,γ,δ,ε,ζ,η,θ,ι,κ,μ,ν,ξ,ο,ρ,σ,τ,υ,reduceIte,reduceCtorEq,c',TM,f5,f1,hn0,TN]
   by_cases d:Int.tmod x n<0
   ·rw[if_pos d] at hm
    have e4:IntKind.i64.wrap (Int.tmod x n+n)=((nxM l n a:Nat):Int):=by rw[hm,wrap_i64 Om Om,hT]; omega
    simp only[go_sem,γ,δ,ε,ζ,η,θ,ι,κ,μ,ν,ξ,ο,ρ,σ,τ,υ,reduceIte,reduceCtorEq,d,TO,f1,e4]
    exact aU (vs:=[.int .i64 (nxM l n a:Nat)]) (.inr rfl) _ rfl PH.le_refl ⟨rfl,rfl⟩
   ·rw[if_neg d] at hm
    have e4:Int.tmod x n=((nxM l n a:Nat):Int):=by rw[hm,hT]; omega
    have d':¬ ((nxM l n a:Nat):Int)<0:=by omega
    simp only[go_sem,γ,δ,ε,ζ,η,θ,ι,κ,μ,ν,ξ,ο,ρ,σ,τ,υ,reduceIte,reduceCtorEq,e4,d',JI]
    exact aU (vs:=[.int .i64 (nxM l n a:Nat)]) (.inr rfl) _ rfl PH.le_refl ⟨rfl,rfl⟩
 simp only[aB.wp,go_sem] at rest
 simp only[go_sem,γ,δ,ε,ζ,η,θ,ι,κ,μ,ν,ξ,ο,ρ,σ,τ,υ,reduceIte,reduceCtorEq,DO,atC,atD,DN,e3]
 refine bM .nil dV PH.nil_le ?_
 simp only[go_sem,γ,δ,ε,ζ,η,θ,ι,κ,μ,ν,ξ,ο,ρ,σ,τ,υ,reduceIte,reduceCtorEq,atE,bwN]
 by_cases c:a<l.length
 ·have c':(a:Int)<(l.length:Nat):=by omega
  have hat:(l.map fun n=>[PV.int .i64 n])[a]?=some [.int .i64 l[a]]:=by simp[c]
  simp only[go_sem,γ,δ,ε,ζ,η,θ,ι,κ,μ,ν,ξ,ο,ρ,σ,τ,υ,reduceIte,reduceCtorEq,c']
  refine bM .nil dV PH.nil_le ?_
  simp only[go_sem,γ,δ,ε,ζ,η,θ,ι,κ,μ,ν,ξ,ο,ρ,σ,τ,υ,reduceIte,reduceCtorEq,atF,hat]
  refine rest l[a] _ (h64 _ (bwS c)) (by simp[bxI,c]) ?_ ?_ ?_
  all_goals exact rfl
 ·have c':¬ (a:Int)<(l.length:Nat):=by omega
  simp only[go_sem,γ,δ,ε,ζ,η,θ,ι,κ,μ,ν,ξ,ο,ρ,σ,τ,υ,reduceIte,reduceCtorEq,c']
  refine rest ((a%3:Nat):Int) _ (by unfold cQ; omega) (by simp[bxI,bxY (Om:l.length≤a)]) ?_ ?_ ?_
  all_goals exact rfl
def TpM (l:List Int):Prop:=l.length≤9223372036854775807∧∀ x∈l,cQ x
structure CE (C:Ctx):Prop where
 fmk:∀ n d:Int,cQ n→cQ d→aE C 50 [.int .i64 n,.int .i64 d] .nil (aC (BW n d))
 next:∀ l:List Int,TpM l→∀ o n a:Nat,n≤1000000→a≤1000000→aE C 240 [.ptr o 2 0 0,.int .i64 n] (PH.nil.set o (bE l a)) (WP l o n a)
theorem cB {C:Ctx} {F:PF} {H:PH} {l:List Int} {o a:Nat} (Lb:CE C) (T:TpM l) {n:Nat} {args:List aO} {d:Option Nat} {K:PF→PH→Prop} (hn:n≤1000000) (ha:a≤1000000) (bwC:aO.evs F args=some [.ptr o 2 0 0,.int .i64 n]) (ho:H o=some (bE l a))
  (hk:K (F.put d (.int .i64 (nxM l n a:Nat))) (H.set o (bE l (a+1)))):fQ C 240 args [] d K F H :=
 AH (Lb.next l T o n a hn ha) ho bwC hk
theorem a3M {C:Ctx} (Lb:CE C) (n d:Int) (h1:cQ n) (h2:cQ d) (hd:d≠0):DJ.wp C (aS YE.res (aC (.agg (mkT n d).cells))) (PF.args [.int .i64 n,.int .i64 d]) .nil:=by
 simp only[go_sem,γ,δ,ε,ζ,η,θ,ι,κ,μ,ν,ξ,ο,ρ,σ,τ,υ,reduceIte,reduceCtorEq,DJ,asP,YE]
 refine aP fun p hp=>?_
 simp only[go_sem,γ,δ,ε,ζ,η,θ,ι,κ,μ,ν,ξ,ο,ρ,σ,τ,υ,reduceIte,reduceCtorEq,asQ]
 refine aA (Lb.fmk n d h1 h2) rfl ?_
 unfold BW
 rw[if_neg hd]
 simp only[go_sem,γ,δ,ε,ζ,η,θ,ι,κ,μ,ν,ξ,ο,ρ,σ,τ,υ,reduceIte,reduceCtorEq]
 refine aP fun q hq=>?_
 have n3:¬ q=p:=(cS.1 hq).1
 have n3':¬ p=q:=fun h=>n3 h.symm
 simp only[go_sem,γ,δ,ε,ζ,η,θ,ι,κ,μ,ν,ξ,ο,ρ,σ,τ,υ,reduceIte,reduceCtorEq,asR,n3,n3']
 refine aI (vs:=[.agg (mkT n d).cells]) (.inr rfl) ?_ rfl
 simp only[go_sem,γ,δ,ε,ζ,η,θ,ι,κ,μ,ν,ξ,ο,ρ,σ,τ,υ,reduceIte,reduceCtorEq]
theorem a3T {C:Ctx} (c:UInt8) (n:Nat) (hn:n<100):DM.wp C (aS YQ.res (aC (.str (dD c n)))) (PF.args [.int .u8 c.toNat,.int .i64 n]) .nil:=by
 have e1:Int.tdiv ((n:Nat):Int) 26=((n/26:Nat):Int):=rfl
 have e2:Int.tmod ((n/26:Nat):Int) 26=((n/26%26:Nat):Int):=rfl
 have e3:Int.tmod ((n:Nat):Int) 26=((n%26:Nat):Int):=rfl
 have w1:IntKind.i64.wrap (97+((n/26%26:Nat):Int))=((97+n/26%26:Nat):Int):=by rw[wrap_i64 Om Om]; omega
 have w2:IntKind.i64.wrap (97+((n%26:Nat):Int))=((97+n%26:Nat):Int):=by rw[wrap_i64 Om Om]; omega
 have w3:IntKind.u8.wrap ((97+n/26%26:Nat):Int)=((97+n/26%26:Nat):Int):=wrap_u8 Om Om
 have w4:IntKind.u8.wrap ((97+n%26:Nat):Int)=((97+n%26:Nat):Int):=wrap_u8 Om Om
 have w0:IntKind.i64.wrap ((n/26:Nat):Int)=((n/26:Nat):Int):=wM Om
 have hbr:oK [[PV.int .u8 ((c.toNat:Nat):Int)],[PV.int .u8 ((97+n/26%26:Nat):Int)],[PV.int .u8 ((97+n%26:Nat):Int)]]=some (dD c n):=by
  show some [UInt8.ofNat c.toNat,_,_]=_
  rw[UInt8.ofNat_toNat]
  rfl
 have h13:(1:Nat)*3≤16777216:=by decide
 simp only[go_sem,γ,δ,ε,ζ,η,θ,ι,κ,μ,ν,ξ,ο,ρ,σ,τ,υ,reduceIte,reduceCtorEq,DM,atA,atB,YQ,e1,w0,e2,e3,w1,w2,w3,w4,h13,hbr]
 refine aI (.inr rfl) rfl ?_
 rfl
structure nO (C:Ctx):Prop extends CE C where
 frac:∀ n d:Int,cQ n→cQ d→d≠0→aE C 241 [.int .i64 n,.int .i64 d] .nil (aC (.agg (mkT n d).cells))
 name:∀ (c:UInt8) (n:Nat),n<100→aE C 242 [.int .u8 c.toNat,.int .i64 n] .nil (aC (.str (dD c n)))
def mdS (l:List Int):Spec:=fun name vs=>match name,vs with
 | 242,[.int _ c,.int _ i]=>some ([],fun _=>aC (.str (dD (UInt8.ofNat c.toNat) i.toNat)))
 | 241,[.int _ n,.int _ d]=>some ([],fun _=>aC (.agg (mkT n d).cells))
 | 240,[.ptr o _ _ _,.int _ n]=>some ([o],fun H0 r H'=>∀ a,H0 o=some (bE l a)→WP l o n.toNat a r H')
 | _,_=>none
section
variable {C:Ctx} {F:PF} {H Hs:PH} {l:List Int} {o a:Nat}
theorem aXS (Lb:CE C) (T:TpM l) {n:Nat} {st:Bool} {args:List aO} {d:Option Nat} {K:PF→PH→Prop} (hn:n≤1000000) (ha:a≤1000000) (bwC:aO.evs F args=some [.ptr o 2 0 0,.int .i64 n]) (ho:H o=some (bE l a))
  (hle:Hs.le (H.set o (bE l (a+1)))) (hk:K (F.put d (.int .i64 (nxM l n a:Nat))) (H.set o (bE l (a+1)))):dOp C Hs (mdS l) st (.call 240 args) d K F H:=by
 refine asL (x:=bE l a) (y:=bE l (a+1)) (r:=.int .i64 (nxM l n a:Nat)) (R:=fun H0 r H'=>∀ a,H0 o=some (bE l a)→WP l o n a r H') rfl ho (Lb.next l T o n a hn ha) ?_ ?_ bwC hle hk
 ·intro b hb
  rw[fJ] at hb
  injection hb with hb
  injection hb with _ hb
  injection hb with hb _
  injection hb with _ hb
  injection hb with hb _
  injection hb with _ hb
  have:a=b:=by omega
  subst this
  exact⟨rfl,rfl⟩
 ·intro r' H' hr
  exact hr a (by rw[fJ])
theorem JD (Lb:nO C) {c:UInt8} {n:Nat} {st:Bool} {args:List aO} {d:Option Nat} {K:PF→PH→Prop} (hn:n<100) (bwC:aO.evs F args=some [.int .u8 c.toNat,.int .i64 n]) (hle:Hs.le H) (hk:K (F.put d (.str (dD c n))) H):dOp C Hs (mdS l) st (.call 242 args) d K F H :=
 bF (v:=.str (dD c n)) (by show some _=_; rw[bzO,UInt8.ofNat_toNat]; rfl) (Lb.name c n hn) bwC hle hk
theorem ajH (Lb:nO C) {n m:Int} {st:Bool} {args:List aO} {d:Option Nat} {K:PF→PH→Prop} (hn:cQ n) (hm:cQ m) (h0:m≠0) (bwC:aO.evs F args=some [.int .i64 n,.int .i64 m]) (hle:Hs.le H) (hk:K (F.put d (.agg (mkT n m).cells)) H):dOp C Hs (mdS l) st (.call 241 args) d K F H :=
 bF (v:=.agg (mkT n m).cells) rfl (Lb.frac n m hn hm h0) bwC hle hk
end
def beP (o7:Nat) (ext w1 w2 w4 w5 w6:PV) (ds:List bJ) (lev par up:Nat) (r:PV) (B':List BX) (L':List LI):Prop:=r=.int .i64 (ds.length:Nat)∧∃ w',B'=[(o7,flB ext w1 w2 w' w4 w5 w6)]∧L'=[(w',7,dC (dB ds lev par up))]
theorem a9J {C:Ctx} (Lb:nO C) (o7:Nat) (ext w1 w2 wd w4 w5 w6:PV) (ds:List bJ) (hds:ds.length≤90) (lev par up:Nat) (H0:PH) (hH:bA H0 [(o7,flB ext w1 w2 wd w4 w5 w6)] [(wd,7,dC ds)]) :
  JE.wp C (aS asM.res (fun r H'=>∃ B' L',beP o7 ext w1 w2 w4 w5 w6 ds lev par up r B' L'∧bA H' B' L')) (PF.args [.ptr o7 7 0 0,.int .i64 lev,.int .i64 par,.int .i64 up]) H0:=by
 have b:=hH.at 0 rfl
 have lw:=(hH.own 0 rfl).yP
 rw[bwN] at lw
 simp only[go_sem,γ,δ,ε,ζ,η,θ,ι,κ,μ,ν,ξ,ο,ρ,σ,τ,υ,reduceIte,reduceCtorEq,JE,aIT,aIU,asM,b,lw]
 refine bM (PH.nil.set o7 (flB ext w1 w2 wd w4 w5 w6)) (mdS []) (PH.aH PH.nil_le b) ?_
 simp only[go_sem,γ,δ,ε,ζ,η,θ,ι,κ,μ,ν,ξ,ο,ρ,σ,τ,υ,reduceIte,reduceCtorEq,aIV]
 refine JD Lb (c:=110) (n:=ds.length) Om rfl (PH.aH PH.nil_le b) ?_
 simp only[go_sem,γ,δ,ε,ζ,η,θ,ι,κ,μ,ν,ξ,ο,ρ,σ,τ,υ,reduceIte,reduceCtorEq]
 refine ajH Lb (n:=0) (m:=1) (by unfold cQ; omega) (by unfold cQ; omega) (by decide) rfl (PH.aH PH.nil_le b) ?_
 have h17:(1:Nat)*7≤16777216:=by decide
 simp only[go_sem,γ,δ,ε,ζ,η,θ,ι,κ,μ,ν,ξ,ο,ρ,σ,τ,υ,reduceIte,reduceCtorEq,h17]
 refine hH.append 0 (src:=[(⟨dD 110 ds.length,(lev:Nat),(par:Nat),(up:Nat),nL⟩:bJ).cells]) rfl rfl (by unfold roomFor; rw[bwN]; simp only[bxD,maxLen]; omega) fun w' H2 h5 hw=>?_
 obtain⟨q,rfl⟩:=hw (by simp)
 have b2:=h5.at 0 rfl
 refine⟨PH.aH PH.nil_le b2,?_⟩
 refine bM .nil dV PH.nil_le ?_
 simp only[go_sem,γ,δ,ε,ζ,η,θ,ι,κ,μ,ν,ξ,ο,ρ,σ,τ,υ,reduceIte,reduceCtorEq,aIW,b2,bxF,byC,or_false,forall_eq]
 have h6:=h5.set 0 rfl (flB ext w1 w2 (.osl q 7 0 (dC ds++[(⟨dD 110 ds.length,(lev:Nat),(par:Nat),(up:Nat),nL⟩:bJ).cells]).length) w4 w5 w6)
 refine⟨PH.nil_le,?_⟩
 simp only[go_sem,γ,δ,ε,ζ,η,θ,ι,κ,μ,ν,ξ,ο,ρ,σ,τ,υ,reduceIte,reduceCtorEq,aIX]
 have e:dC (dB ds lev par up)=dC ds++[(⟨dD 110 ds.length,(lev:Nat),(par:Nat),(up:Nat),nL⟩:bJ).cells]:=by simp[dC,dB]
 refine aU (vs:=[.int .i64 (ds.length:Nat)]) (.inr rfl) _ rfl PH.le_refl ⟨_,_,⟨rfl,.osl q 7 0 (dC ds++[(⟨dD 110 ds.length,(lev:Nat),(par:Nat),(up:Nat),nL⟩:bJ).cells]).length,rfl,rfl⟩,?_⟩
 rw[e]
 exact h6
structure AO (C:Ctx):Prop extends nO C where
 dom:∀ (o7:Nat) (ext w1 w2 wd w4 w5 w6:PV) (ds:List bJ),ds.length≤90→∀ (lev par up:Nat) (H0:PH),bA H0 [(o7,flB ext w1 w2 wd w4 w5 w6)] [(wd,7,dC ds)] →
  aE C 243 [.ptr o7 7 0 0,.int .i64 lev,.int .i64 par,.int .i64 up] H0 (fun r H'=>∃ B' L',beP o7 ext w1 w2 w4 w5 w6 ds lev par up r B' L'∧bA H' B' L')
theorem qL {C:Ctx} {F:PF} {H:PH} (Lb:AO C) {o7:Nat} {ext w1 w2 wd w4 w5 w6:PV} {ds:List bJ} {B2:List BX} {L2:List LI} {lev par up:Nat} {args:List aO} {d:Option Nat} {K:PF→PH→Prop}
  (h:bA H ((o7,flB ext w1 w2 wd w4 w5 w6)::B2) ((wd,7,dC ds)::L2)) (hds:ds.length≤90) (bwC:aO.evs F args=some [.ptr o7 7 0 0,.int .i64 lev,.int .i64 par,.int .i64 up])
  (hk:∀ wd' H',bA H' ((o7,flB ext w1 w2 wd' w4 w5 w6)::B2) ((wd',7,dC (dB ds lev par up))::L2)→K (F.put d (.int .i64 (ds.length:Nat))) H'):fQ C 243 args [] d K F H:=by
 refine ST (B1:=[(o7,flB ext w1 w2 wd w4 w5 w6)]) (L1:=[(wd,7,dC ds)]) h (fun H0 hH0=>Lb.dom o7 ext w1 w2 wd w4 w5 w6 ds hds lev par up H0 hH0) bwC ?_
 rintro r B' L' H' ⟨rfl,wd',rfl,rfl⟩ h'
 exact hk wd' H' h'
structure ME where
 o:Nat
 o4:Nat
 o5:Nat
 vols:Nat
abbrev ME.boxes (E:ME) (l:List Int) (ext w1 w2 wd wr wp wv:PV) (a:Nat):List BX:=[(E.o5,flB ext w1 w2 wd wr wp wv),(E.o,bE l a),(E.o4,flZ)]
def sT (E:ME):PF:=((((PF.nil.set 0 (.ptr E.o 2 0 0)).set 1 (.int .i64 E.vols)).set 4 (.ptr E.o4 7 0 0)).set 5 (.ptr E.o5 7 0 0))
def eI (E:ME) (n room rack i:Nat):PF:=((((((((PF.nil.set 0 (.ptr E.o 2 0 0)).set 1 (.int .i64 E.vols)).set 4 (.ptr E.o4 7 0 0)).set 5 (.ptr E.o5 7 0 0)).set 6 (.int .i64 n)).set 8 (.int .i64 room)).set 9 (.int .i64 rack)).set 10 (.int .i64 i))
def jB (E:ME) (n room rack i m k:Nat):PF:=((((((((((PF.nil.set 0 (.ptr E.o 2 0 0)).set 1 (.int .i64 E.vols)).set 4 (.ptr E.o4 7 0 0)).set 5 (.ptr E.o5 7 0 0)).set 6 (.int .i64 n)).set 8 (.int .i64 room)).set 9 (.int .i64 rack)).set 10 (.int .i64 i)).set 11 (.int .i64 m)).set 12 (.int .i64 k))
theorem a9L {C:Ctx} (Lb:nO C) {l:List Int} (T:TpM l) (E:ME) (n room rack i m:Nat) (ext w1 w2 wd:PV) (ds:List bJ) (k0:Nat) (s0:List cA × Nat) (wr0:PV) (h0:s0.1.length≤9) (ha:s0.2+k0≤100000) (K:cI) (F:PF) (H:PH)
  (hF:(jB E n room rack i m k0).le F) (hH:bA H (E.boxes l ext w1 w2 wd wr0 .buJ .buJ s0.2) [(wd,7,dC ds),(wr0,3,dT s0.1)])
  (hK:∀ wr F' H',(eI E n room rack i).le F'→bA H' (E.boxes l ext w1 w2 wd wr .buJ .buJ (gV l m k0 s0).2) [(wd,7,dC ds),(wr,3,dT (gV l m k0 s0).1)]→K (.exit 2) F' H') :
  aB.wp C (.loop pT) K F H:=by
 refine wp_loop (α:=Nat × (List cA × Nat) × PV × PH) (fun t=>jB E n room rack i m t.1) (fun t=>t.2.2.2)
  (fun t=>gV l m t.1 t.2.1=gV l m k0 s0∧t.2.1.1.length≤9∧t.2.1.2+t.1≤100000∧bA t.2.2.2 (E.boxes l ext w1 w2 wd t.2.2.1 .buJ .buJ t.2.1.2) [(wd,7,dC ds),(t.2.2.1,3,dT t.2.1.1)]) (fun t=>t.1) (k0,s0,wr0,H) ⟨rfl,h0,ha,hH⟩ hF PH.le_refl ?_
 rintro⟨k,s,wr,H0⟩ ⟨hE,hl,hb,hH⟩
 simp only at hE hl hb hH ⊢
 have b5:=hH.at 0 rfl
 have lw:=(hH.own 1 rfl).yP
 rw[bwN] at lw
 simp only[go_sem,γ,δ,ε,ζ,η,θ,ι,κ,μ,ν,ξ,ο,ρ,σ,τ,υ,reduceIte,reduceCtorEq,pT,XK,jB]
 have out:∀ F',(jB E n room rack i m k).le F'→gV l m k s=s→K (.exit 2) F' H0:=fun F' hF' e=>by
  refine hK wr F' H0 ?_ (by rw[← hE,e]; exact hH)
  have h1:(eI E n room rack i).le (jB E n room rack i m k):=by
   unfold eI jB
   exact Lq
  exact fun j u hj=>hF' j u (h1 j u hj)
 cases k with
 | zero =>
  have hc:¬ (((0:Nat):Int)>0):=by omega
  simp only[go_sem,γ,δ,ε,ζ,η,θ,ι,κ,μ,ν,ξ,ο,ρ,σ,τ,υ,reduceIte,reduceCtorEq,hc]
  refine out _ ?_ rfl
  unfold jB
  exact Lq
 | succ k =>
  have hc:(((k+1:Nat):Int)>0):=by omega
  by_cases c:s.1.length<9
  ·have c':((s.1.length:Nat):Int)<9:=by omega
   have e1:IntKind.i64.wrap (((k+1:Nat):Int)-1)=((k:Nat):Int):=by rw[wrap_i64 Om Om]; omega
   simp only[go_sem,γ,δ,ε,ζ,η,θ,ι,κ,μ,ν,ξ,ο,ρ,σ,τ,υ,reduceIte,reduceCtorEq,hc,b5,lw,c',XL,XM]
   refine cB Lb.toCE T (o:=E.o) (n:=4) (a:=s.2) (by decide) Om rfl (hH.at 1 rfl) ?_
   have h1:=hH.set 1 rfl (bE l (s.2+1))
   have b1:=h1.at 0 rfl
   have go:∀ (x:Nat) (F':PF),x=(if nxM l 4 s.2=0 then 1 else 0)→(jB E n room rack i m (k+1)).le F'→F' 13=some (.int .i64 x) →
     aB.wp C (.seq (.seq (.draw CY) (.draw CZ)) (.region DA)) (eA (fun t:Nat × (List cA × Nat) × PV × PH=>jB E n room rack i m t.1) (fun t=>t.2.2.2)
      (fun t=>gV l m t.1 t.2.1=gV l m k0 s0∧t.2.1.1.length≤9∧t.2.1.2+t.1≤100000∧bA t.2.2.2 (E.boxes l ext w1 w2 wd t.2.2.1 .buJ .buJ t.2.1.2) [(wd,7,dC ds),(t.2.2.1,3,dT t.2.1.1)]) (fun t=>t.1) (k+1) K) F' (H0.set E.o (bE l (s.2+1))):=by
    intro x F' hx hF' f13
    have f0:F' 0=some (.ptr E.o 2 0 0):=hF' 0 _ (by unfold jB; simp only[go_sem,γ,δ,ε,ζ,η,θ,ι,κ,μ,ν,ξ,ο,ρ,σ,τ,υ,reduceIte,reduceCtorEq])
    have f1:F' 1=some (.int .i64 E.vols):=hF' 1 _ (by unfold jB; simp only[go_sem,γ,δ,ε,ζ,η,θ,ι,κ,μ,ν,ξ,ο,ρ,σ,τ,υ,reduceIte,reduceCtorEq])
    have f4:F' 4=some (.ptr E.o4 7 0 0):=hF' 4 _ (by unfold jB; simp only[go_sem,γ,δ,ε,ζ,η,θ,ι,κ,μ,ν,ξ,ο,ρ,σ,τ,υ,reduceIte,reduceCtorEq])
    have f5:F' 5=some (.ptr E.o5 7 0 0):=hF' 5 _ (by unfold jB; simp only[go_sem,γ,δ,ε,ζ,η,θ,ι,κ,μ,ν,ξ,ο,ρ,σ,τ,υ,reduceIte,reduceCtorEq])
    have f6:F' 6=some (.int .i64 n):=hF' 6 _ (by unfold jB; simp only[go_sem,γ,δ,ε,ζ,η,θ,ι,κ,μ,ν,ξ,ο,ρ,σ,τ,υ,reduceIte,reduceCtorEq])
    have f8:F' 8=some (.int .i64 room):=hF' 8 _ (by unfold jB; simp only[go_sem,γ,δ,ε,ζ,η,θ,ι,κ,μ,ν,ξ,ο,ρ,σ,τ,υ,reduceIte,reduceCtorEq])
    have f9:F' 9=some (.int .i64 rack):=hF' 9 _ (by unfold jB; simp only[go_sem,γ,δ,ε,ζ,η,θ,ι,κ,μ,ν,ξ,ο,ρ,σ,τ,υ,reduceIte,reduceCtorEq])
    have f10:F' 10=some (.int .i64 i):=hF' 10 _ (by unfold jB; simp only[go_sem,γ,δ,ε,ζ,η,θ,ι,κ,μ,ν,ξ,ο,ρ,σ,τ,υ,reduceIte,reduceCtorEq])
    have f11:F' 11=some (.int .i64 m):=hF' 11 _ (by unfold jB; simp only[go_sem,γ,δ,ε,ζ,η,θ,ι,κ,μ,ν,ξ,ο,ρ,σ,τ,υ,reduceIte,reduceCtorEq])
    have f12:F' 12=some (.int .i64 (k+1:Nat)):=hF' 12 _ (by unfold jB; simp only[go_sem,γ,δ,ε,ζ,η,θ,ι,κ,μ,ν,ξ,ο,ρ,σ,τ,υ,reduceIte,reduceCtorEq])
    simp only[go_sem,γ,δ,ε,ζ,η,θ,ι,κ,μ,ν,ξ,ο,ρ,σ,τ,υ,reduceIte,reduceCtorEq]
    refine bM (PH.nil.set E.o5 (flB ext w1 w2 wd wr .buJ .buJ)) (mdS l) (PH.aH PH.nil_le b1) ?_
    have h13:(1:Nat)*3≤16777216:=by decide
    simp only[go_sem,γ,δ,ε,ζ,η,θ,ι,κ,μ,ν,ξ,ο,ρ,σ,τ,υ,reduceIte,reduceCtorEq,CY,f5,b1,lw]
    refine JD Lb (c:=100) (n:=s.1.length) Om rfl (PH.aH PH.nil_le b1) ?_
    simp only[go_sem,γ,δ,ε,ζ,η,θ,ι,κ,μ,ν,ξ,ο,ρ,σ,τ,υ,reduceIte,reduceCtorEq,f13,f11,h13]
    refine h1.append 1 (src:=[(⟨dD 100 s.1.length,(x:Nat),(m:Nat)⟩:cA).cells]) rfl rfl (by unfold roomFor; rw[bwN]; simp only[bxD,maxLen]; omega) fun w' H2 h5 hw=>?_
    obtain⟨q,rfl⟩:=hw (by simp)
    have b2:=h5.at 0 rfl
    simp only[go_sem,γ,δ,ε,ζ,η,θ,ι,κ,μ,ν,ξ,ο,ρ,σ,τ,υ,reduceIte,reduceCtorEq,f5]
    refine⟨PH.aH PH.nil_le b2,?_⟩
    refine bM .nil dV PH.nil_le ?_
    simp only[go_sem,γ,δ,ε,ζ,η,θ,ι,κ,μ,ν,ξ,ο,ρ,σ,τ,υ,reduceIte,reduceCtorEq,CZ,f5,b2,bxF,byC,or_false,forall_eq]
    have h6:=h5.set 0 rfl (flB ext w1 w2 wd (.osl q 3 0 (dT s.1++[(⟨dD 100 s.1.length,(x:Nat),(m:Nat)⟩:cA).cells]).length) .buJ .buJ)
    refine⟨PH.nil_le,?_⟩
    simp only[go_sem,γ,δ,ε,ζ,η,θ,ι,κ,μ,ν,ξ,ο,ρ,σ,τ,υ,reduceIte,reduceCtorEq,DA,f12,e1]
    refine aJ (k,(s.1++[⟨dD 100 s.1.length,(x:Nat),(m:Nat)⟩],s.2+1),.osl q 3 0 (dT s.1++[(⟨dD 100 s.1.length,(x:Nat),(m:Nat)⟩:cA).cells]).length,_) ⟨?_,by simp only[bwW,bxD]; omega,by simp only; omega,?_⟩ (by simp only; omega) ?_ PH.le_refl
    ·simp only
     rw[← hE,gV,if_pos c,hx]
    ·have e:dT (s.1++[⟨dD 100 s.1.length,(x:Nat),(m:Nat)⟩])=dT s.1++[(⟨dD 100 s.1.length,(x:Nat),(m:Nat)⟩:cA).cells]:=by simp[dT]
     simp only
     rw[e]
     exact h6
    ·unfold jB
     exact Lq
   simp only[aB.wp,go_sem] at go
   by_cases d:nxM l 4 s.2=0
   ·simp only[go_sem,γ,δ,ε,ζ,η,θ,ι,κ,μ,ν,ξ,ο,ρ,σ,τ,υ,reduceIte,reduceCtorEq,bX (Om:((nxM l 4 s.2:Nat):Int)=0),XN]
    refine go 1 _ (by rw[if_pos d]) ?_ rfl
    unfold jB
    exact Lq
   ·simp only[go_sem,γ,δ,ε,ζ,η,θ,ι,κ,μ,ν,ξ,ο,ρ,σ,τ,υ,reduceIte,reduceCtorEq,bD (Om:((nxM l 4 s.2:Nat):Int)≠0)]
    refine go 0 _ (by rw[if_neg d]) ?_ rfl
    unfold jB
    exact Lq
  ·have c':¬ ((s.1.length:Nat):Int)<9:=by omega
   simp only[go_sem,γ,δ,ε,ζ,η,θ,ι,κ,μ,ν,ξ,ο,ρ,σ,τ,υ,reduceIte,reduceCtorEq,hc,b5,lw,c']
   refine out _ ?_ (by rw[gV,if_neg c])
   unfold jB
   exact Lq
theorem fW {a b:Nat} (h:a+b≤1000000):IntKind.i64.wrap ((a:Int)+(b:Int))=((a+b:Nat):Int):=wM Om
theorem aIY {C:Ctx} (Lb:AO C) {l:List Int} (T:TpM l) (E:ME) (n room rack i a:Nat) (ha:a≤100000) (ext w1 w2 wd wr:PV) (ds:List bJ) (hds:ds.length≤60) (L2:List LI) (K:cI) (F:PF) (H:PH)
  (hF:(eI E n room rack i).le F) (hH:bA H (E.boxes l ext w1 w2 wd wr .buJ .buJ a) ((wd,7,dC ds)::L2))
  (hK:∀ wd' F' H',(eI E n (dB ds 1 0 (16+nxM l 17 a)).length (dB (dB ds 1 0 (16+nxM l 17 a)) 2 ds.length (16+nxM l 17 (a+1))).length i).le F' →
   bA H' (E.boxes l ext w1 w2 wd' wr .buJ .buJ (a+3)) ((wd',7,dC (dB (dB (dB ds 1 0 (16+nxM l 17 a)) 2 ds.length (16+nxM l 17 (a+1))) 3 (dB ds 1 0 (16+nxM l 17 a)).length (8+nxM l 9 (a+2))))::L2)→K .normal F' H') :
  aB.wp C (.seq (.region CV) (.seq (.region CW) (.region CX))) K F H:=by
 have f0:F 0=some (.ptr E.o 2 0 0):=hF 0 _ (by unfold eI; simp only[go_sem,γ,δ,ε,ζ,η,θ,ι,κ,μ,ν,ξ,ο,ρ,σ,τ,υ,reduceIte,reduceCtorEq])
 have f1:F 1=some (.int .i64 E.vols):=hF 1 _ (by unfold eI; simp only[go_sem,γ,δ,ε,ζ,η,θ,ι,κ,μ,ν,ξ,ο,ρ,σ,τ,υ,reduceIte,reduceCtorEq])
 have f4:F 4=some (.ptr E.o4 7 0 0):=hF 4 _ (by unfold eI; simp only[go_sem,γ,δ,ε,ζ,η,θ,ι,κ,μ,ν,ξ,ο,ρ,σ,τ,υ,reduceIte,reduceCtorEq])
 have f5:F 5=some (.ptr E.o5 7 0 0):=hF 5 _ (by unfold eI; simp only[go_sem,γ,δ,ε,ζ,η,θ,ι,κ,μ,ν,ξ,ο,ρ,σ,τ,υ,reduceIte,reduceCtorEq])
 have f6:F 6=some (.int .i64 n):=hF 6 _ (by unfold eI; simp only[go_sem,γ,δ,ε,ζ,η,θ,ι,κ,μ,ν,ξ,ο,ρ,σ,τ,υ,reduceIte,reduceCtorEq])
 have f10:F 10=some (.int .i64 i):=hF 10 _ (by unfold eI; simp only[go_sem,γ,δ,ε,ζ,η,θ,ι,κ,μ,ν,ξ,ο,ρ,σ,τ,υ,reduceIte,reduceCtorEq])
 have n1:=cG l (show 0<17 by decide) a
 have n2:=cG l (show 0<17 by decide) (a+1)
 have n3:=cG l (show 0<9 by decide) (a+2)
 have e1:IntKind.i64.wrap (16+((nxM l 17 a:Nat):Int))=((16+nxM l 17 a:Nat):Int):=fW (a:=16) Om
 have e2:IntKind.i64.wrap (16+((nxM l 17 (a+1):Nat):Int))=((16+nxM l 17 (a+1):Nat):Int):=fW (a:=16) Om
 have e3:IntKind.i64.wrap (8+((nxM l 9 (a+2):Nat):Int))=((8+nxM l 9 (a+2):Nat):Int):=fW (a:=8) Om
 have c1:=mJ ds 1 0 (16+nxM l 17 a)
 have c2:=mJ (dB ds 1 0 (16+nxM l 17 a)) 2 ds.length (16+nxM l 17 (a+1))
 simp only[go_sem,γ,δ,ε,ζ,η,θ,ι,κ,μ,ν,ξ,ο,ρ,σ,τ,υ,reduceIte,reduceCtorEq,CV,f0]
 refine cB Lb.toCE T (o:=E.o) (n:=17) (a:=a) (by decide) Om rfl (hH.at 1 rfl) ?_
 have h1:=hH.set 1 rfl (bE l (a+1))
 simp only[go_sem,γ,δ,ε,ζ,η,θ,ι,κ,μ,ν,ξ,ο,ρ,σ,τ,υ,reduceIte,reduceCtorEq,e1,f5]
 refine qL Lb (lev:=1) (par:=0) (up:=16+nxM l 17 a) h1 Om (by simp only[go_sem,γ,δ,ε,ζ,η,θ,ι,κ,μ,ν,ξ,ο,ρ,σ,τ,υ,reduceIte,reduceCtorEq,f5]; rfl) fun wd1 H1 h2=>?_
 simp only[go_sem,γ,δ,ε,ζ,η,θ,ι,κ,μ,ν,ξ,ο,ρ,σ,τ,υ,reduceIte,reduceCtorEq,CW,f0]
 refine cB Lb.toCE T (o:=E.o) (n:=17) (a:=a+1) (by decide) Om rfl (h2.at 1 rfl) ?_
 have h3:=h2.set 1 rfl (bE l (a+1+1))
 simp only[go_sem,γ,δ,ε,ζ,η,θ,ι,κ,μ,ν,ξ,ο,ρ,σ,τ,υ,reduceIte,reduceCtorEq,e2,f5]
 refine qL Lb (lev:=2) (par:=ds.length) (up:=16+nxM l 17 (a+1)) h3 Om (by simp only[go_sem,γ,δ,ε,ζ,η,θ,ι,κ,μ,ν,ξ,ο,ρ,σ,τ,υ,reduceIte,reduceCtorEq,f5]; rfl) fun wd2 H2 h4=>?_
 simp only[go_sem,γ,δ,ε,ζ,η,θ,ι,κ,μ,ν,ξ,ο,ρ,σ,τ,υ,reduceIte,reduceCtorEq,CX,f0]
 refine cB Lb.toCE T (o:=E.o) (n:=9) (a:=a+2) (by decide) Om rfl (h4.at 1 rfl) ?_
 have h5:=h4.set 1 rfl (bE l (a+2+1))
 simp only[go_sem,γ,δ,ε,ζ,η,θ,ι,κ,μ,ν,ξ,ο,ρ,σ,τ,υ,reduceIte,reduceCtorEq,e3,f5]
 refine qL Lb (lev:=3) (par:=(dB ds 1 0 (16+nxM l 17 a)).length) (up:=8+nxM l 9 (a+2)) h5 Om (by simp only[go_sem,γ,δ,ε,ζ,η,θ,ι,κ,μ,ν,ξ,ο,ρ,σ,τ,υ,reduceIte,reduceCtorEq,f5]; rfl) fun wd3 H3 h6=>?_
 simp only[go_sem,γ,δ,ε,ζ,η,θ,ι,κ,μ,ν,ξ,ο,ρ,σ,τ,υ,reduceIte,reduceCtorEq]
 refine hK wd3 _ _ ?_ h6
 unfold eI
 exact Lq
theorem a3K {C:Ctx} (Lb:AO C) {l:List Int} (T:TpM l) (E:ME) (n i:Nat) (p:MS) (hp:p.a≤50000) (hl:p.buU.length≤60) (hd:p.bvI.length≤9) (ext w1 w2 wd wr:PV) (K:cI) (F:PF) (H:PH)
  (hF:(eI E n p.room p.rack i).le F) (hH:bA H (E.boxes l ext w1 w2 wd wr .buJ .buJ p.a) [(wd,7,dC p.buU),(wr,3,dT p.bvI)])
  (hK:∀ wd' wr' F' H',(eI E n p.room p.rack i).le F'→bA H' (E.boxes l ext w1 w2 wd' wr' .buJ .buJ (gV l p.buU.length (1+nxM l 2 (p.a+1)) (p.bvI,p.a+2)).2) [(wd',7,dC (dB p.buU 4 p.rack (8+nxM l 9 p.a))),(wr',3,dT (gV l p.buU.length (1+nxM l 2 (p.a+1)) (p.bvI,p.a+2)).1)]→K .normal F' H') :
  aB.wp C (.seq (.region tF) (.seq (.region tG) (.block 2 (.loop pT)))) K F H:=by
 have f0:F 0=some (.ptr E.o 2 0 0):=hF 0 _ (by unfold eI; simp only[go_sem,γ,δ,ε,ζ,η,θ,ι,κ,μ,ν,ξ,ο,ρ,σ,τ,υ,reduceIte,reduceCtorEq])
 have f1:F 1=some (.int .i64 E.vols):=hF 1 _ (by unfold eI; simp only[go_sem,γ,δ,ε,ζ,η,θ,ι,κ,μ,ν,ξ,ο,ρ,σ,τ,υ,reduceIte,reduceCtorEq])
 have f4:F 4=some (.ptr E.o4 7 0 0):=hF 4 _ (by unfold eI; simp only[go_sem,γ,δ,ε,ζ,η,θ,ι,κ,μ,ν,ξ,ο,ρ,σ,τ,υ,reduceIte,reduceCtorEq])
 have f5:F 5=some (.ptr E.o5 7 0 0):=hF 5 _ (by unfold eI; simp only[go_sem,γ,δ,ε,ζ,η,θ,ι,κ,μ,ν,ξ,ο,ρ,σ,τ,υ,reduceIte,reduceCtorEq])
 have f6:F 6=some (.int .i64 n):=hF 6 _ (by unfold eI; simp only[go_sem,γ,δ,ε,ζ,η,θ,ι,κ,μ,ν,ξ,ο,ρ,σ,τ,υ,reduceIte,reduceCtorEq])
 have f8:F 8=some (.int .i64 p.room):=hF 8 _ (by unfold eI; simp only[go_sem,γ,δ,ε,ζ,η,θ,ι,κ,μ,ν,ξ,ο,ρ,σ,τ,υ,reduceIte,reduceCtorEq])
 have f9:F 9=some (.int .i64 p.rack):=hF 9 _ (by unfold eI; simp only[go_sem,γ,δ,ε,ζ,η,θ,ι,κ,μ,ν,ξ,ο,ρ,σ,τ,υ,reduceIte,reduceCtorEq])
 have f10:F 10=some (.int .i64 i):=hF 10 _ (by unfold eI; simp only[go_sem,γ,δ,ε,ζ,η,θ,ι,κ,μ,ν,ξ,ο,ρ,σ,τ,υ,reduceIte,reduceCtorEq])
 have n1:=cG l (show 0<9 by decide) p.a
 have n2:=cG l (show 0<2 by decide) (p.a+1)
 have e1:IntKind.i64.wrap (8+((nxM l 9 p.a:Nat):Int))=((8+nxM l 9 p.a:Nat):Int):=fW (a:=8) Om
 have e2:IntKind.i64.wrap (1+((nxM l 2 (p.a+1):Nat):Int))=((1+nxM l 2 (p.a+1):Nat):Int):=fW (a:=1) Om
 simp only[go_sem,γ,δ,ε,ζ,η,θ,ι,κ,μ,ν,ξ,ο,ρ,σ,τ,υ,reduceIte,reduceCtorEq,tF,f0,f9]
 refine cB Lb.toCE T (o:=E.o) (n:=9) (a:=p.a) (by decide) Om rfl (hH.at 1 rfl) ?_
 have h1:=hH.set 1 rfl (bE l (p.a+1))
 simp only[go_sem,γ,δ,ε,ζ,η,θ,ι,κ,μ,ν,ξ,ο,ρ,σ,τ,υ,reduceIte,reduceCtorEq,e1,f5,f9]
 refine qL Lb (lev:=4) (par:=p.rack) (up:=8+nxM l 9 p.a) h1 Om (by simp only[go_sem,γ,δ,ε,ζ,η,θ,ι,κ,μ,ν,ξ,ο,ρ,σ,τ,υ,reduceIte,reduceCtorEq,f5,f9]; rfl) fun wd1 H1 h2=>?_
 simp only[go_sem,γ,δ,ε,ζ,η,θ,ι,κ,μ,ν,ξ,ο,ρ,σ,τ,υ,reduceIte,reduceCtorEq,tG,f0]
 refine cB Lb.toCE T (o:=E.o) (n:=2) (a:=p.a+1) (by decide) Om rfl (h2.at 1 rfl) ?_
 have h3:=h2.set 1 rfl (bE l (p.a+1+1))
 simp only[go_sem,γ,δ,ε,ζ,η,θ,ι,κ,μ,ν,ξ,ο,ρ,σ,τ,υ,reduceIte,reduceCtorEq,e2]
 refine a9L Lb.tonO T E n p.room p.rack i p.buU.length ext w1 w2 wd1 _ (1+nxM l 2 (p.a+1)) (p.bvI,p.a+2) wr hd (by simp only; omega) _ _ _ ?_ h3 ?_
 ·unfold jB
  exact Lq
 ·intro wr' F' H' hF' h'
  exact hK wd1 wr' F' H' hF' h'
theorem aXT {C:Ctx} (Lb:AO C) {l:List Int} (T:TpM l) (E:ME) (n a0:Nat) (hn:n≤10) (ha:a0≤10000) (ext w1 w2 wd0:PV) (K:cI) (F:PF) (H:PH)
  (hF:(eI E n 0 0 0).le F) (hH:bA H (E.boxes l ext w1 w2 wd0 .buJ .buJ .buJ a0) [(wd0,7,dC [hC]),(.buJ,3,dT [])])
  (hK:∀ wd wr F' H',(sT E).le F'→bA H' (E.boxes l ext w1 w2 wd wr .buJ .buJ (dZ l ⟨[hC],[],0,0,0,a0⟩ n).a) [(wd,7,dC (dZ l ⟨[hC],[],0,0,0,a0⟩ n).buU),(wr,3,dT (dZ l ⟨[hC],[],0,0,0,a0⟩ n).bvI)]→K (.exit 0) F' H') :
  aB.wp C (.loop CQ) K F H:=by
 generalize hs0:(⟨[hC],[],0,0,0,a0⟩:MS)=s0 at *
 have hM0:MOk 0 a0 s0:=by rw[← hs0]; exact aaO a0
 refine wp_loop (α:=Nat × PV × PV × PH) (fun t=>eI E n (dZ l s0 t.1).room (dZ l s0 t.1).rack t.1) (fun t=>t.2.2.2)
  (fun t=>t.1≤n∧bA t.2.2.2 (E.boxes l ext w1 w2 t.2.1 t.2.2.1 .buJ .buJ (dZ l s0 t.1).a) [(t.2.1,7,dC (dZ l s0 t.1).buU),(t.2.2.1,3,dT (dZ l s0 t.1).bvI)]) (fun t=>n-t.1) (0,wd0,.buJ,H) ⟨bwZ _,by rw[← hs0]; exact hH⟩ (by rw[← hs0]; exact hF) PH.le_refl ?_
 rintro⟨i,wd,wr,H0⟩ ⟨hi,hH⟩
 simp only at hi hH ⊢
 have hM:=nY l hM0 i Om
 have buQ:dZ l s0 (i+1)=xF l i (dZ l s0 i):=rfl
 generalize hs:dZ l s0 i=s at *
 obtain⟨m1,m2,m3,m4,m5,m6,m7,m8⟩:=hM
 simp only[go_sem,γ,δ,ε,ζ,η,θ,ι,κ,μ,ν,ξ,ο,ρ,σ,τ,υ,reduceIte,reduceCtorEq,CQ,ajQ,eI]
 by_cases hlt:i<n
 ·have buP:(i:Int)<(n:Nat):=by omega
  have rest:∀ (p:MS) (wd':PV) (F':PF) (H':PH),eC l i s=p→(eI E n p.room p.rack i).le F'→bA H' (E.boxes l ext w1 w2 wd' wr .buJ .buJ p.a) [(wd',7,dC p.buU),(wr,3,dT p.bvI)] →
    aB.wp C (.seq (.region tF) (.seq (.region tG) (.block 2 (.loop pT)))) (dR 1 (gW C (aB.wp C (.region DB)) (eA (fun t:Nat × PV × PV × PH=>eI E n (dZ l s0 t.1).room (dZ l s0 t.1).rack t.1) (fun t=>t.2.2.2)
     (fun t=>t.1≤n∧bA t.2.2.2 (E.boxes l ext w1 w2 t.2.1 t.2.2.1 .buJ .buJ (dZ l s0 t.1).a) [(t.2.1,7,dC (dZ l s0 t.1).buU),(t.2.2.1,3,dT (dZ l s0 t.1).bvI)]) (fun t=>n-t.1) (n-i) K))) F' H':=by
   intro p wd' F' H' hp hF' h'
   obtain⟨p1,p2,p3,p4,p5,p6,p7,p8⟩:=RY l i (k:=i) (a0:=a0) Om (⟨m1,m2,m3,m4,m5,m6,m7,m8⟩:MOk i a0 s)
   rw[hp] at p1 p3 p7 p8
   refine a3K Lb T E n i p Om Om p3 ext w1 w2 wd' wr _ _ _ hF' h' ?_
   intro wd2 wr2 F2 H2 hF2 h2
   have f0:F2 0=some (.ptr E.o 2 0 0):=hF2 0 _ (by unfold eI; simp only[go_sem,γ,δ,ε,ζ,η,θ,ι,κ,μ,ν,ξ,ο,ρ,σ,τ,υ,reduceIte,reduceCtorEq])
   have f1:F2 1=some (.int .i64 E.vols):=hF2 1 _ (by unfold eI; simp only[go_sem,γ,δ,ε,ζ,η,θ,ι,κ,μ,ν,ξ,ο,ρ,σ,τ,υ,reduceIte,reduceCtorEq])
   have f4:F2 4=some (.ptr E.o4 7 0 0):=hF2 4 _ (by unfold eI; simp only[go_sem,γ,δ,ε,ζ,η,θ,ι,κ,μ,ν,ξ,ο,ρ,σ,τ,υ,reduceIte,reduceCtorEq])
   have f5:F2 5=some (.ptr E.o5 7 0 0):=hF2 5 _ (by unfold eI; simp only[go_sem,γ,δ,ε,ζ,η,θ,ι,κ,μ,ν,ξ,ο,ρ,σ,τ,υ,reduceIte,reduceCtorEq])
   have f6:F2 6=some (.int .i64 n):=hF2 6 _ (by unfold eI; simp only[go_sem,γ,δ,ε,ζ,η,θ,ι,κ,μ,ν,ξ,ο,ρ,σ,τ,υ,reduceIte,reduceCtorEq])
   have f8:F2 8=some (.int .i64 p.room):=hF2 8 _ (by unfold eI; simp only[go_sem,γ,δ,ε,ζ,η,θ,ι,κ,μ,ν,ξ,ο,ρ,σ,τ,υ,reduceIte,reduceCtorEq])
   have f9:F2 9=some (.int .i64 p.rack):=hF2 9 _ (by unfold eI; simp only[go_sem,γ,δ,ε,ζ,η,θ,ι,κ,μ,ν,ξ,ο,ρ,σ,τ,υ,reduceIte,reduceCtorEq])
   have f10:F2 10=some (.int .i64 i):=hF2 10 _ (by unfold eI; simp only[go_sem,γ,δ,ε,ζ,η,θ,ι,κ,μ,ν,ξ,ο,ρ,σ,τ,υ,reduceIte,reduceCtorEq])
   have hnew:dZ l s0 (i+1)={ p with buU:=dB p.buU 4 p.rack (8+nxM l 9 p.a),bvI:=(gV l p.buU.length (1+nxM l 2 (p.a+1)) (p.bvI,p.a+2)).1,a:=(gV l p.buU.length (1+nxM l 2 (p.a+1)) (p.bvI,p.a+2)).2 }:=by
    rw[buQ]; unfold xF; rw[hp]
   simp only[go_sem,γ,δ,ε,ζ,η,θ,ι,κ,μ,ν,ξ,ο,ρ,σ,τ,υ,reduceIte,reduceCtorEq,DB,f10,wZz i]
   refine aJ (i+1,wd2,wr2,H2) ⟨hlt,?_⟩ (by simp only; omega) ?_ PH.le_refl
   ·simp only
    rw[hnew]
    exact h2
   ·simp only
    rw[hnew]
    unfold eI
    exact Lq
  have hp0:=fun p (h:eC l i s=p)=>h
  simp only[go_sem,γ,δ,ε,ζ,η,θ,ι,κ,μ,ν,ξ,ο,ρ,σ,τ,υ,reduceIte,reduceCtorEq,buP,ajR]
  by_cases c0:i=0
  ·simp only[go_sem,γ,δ,ε,ζ,η,θ,ι,κ,μ,ν,ξ,ο,ρ,σ,τ,υ,reduceIte,reduceCtorEq,bX (Om:((i:Nat):Int)=0)]
   refine aIY Lb T E n s.room s.rack i s.a Om ext w1 w2 wd wr s.buU Om [(wr,3,dT s.bvI)] _ _ _ (by unfold eI; exact Lq) hH ?_
   intro wd' F' H' hF' h'
   have hp:eC l i s=⟨dB (dB (dB s.buU 1 0 (16+nxM l 17 s.a)) 2 s.buU.length (16+nxM l 17 (s.a+1))) 3 (dB s.buU 1 0 (16+nxM l 17 s.a)).length (8+nxM l 9 (s.a+2)),s.bvI,s.buU.length,(dB s.buU 1 0 (16+nxM l 17 s.a)).length,(dB (dB s.buU 1 0 (16+nxM l 17 s.a)) 2 s.buU.length (16+nxM l 17 (s.a+1))).length,s.a+3⟩:=by
    unfold eC
    simp only
    rw[if_pos c0]
   exact rest _ wd' F' H' hp hF' h'
  simp only[go_sem,γ,δ,ε,ζ,η,θ,ι,κ,μ,ν,ξ,ο,ρ,σ,τ,υ,reduceIte,reduceCtorEq,bD (Om:((i:Nat):Int)≠0)]
  refine cB Lb.toCE T (o:=E.o) (n:=4) (a:=s.a) (by decide) Om rfl (hH.at 1 rfl) ?_
  have h1:=hH.set 1 rfl (bE l (s.a+1))
  by_cases c1:nxM l 4 s.a=0
  ·simp only[go_sem,γ,δ,ε,ζ,η,θ,ι,κ,μ,ν,ξ,ο,ρ,σ,τ,υ,reduceIte,reduceCtorEq,bX (Om:((nxM l 4 s.a:Nat):Int)=0)]
   refine aIY Lb T E n s.room s.rack i (s.a+1) Om ext w1 w2 wd wr s.buU Om [(wr,3,dT s.bvI)] _ _ _ (by unfold eI; exact Lq) h1 ?_
   intro wd' F' H' hF' h'
   have hp:eC l i s=⟨dB (dB (dB s.buU 1 0 (16+nxM l 17 (s.a+1))) 2 s.buU.length (16+nxM l 17 (s.a+1+1))) 3 (dB s.buU 1 0 (16+nxM l 17 (s.a+1))).length (8+nxM l 9 (s.a+1+2)),s.bvI,s.buU.length,(dB s.buU 1 0 (16+nxM l 17 (s.a+1))).length,(dB (dB s.buU 1 0 (16+nxM l 17 (s.a+1))) 2 s.buU.length (16+nxM l 17 (s.a+1+1))).length,s.a+1+3⟩:=by
    unfold eC
    simp only
    rw[if_neg c0,if_pos c1]
   exact rest _ wd' F' H' hp hF' h'
  simp only[go_sem,γ,δ,ε,ζ,η,θ,ι,κ,μ,ν,ξ,ο,ρ,σ,τ,υ,reduceIte,reduceCtorEq,bD (Om:((nxM l 4 s.a:Nat):Int)≠0),XI]
  refine cB Lb.toCE T (o:=E.o) (n:=2) (a:=s.a+1) (by decide) Om rfl (h1.at 1 rfl) ?_
  have h2:=h1.set 1 rfl (bE l (s.a+1+1))
  rw[PH.set_set] at h2
  by_cases c2:nxM l 2 (s.a+1)=0
  ·have n3:=cG l (show 0<9 by decide) (s.a+2)
   have e3:IntKind.i64.wrap (8+((nxM l 9 (s.a+2):Nat):Int))=((8+nxM l 9 (s.a+2):Nat):Int):=fW (a:=8) Om
   simp only[go_sem,γ,δ,ε,ζ,η,θ,ι,κ,μ,ν,ξ,ο,ρ,σ,τ,υ,reduceIte,reduceCtorEq,bX (show ((nxM l 2 (s.a+1):Nat):Int)=0 by omega),XJ]
   refine cB Lb.toCE T (o:=E.o) (n:=9) (a:=s.a+2) (by decide) Om rfl (h2.at 1 rfl) ?_
   have h3:=h2.set 1 rfl (bE l (s.a+2+1))
   rw[PH.set_set] at h3
   simp only[go_sem,γ,δ,ε,ζ,η,θ,ι,κ,μ,ν,ξ,ο,ρ,σ,τ,υ,reduceIte,reduceCtorEq,e3]
   refine qL Lb (lev:=3) (par:=s.room) (up:=8+nxM l 9 (s.a+2)) h3 Om rfl fun wd3 H3 h4=>?_
   have hp:eC l i s=⟨dB s.buU 3 s.room (8+nxM l 9 (s.a+2)),s.bvI,s.site,s.room,s.buU.length,s.a+3⟩:=by
    unfold eC
    simp only
    rw[if_neg c0,if_neg c1,if_pos c2]
   simp only[go_sem,γ,δ,ε,ζ,η,θ,ι,κ,μ,ν,ξ,ο,ρ,σ,τ,υ,reduceIte,reduceCtorEq]
   exact rest _ wd3 _ _ hp (by unfold eI; exact Lq) h4
  ·have hp:eC l i s={ s with a:=s.a+2 }:=by
    unfold eC
    simp only
    rw[if_neg c0,if_neg c1,if_neg c2]
   simp only[go_sem,γ,δ,ε,ζ,η,θ,ι,κ,μ,ν,ξ,ο,ρ,σ,τ,υ,reduceIte,reduceCtorEq,bD (show ((nxM l 2 (s.a+1):Nat):Int)≠0 by omega)]
   exact rest _ wd _ _ hp (by unfold eI; exact Lq) h2
 ·have buP:¬ (i:Int)<(n:Nat):=by omega
  have:i=n:=by omega
  subst this
  simp only[go_sem,γ,δ,ε,ζ,η,θ,ι,κ,μ,ν,ξ,ο,ρ,σ,τ,υ,reduceIte,reduceCtorEq,buP]
  refine hK wd wr _ _ ?_ ?_
  ·unfold sT
   exact Lq
  ·rw[hs]; exact hH
abbrev lC (P:cV) (w:PV):List PV:=[.str P.name,.int .i64 P.k,.int .i64 P.m,.int .i64 P.bvN,.int .i64 P.s0,.int .i64 P.s1,.int .i64 P.s2,.int .i64 P.s3,.int .i64 P.s4,ints P.buI,w,
 .bool P.target.neg,aD P.target.num,aD P.target.den,.bool P.buV.neg,aD P.buV.num,aD P.buV.den]
def sU (E:ME) (t m q j:Nat):PF:=((((((((PF.nil.set 0 (.ptr E.o 2 0 0)).set 1 (.int .i64 E.vols)).set 4 (.ptr E.o4 7 0 0)).set 5 (.ptr E.o5 7 0 0)).set 14 (.int .i64 t)).set 16 (.int .i64 m)).set 17 (.ptr q 17 0 0)).set 18 (.int .i64 j))
def yB (E:ME) (t m q:Nat):PF:=(((((((PF.nil.set 0 (.ptr E.o 2 0 0)).set 1 (.int .i64 E.vols)).set 4 (.ptr E.o4 7 0 0)).set 5 (.ptr E.o5 7 0 0)).set 14 (.int .i64 t)).set 16 (.int .i64 m)).set 17 (.ptr q 17 0 0))
abbrev sG (n:Nat):List (List PV):=PK (bwP n (mkT 1 2))
theorem aHS (n:Nat):sG n++[(mkT 1 2).cells]=sG (n+1):=by
 unfold sG
 rw[List.replicate_succ',aTW]
theorem a9N {C:Ctx} (Lb:nO C) (E:ME) (t m q:Nat) (P:cV) (B:List BX) (L:List LI) (hm:m≤100) (K:cI) (F:PF) (H:PH)
  (hF:(sU E t m q 0).le F) (hH:bA H ((q,.rows 17 [lC P .buJ])::B) L)
  (hK:∀ w F' H',(sU E t m q (max m 1)).le F'→bA H' ((q,.rows 17 [lC P w])::B) (L++[(w,3,sG (max m 1))])→K (.exit 6) F' H') :
  aB.wp C (.loop CR) K F H:=by
 refine wp_loop (α:=Nat × PV × PH) (fun s=>sU E t m q s.1) (fun s=>s.2.2) (fun s=>s.1≤max m 1∧bA s.2.2 ((q,.rows 17 [lC P s.2.1])::B) (L++[(s.2.1,3,sG s.1)])) (fun s=>max m 1-s.1) (0,.buJ,H) ⟨bwZ _,hH.sY 3⟩ hF PH.le_refl ?_
 rintro⟨j,w,H0⟩ ⟨hj,hH⟩
 simp only at hj hH ⊢
 have emax:max ((m:Nat):Int) 1=((max m 1:Nat):Int):=by omega
 simp only[go_sem,γ,δ,ε,ζ,η,θ,ι,κ,μ,ν,ξ,ο,ρ,σ,τ,υ,reduceIte,reduceCtorEq,CR,XR,sU,max_eq,emax]
 by_cases hlt:j<max m 1
 ·have buP:(j:Int)<((max m 1:Nat):Int):=by omega
  have b:=hH.at 0 rfl
  simp only[go_sem,γ,δ,ε,ζ,η,θ,ι,κ,μ,ν,ξ,ο,ρ,σ,τ,υ,reduceIte,reduceCtorEq,buP]
  refine bM (PH.nil.set q (.rows 17 [lC P w])) (mdS []) (PH.aH PH.nil_le b) ?_
  simp only[go_sem,γ,δ,ε,ζ,η,θ,ι,κ,μ,ν,ξ,ο,ρ,σ,τ,υ,reduceIte,reduceCtorEq,XS,b]
  refine ajH Lb (n:=1) (m:=2) (by unfold cQ; omega) (by unfold cQ; omega) (by decide) rfl (PH.aH PH.nil_le b) ?_
  have h13:(1:Nat)*3≤16777216:=by decide
  simp only[go_sem,γ,δ,ε,ζ,η,θ,ι,κ,μ,ν,ξ,ο,ρ,σ,τ,υ,reduceIte,reduceCtorEq,h13]
  refine hH.append (v:=w) (s:=3) (rows:=sG j) L.length (src:=[(mkT 1 2).cells]) (by simp) rfl (by unfold roomFor; rw[JX,bzW]; simp only[bxD,maxLen]; omega) fun w' H2 h5 hw=>?_
  obtain⟨z,rfl⟩:=hw (by simp)
  rw[bzZ _ _ (bwR _),Nat.sub_self] at h5
  have b2:=h5.at 0 rfl
  refine⟨PH.aH PH.nil_le b2,?_⟩
  refine bM .nil dV PH.nil_le ?_
  simp only[go_sem,γ,δ,ε,ζ,η,θ,ι,κ,μ,ν,ξ,ο,ρ,σ,τ,υ,reduceIte,reduceCtorEq,XT,b2,bxF,byC,or_false,forall_eq]
  have h6:=h5.set 0 rfl (.rows 17 [lC P (.osl z 3 0 (sG j++[(mkT 1 2).cells]).length)])
  refine⟨PH.nil_le,?_⟩
  simp only[go_sem,γ,δ,ε,ζ,η,θ,ι,κ,μ,ν,ξ,ο,ρ,σ,τ,υ,reduceIte,reduceCtorEq,XU,wZz j]
  refine aJ (j+1,.osl z 3 0 (sG j++[(mkT 1 2).cells]).length,_) ⟨hlt,?_⟩ (by simp only; omega) ?_ PH.le_refl
  ·simp only
   rw[← aHS]
   exact h6
  ·exact Lq
 ·have buP:¬ (j:Int)<((max m 1:Nat):Int):=by omega
  have:j=max m 1:=by omega
  subst this
  simp only[go_sem,γ,δ,ε,ζ,η,θ,ι,κ,μ,ν,ξ,ο,ρ,σ,τ,υ,reduceIte,reduceCtorEq,buP]
  refine hK w _ _ ?_ hH
  unfold sU
  exact Lq
theorem a9M {C:Ctx} (Lb:nO C) {l:List Int} (T:TpM l) (E:ME) (t a:Nat) (ht:t<100) (ha:a≤50000) (ext w1 w2 wd wr wp:PV) (L:List LI) (X:aB) (K:cI) (F:PF) (H:PH)
  (f0:F 0=some (.ptr E.o 2 0 0)) (f1:F 1=some (.int .i64 E.vols)) (f4:F 4=some (.ptr E.o4 7 0 0)) (f5:F 5=some (.ptr E.o5 7 0 0)) (f14:F 14=some (.int .i64 t))
  (hH:bA H (E.boxes l ext w1 w2 wd wr wp .buJ a) L)
  (hK:∀ q F' H',(yB E t (nxM l 3 (a+1)) q).le F'→bA H' ((q,.rows 17 [lC (nN l t a) .buJ])::E.boxes l ext w1 w2 wd wr wp .buJ (a+6)) L→aB.wp C X K F' H') :
  aB.wp C (.seq (.region DC) (.seq (.region DD) (.seq (.region DE) (.seq (.region DF) (.seq (.region DG) (.seq (.seq (.region DH) (.cond (.tmp 163) (.region DI) .skip)) X)))))) K F H:=by
 have n1:=cG l (show 0<2 by decide) a
 have n2:=cG l (show 0<3 by decide) (a+1)
 have n3:=cG l (Om:0<nxM l 3 (a+1)+1) (a+2)
 have e1:IntKind.i64.wrap (1+((nxM l 2 a:Nat):Int))=((1+nxM l 2 a:Nat):Int):=fW (a:=1) Om
 have e2:IntKind.i64.wrap (((nxM l 3 (a+1):Nat):Int)+1)=((nxM l 3 (a+1)+1:Nat):Int):=cY Om
 have e3:IntKind.i64.wrap (((1+nxM l 2 a:Nat):Int)+((nxM l (nxM l 3 (a+1)+1) (a+2):Nat):Int))=((1+nxM l 2 a+nxM l (nxM l 3 (a+1)+1) (a+2):Nat):Int):=fW Om
 have h12:(2:Nat)*1≤16777216:=by decide
 have h35:(3:Int)<((5:Nat):Int):=by decide
 have h45:(4:Int)<((5:Nat):Int):=by decide
 have h11:(1:Nat)*1≤16777216:=by decide
 simp only[go_sem,γ,δ,ε,ζ,η,θ,ι,κ,μ,ν,ξ,ο,ρ,σ,τ,υ,reduceIte,reduceCtorEq,DC,f0]
 refine cB Lb.toCE T (o:=E.o) (n:=2) (a:=a) (by decide) Om rfl (hH.at 1 rfl) ?_
 have h1:=hH.set 1 rfl (bE l (a+1))
 simp only[go_sem,γ,δ,ε,ζ,η,θ,ι,κ,μ,ν,ξ,ο,ρ,σ,τ,υ,reduceIte,reduceCtorEq,e1,DD,f0]
 refine cB Lb.toCE T (o:=E.o) (n:=3) (a:=a+1) (by decide) Om rfl (h1.at 1 rfl) ?_
 have h2:=h1.set 1 rfl (bE l (a+2))
 rw[PH.set_set] at h2
 simp only[go_sem,γ,δ,ε,ζ,η,θ,ι,κ,μ,ν,ξ,ο,ρ,σ,τ,υ,reduceIte,reduceCtorEq,DE,f14]
 refine aA (Lb.name 112 t ht) rfl ?_
 simp only[go_sem,γ,δ,ε,ζ,η,θ,ι,κ,μ,ν,ξ,ο,ρ,σ,τ,υ,reduceIte,reduceCtorEq,f0,e2]
 refine cB Lb.toCE T (o:=E.o) (n:=nxM l 3 (a+1)+1) (a:=a+2) Om Om rfl (h2.at 1 rfl) ?_
 have h3:=h2.set 1 rfl (bE l (a+3))
 rw[PH.set_set] at h3
 simp only[go_sem,γ,δ,ε,ζ,η,θ,ι,κ,μ,ν,ξ,ο,ρ,σ,τ,υ,reduceIte,reduceCtorEq,e3,h12]
 refine aA (Lb.frac 1 1000 (by unfold cQ; omega) (by unfold cQ; omega) (by decide)) rfl ?_
 simp only[go_sem,γ,δ,ε,ζ,η,θ,ι,κ,μ,ν,ξ,ο,ρ,σ,τ,υ,reduceIte,reduceCtorEq]
 refine aA (Lb.frac 30 1 (by unfold cQ; omega) (by unfold cQ; omega) (by decide)) rfl ?_
 simp only[go_sem,γ,δ,ε,ζ,η,θ,ι,κ,μ,ν,ξ,ο,ρ,σ,τ,υ,reduceIte,reduceCtorEq,bxF,byC,or_false,forall_eq,forall_eq_or_imp]
 refine aP fun q hq=>?_
 have h4:=h3.new hq (.rows 17 [[.str (dD 112 t),.int .i64 (1+nxM l 2 a:Nat),.int .i64 (nxM l 3 (a+1):Nat),.int .i64 (1+nxM l 2 a+nxM l (nxM l 3 (a+1)+1) (a+2):Nat),.int .i64 0,.int .i64 0,.int .i64 0,.int .i64 0,.int .i64 0,ints [0,1],.buJ,.bool (mkT 1 1000).neg,aD (mkT 1 1000).num,aD (mkT 1 1000).den,.bool (mkT 30 1).neg,aD (mkT 30 1).num,aD (mkT 30 1).den]])
 have nq:¬ E.o=q:=h4.ne 1 3 rfl rfl (by decide)
 have nq':¬ q=E.o:=fun h=>nq h.symm
 simp only[go_sem,γ,δ,ε,ζ,η,θ,ι,κ,μ,ν,ξ,ο,ρ,σ,τ,υ,reduceIte,reduceCtorEq,bxF,byC,or_false,forall_eq,forall_eq_or_imp,DF,f0]
 refine cB Lb.toCE T (o:=E.o) (n:=4) (a:=a+3) (by decide) Om rfl (h4.at 1 rfl) ?_
 have h5:=h4.set 1 rfl (bE l (a+4))
 have h6:=h5.set 3 rfl (.rows 17 [[.str (dD 112 t),.int .i64 (1+nxM l 2 a:Nat),.int .i64 (nxM l 3 (a+1):Nat),.int .i64 (1+nxM l 2 a+nxM l (nxM l 3 (a+1)+1) (a+2):Nat),.int .i64 0,.int .i64 0,.int .i64 0,.int .i64 (nxM l 4 (a+3):Nat),.int .i64 0,ints [0,1],.buJ,.bool (mkT 1 1000).neg,aD (mkT 1 1000).num,aD (mkT 1 1000).den,.bool (mkT 30 1).neg,aD (mkT 30 1).num,aD (mkT 30 1).den]])
 simp only[go_sem,γ,δ,ε,ζ,η,θ,ι,κ,μ,ν,ξ,ο,ρ,σ,τ,υ,reduceIte,reduceCtorEq,h35,nq,nq',bxF,byC,or_false,forall_eq,DG,f0]
 refine cB Lb.toCE T (o:=E.o) (n:=3) (a:=a+4) (by decide) Om rfl (h6.at 1 rfl) ?_
 have h7:=h6.set 1 rfl (bE l (a+5))
 have h8:=h7.set 3 rfl (.rows 17 [[.str (dD 112 t),.int .i64 (1+nxM l 2 a:Nat),.int .i64 (nxM l 3 (a+1):Nat),.int .i64 (1+nxM l 2 a+nxM l (nxM l 3 (a+1)+1) (a+2):Nat),.int .i64 0,.int .i64 0,.int .i64 0,.int .i64 (nxM l 4 (a+3):Nat),.int .i64 (nxM l 3 (a+4):Nat),ints [0,1],.buJ,.bool (mkT 1 1000).neg,aD (mkT 1 1000).num,aD (mkT 1 1000).den,.bool (mkT 30 1).neg,aD (mkT 30 1).num,aD (mkT 30 1).den]])
 simp only[go_sem,γ,δ,ε,ζ,η,θ,ι,κ,μ,ν,ξ,ο,ρ,σ,τ,υ,reduceIte,reduceCtorEq,h45,nq,nq',bxF,byC,or_false,forall_eq,DH,f0]
 refine cB Lb.toCE T (o:=E.o) (n:=5) (a:=a+5) (by decide) Om rfl (h8.at 1 rfl) ?_
 have h9:=h8.set 1 rfl (bE l (a+6))
 by_cases c:nxM l 5 (a+5)=0
 ·have h10:=h9.set 3 rfl (.rows 17 [lC (nN l t a) .buJ])
  have eP:lC (nN l t a) .buJ=[.str (dD 112 t),.int .i64 (1+nxM l 2 a:Nat),.int .i64 (nxM l 3 (a+1):Nat),.int .i64 (1+nxM l 2 a+nxM l (nxM l 3 (a+1)+1) (a+2):Nat),.int .i64 0,.int .i64 0,.int .i64 0,.int .i64 (nxM l 4 (a+3):Nat),.int .i64 (nxM l 3 (a+4):Nat),ints [0],.buJ,.bool (mkT 1 1000).neg,aD (mkT 1 1000).num,aD (mkT 1 1000).den,.bool (mkT 30 1).neg,aD (mkT 30 1).num,aD (mkT 30 1).den]:=by
   unfold nN lC
   simp only[if_pos c]
  have h11':=h10.perm (List.perm_append_comm (l₁:=E.boxes l ext w1 w2 wd wr wp .buJ (a+6)) (l₂:=[(q,.rows 17 [lC (nN l t a) .buJ])])) (List.Perm.refl _)
  simp only[go_sem,γ,δ,ε,ζ,η,θ,ι,κ,μ,ν,ξ,ο,ρ,σ,τ,υ,reduceIte,reduceCtorEq,bX (show ((nxM l 5 (a+5):Nat):Int)=0 by omega),DI,h11,nq,nq',bxF,byC,or_false,forall_eq]
  rw[eP] at h11'
  refine hK q _ _ ?_ (by rw[eP]; exact h11')
  unfold yB
  exact Lq
 ·have eP:lC (nN l t a) .buJ=[.str (dD 112 t),.int .i64 (1+nxM l 2 a:Nat),.int .i64 (nxM l 3 (a+1):Nat),.int .i64 (1+nxM l 2 a+nxM l (nxM l 3 (a+1)+1) (a+2):Nat),.int .i64 0,.int .i64 0,.int .i64 0,.int .i64 (nxM l 4 (a+3):Nat),.int .i64 (nxM l 3 (a+4):Nat),ints [0,1],.buJ,.bool (mkT 1 1000).neg,aD (mkT 1 1000).num,aD (mkT 1 1000).den,.bool (mkT 30 1).neg,aD (mkT 30 1).num,aD (mkT 30 1).den]:=by
   unfold nN lC
   simp only[if_neg c]
  simp only[go_sem,γ,δ,ε,ζ,η,θ,ι,κ,μ,ν,ξ,ο,ρ,σ,τ,υ,reduceIte,reduceCtorEq,bD (show ((nxM l 5 (a+5):Nat):Int)≠0 by omega)]
  refine hK q _ _ ?_ ?_
  ·unfold yB
   exact Lq
  ·rw[eP]
   exact h9.perm (List.perm_append_comm (l₁:=E.boxes l ext w1 w2 wd wr wp .buJ (a+6)) (l₂:=[(q,.rows 17 [_])])) (List.Perm.refl _)
def aTH (E:ME) (t:Nat):PF:=(((((PF.nil.set 0 (.ptr E.o 2 0 0)).set 1 (.int .i64 E.vols)).set 4 (.ptr E.o4 7 0 0)).set 5 (.ptr E.o5 7 0 0)).set 14 (.int .i64 t))
theorem a3J {C:Ctx} (Lb:nO C) {l:List Int} (T:TpM l) (E:ME) (n a0:Nat) (hn:n≤10) (ha:a0≤10000) (x0:Int) (w1 w2 wd wr:PV) (o1:w1.oid=none) (o2:w2.oid=none) (dm:List bJ) (dv:List cA) (K:cI) (F:PF) (H:PH)
  (hF:(aTH E n).le F) (hH:bA H (E.boxes l (.int .i64 x0) w1 w2 wd wr .buJ .buJ a0) [(wd,7,dC dm),(wr,3,dT dv)])
  (hK:∀ wp F' H',(sT E).le F'→bA H' (E.boxes l (.int .i64 x0) w1 w2 wd wr wp .buJ (a0+6*n)) [(wd,7,dC dm),(wr,3,dT dv),(wp,17,kJ (gP l n a0))]→K (.exit 4) F' H') :
  aB.wp C (.loop CS) K F H:=by
 refine wp_loop (α:=Nat × List cV × PV × PH) (fun s=>aTH E s.1) (fun s=>s.2.2.2)
  (fun s=>s.1≤n∧s.2.1.length=n-s.1∧s.2.1++gP l s.1 (a0+6*(n-s.1))=gP l n a0∧bA s.2.2.2 (E.boxes l (.int .i64 x0) w1 w2 wd wr s.2.2.1 .buJ (a0+6*(n-s.1))) [(wd,7,dC dm),(wr,3,dT dv),(s.2.2.1,17,kJ s.2.1)]) (fun s=>s.1) (n,[],.buJ,H)
  ⟨bwR _,by simp,by simp,by simp only[Nat.sub_self,Nat.mul_zero,byB]; exact hH.sY 17⟩ hF PH.le_refl ?_
 rintro⟨t,done,wp,H0⟩ ⟨ht,hdl,hE,hH⟩
 simp only at ht hdl hE hH ⊢
 simp only[go_sem,γ,δ,ε,ζ,η,θ,ι,κ,μ,ν,ξ,ο,ρ,σ,τ,υ,reduceIte,reduceCtorEq,CS,XP,aTH]
 cases t with
 | zero =>
  have hc:¬ (((0:Nat):Int)>0):=by omega
  have e:done=gP l n a0:=by rw[← hE,gP,byU]
  rw[Nat.sub_zero,e] at hH
  simp only[go_sem,γ,δ,ε,ζ,η,θ,ι,κ,μ,ν,ξ,ο,ρ,σ,τ,υ,reduceIte,reduceCtorEq,hc]
  refine hK wp _ _ ?_ hH
  unfold sT
  exact Lq
 | succ t =>
  have hc:(((t+1:Nat):Int)>0):=by omega
  obtain⟨a,hae⟩:∃ a,a=a0+6*(n-(t+1)):=⟨_,rfl⟩
  have ha6:a0+6*(n-t)=a+6:=by omega
  rw[← hae] at hE hH
  simp only[go_sem,γ,δ,ε,ζ,η,θ,ι,κ,μ,ν,ξ,ο,ρ,σ,τ,υ,reduceIte,reduceCtorEq,hc]
  refine a9M Lb T E (t+1) a Om Om (.int .i64 x0) w1 w2 wd wr wp _ _ _ _ _ Ev Ev Ev Ev Ev hH ?_
  intro q F1 H1 hF1 h1
  have f0:F1 0=some (.ptr E.o 2 0 0):=hF1 0 _ (by unfold yB; simp only[go_sem,γ,δ,ε,ζ,η,θ,ι,κ,μ,ν,ξ,ο,ρ,σ,τ,υ,reduceIte,reduceCtorEq])
  have f1:F1 1=some (.int .i64 E.vols):=hF1 1 _ (by unfold yB; simp only[go_sem,γ,δ,ε,ζ,η,θ,ι,κ,μ,ν,ξ,ο,ρ,σ,τ,υ,reduceIte,reduceCtorEq])
  have f4:F1 4=some (.ptr E.o4 7 0 0):=hF1 4 _ (by unfold yB; simp only[go_sem,γ,δ,ε,ζ,η,θ,ι,κ,μ,ν,ξ,ο,ρ,σ,τ,υ,reduceIte,reduceCtorEq])
  have f5:F1 5=some (.ptr E.o5 7 0 0):=hF1 5 _ (by unfold yB; simp only[go_sem,γ,δ,ε,ζ,η,θ,ι,κ,μ,ν,ξ,ο,ρ,σ,τ,υ,reduceIte,reduceCtorEq])
  have f14:F1 14=some (.int .i64 (t+1:Nat)):=hF1 14 _ (by unfold yB; simp only[go_sem,γ,δ,ε,ζ,η,θ,ι,κ,μ,ν,ξ,ο,ρ,σ,τ,υ,reduceIte,reduceCtorEq])
  have f16:F1 16=some (.int .i64 (nxM l 3 (a+1):Nat)):=hF1 16 _ (by unfold yB; simp only[go_sem,γ,δ,ε,ζ,η,θ,ι,κ,μ,ν,ξ,ο,ρ,σ,τ,υ,reduceIte,reduceCtorEq])
  have f17:F1 17=some (.ptr q 17 0 0):=hF1 17 _ (by unfold yB; simp only[go_sem,γ,δ,ε,ζ,η,θ,ι,κ,μ,ν,ξ,ο,ρ,σ,τ,υ,reduceIte,reduceCtorEq])
  have n3:=cG l (show 0<3 by decide) (a+1)
  have hPr:(nN l (t+1) a).repair=bwP (max (nxM l 3 (a+1)) 1) (mkT 1 2):=rfl
  have hE2:(done++[nN l (t+1) a])++gP l t (a+6)=gP l n a0:=by rw[← hE,gP,bxU]; rfl
  generalize nN l (t+1) a=P at *
  simp only[go_sem,γ,δ,ε,ζ,η,θ,ι,κ,μ,ν,ξ,ο,ρ,σ,τ,υ,reduceIte,reduceCtorEq,XQ]
  refine a9N Lb E (t+1) (nxM l 3 (a+1)) q P _ _ Om _ _ _ (by unfold sU; (repeat' (first|exact PF.nil_le|refine PF.aH ?_ ?_))<;>first|(simp only[go_sem,γ,δ,ε,ζ,η,θ,ι,κ,μ,ν,ξ,ο,ρ,σ,τ,υ,reduceIte,reduceCtorEq,f0,f1,f4,f5,f14,f16,f17]<;>rfl)|rfl) h1 ?_
  intro w F2 H2 hF2 h2
  have g0:F2 0=some (.ptr E.o 2 0 0):=hF2 0 _ (by unfold sU; simp only[go_sem,γ,δ,ε,ζ,η,θ,ι,κ,μ,ν,ξ,ο,ρ,σ,τ,υ,reduceIte,reduceCtorEq])
  have g1:F2 1=some (.int .i64 E.vols):=hF2 1 _ (by unfold sU; simp only[go_sem,γ,δ,ε,ζ,η,θ,ι,κ,μ,ν,ξ,ο,ρ,σ,τ,υ,reduceIte,reduceCtorEq])
  have g4:F2 4=some (.ptr E.o4 7 0 0):=hF2 4 _ (by unfold sU; simp only[go_sem,γ,δ,ε,ζ,η,θ,ι,κ,μ,ν,ξ,ο,ρ,σ,τ,υ,reduceIte,reduceCtorEq])
  have g5:F2 5=some (.ptr E.o5 7 0 0):=hF2 5 _ (by unfold sU; simp only[go_sem,γ,δ,ε,ζ,η,θ,ι,κ,μ,ν,ξ,ο,ρ,σ,τ,υ,reduceIte,reduceCtorEq])
  have g14:F2 14=some (.int .i64 (t+1:Nat)):=hF2 14 _ (by unfold sU; simp only[go_sem,γ,δ,ε,ζ,η,θ,ι,κ,μ,ν,ξ,ο,ρ,σ,τ,υ,reduceIte,reduceCtorEq])
  have g17:F2 17=some (.ptr q 17 0 0):=hF2 17 _ (by unfold sU; simp only[go_sem,γ,δ,ε,ζ,η,θ,ι,κ,μ,ν,ξ,ο,ρ,σ,τ,υ,reduceIte,reduceCtorEq])
  obtain⟨o,hw⟩:=(h2.own 3 rfl).one (by rw[JX,bzW]; omega)
  rw[JX,bzW] at hw
  subst hw
  have bq:=h2.at 0 rfl
  have b5:=h2.at 1 rfl
  have h17:(1:Nat)*17≤16777216:=by decide
  have e1:IntKind.i64.wrap (((t+1:Nat):Int)-1)=((t:Nat):Int):=by rw[wrap_i64 Om Om]; omega
  simp only[go_sem,γ,δ,ε,ζ,η,θ,ι,κ,μ,ν,ξ,ο,ρ,σ,τ,υ,reduceIte,reduceCtorEq,XV,g5,g17,bq,b5,h17]
  refine h2.append (v:=wp) (s:=17) (rows:=kJ done) 2 (src:=[lC P (.osl o 3 0 (max (nxM l 3 (a+1)) 1))]) rfl Sq (by unfold roomFor; rw[bwN,hdl]; simp only[bxD,maxLen]; omega) fun wp' H3 h3 hw=>?_
  obtain⟨z,rfl⟩:=hw (by simp)
  have b3:=h3.at 1 rfl
  simp only[go_sem,γ,δ,ε,ζ,η,θ,ι,κ,μ,ν,ξ,ο,ρ,σ,τ,υ,reduceIte,reduceCtorEq,g5,b3,bxF,byC,or_false,forall_eq]
  have h4:=h3.set 1 rfl (flB (.int .i64 x0) w1 w2 wd wr (.osl z 17 0 (kJ done++[lC P (.osl o 3 0 (max (nxM l 3 (a+1)) 1))]).length) .buJ)
  simp only[go_sem,γ,δ,ε,ζ,η,θ,ι,κ,μ,ν,ξ,ο,ρ,σ,τ,υ,reduceIte,reduceCtorEq,XW,g14,e1]
  generalize hwp:(PV.osl z 17 0 (kJ done++[lC P (.osl o 3 0 (max (nxM l 3 (a+1)) 1))]).length)=wp' at *
  obtain⟨rs,z1,z2,z3,z4,z5⟩:=h4.frz 3 rfl
  have y1:=z4 0 _ (by decide) rfl
  have y2:=z4 1 _ (by decide) rfl
  have y3:=z4 2 _ (by decide) rfl
  simp only at y1 y2 y3
  have y4:=tN o1 o 3 rs
  have y5:=tN o2 o 3 rs
  refine alI (t,done++[P],wp',(H3.set E.o5 (flB (.int .i64 x0) w1 w2 wd wr wp' .buJ)).frz o 3 rs) z1 ⟨by omega,by simp only[bwW,bxD,hdl]; omega,by simp only; rw[ha6]; exact hE2,?_⟩ (by simp only; omega) ?_ PH.le_refl
  ·simp only
   rw[ha6]
   have eB:(E.boxes l (.int .i64 x0) w1 w2 wd wr wp' .buJ (a+6)).map (fun b=>(b.1,b.2.frz o 3 rs))=E.boxes l (.int .i64 x0) w1 w2 wd wr wp' .buJ (a+6):=by
    show [(E.o5,cM.rows 7 [[.int .i64 x0,PV.dX o 3 rs w1,PV.dX o 3 rs w2,PV.dX o 3 rs wd,PV.dX o 3 rs wr,PV.dX o 3 rs wp',.buJ]]),(E.o,bE l (a+6)),(E.o4,flZ)]=_
    rw[y1,y2,y3,y4,y5]
   have e5:(kJ done++[lC P (.osl o 3 0 (max (nxM l 3 (a+1)) 1))]).map (fun r=>r.map (PV.dX o 3 rs))=kJ (done++[P]):=by
    rw[bzD,aNO]
    have:([lC P (.osl o 3 0 (max (nxM l 3 (a+1)) 1))]:List (List PV)).map (fun r=>r.map (PV.dX o 3 rs))=[P.cells]:=by
     show [[PV.str P.name,.int .i64 P.k,.int .i64 P.m,.int .i64 P.bvN,.int .i64 P.s0,.int .i64 P.s1,.int .i64 P.s2,.int .i64 P.s3,.int .i64 P.s4,ints P.buI,PV.dX o 3 rs (.osl o 3 0 (max (nxM l 3 (a+1)) 1)),.bool P.target.neg,aD P.target.num,aD P.target.den,.bool P.buV.neg,aD P.buV.num,aD P.buV.den]]=_
     rw[z2]
     unfold cV.cells
     rw[hPr]
    rw[this]
    simp[kJ]
   have eL:([(wd,7,dC dm),(wr,3,dT dv),(wp',17,kJ done++[lC P (.osl o 3 0 (max (nxM l 3 (a+1)) 1))])]:List LI).map (fun x=>(x.1,x.2.1,x.2.2.map fun r=>r.map (PV.dX o 3 rs)))=[(wd,7,dC dm),(wr,3,dT dv),(wp',17,kJ (done++[P]))]:=by
    show [(wd,7,(dC dm).map _),(wr,3,(dT dv).map _),(wp',17,(kJ done++[lC P (.osl o 3 0 (max (nxM l 3 (a+1)) 1))]).map _)]=_
    rw[aJA,aJC,e5]
   rw[← eB,← eL]
   exact z5.sub (List.sublist_cons_self ..) (byT.refl _)
  ·(repeat' (first|exact PF.nil_le|refine PF.aH ?_ ?_))<;>first|(simp only[go_sem,γ,δ,ε,ζ,η,θ,ι,κ,μ,ν,ξ,ο,ρ,σ,τ,υ,reduceIte,reduceCtorEq,g0,g1,g4,g5]<;>rfl)|rfl
def aTI (E:ME) (t:Nat):PF:=((((PF.nil.set 0 (.ptr E.o 2 0 0)).set 4 (.ptr E.o4 7 0 0)).set 5 (.ptr E.o5 7 0 0)).set 19 (.int .i64 t))
def aTG (E:ME):PF:=(((PF.nil.set 0 (.ptr E.o 2 0 0)).set 4 (.ptr E.o4 7 0 0)).set 5 (.ptr E.o5 7 0 0))
theorem a3L {C:Ctx} (Lb:nO C) {l:List Int} (T:TpM l) (E:ME) (n a0:Nat) (hn:n≤90) (ha:a0≤10000) (ext w1 w2 wd wr wp:PV) (ps:List cV) (hps:ps.length≤1000) (dm:List bJ) (dv:List cA) (K:cI) (F:PF) (H:PH)
  (hF:(aTI E n).le F) (hH:bA H (E.boxes l ext w1 w2 wd wr wp .buJ a0) [(wd,7,dC dm),(wr,3,dT dv),(wp,17,kJ ps)])
  (hK:∀ wv F' H',(aTG E).le F'→bA H' (E.boxes l ext w1 w2 wd wr wp wv (a0+n)) [(wd,7,dC dm),(wr,3,dT dv),(wp,17,kJ ps),(wv,2,oA (kA l ps.length n a0))]→K (.exit 8) F' H') :
  aB.wp C (.loop CU) K F H:=by
 refine wp_loop (α:=Nat × List dW × PV × PH) (fun s=>aTI E s.1) (fun s=>s.2.2.2)
  (fun s=>s.1≤n∧s.2.1.length=n-s.1∧s.2.1++kA l ps.length s.1 (a0+(n-s.1))=kA l ps.length n a0∧bA s.2.2.2 (E.boxes l ext w1 w2 wd wr wp s.2.2.1 (a0+(n-s.1))) [(wd,7,dC dm),(wr,3,dT dv),(wp,17,kJ ps),(s.2.2.1,2,oA s.2.1)]) (fun s=>s.1) (n,[],.buJ,H)
  ⟨bwR _,by simp,by simp,by simp only[Nat.sub_self,byB]; exact hH.sY 2⟩ hF PH.le_refl ?_
 rintro⟨t,done,wv,H0⟩ ⟨ht,hdl,hE,hH⟩
 simp only at ht hdl hE hH ⊢
 simp only[go_sem,γ,δ,ε,ζ,η,θ,ι,κ,μ,ν,ξ,ο,ρ,σ,τ,υ,reduceIte,reduceCtorEq,CU,XZ,aTI]
 cases t with
 | zero =>
  have hc:¬ (((0:Nat):Int)>0):=by omega
  have e:done=kA l ps.length n a0:=by rw[← hE,kA,byU]
  rw[Nat.sub_zero,e] at hH
  simp only[go_sem,γ,δ,ε,ζ,η,θ,ι,κ,μ,ν,ξ,ο,ρ,σ,τ,υ,reduceIte,reduceCtorEq,hc]
  refine hK wv _ _ ?_ hH
  unfold aTG
  exact Lq
 | succ t =>
  have hc:(((t+1:Nat):Int)>0):=by omega
  obtain⟨a,hae⟩:∃ a,a=a0+(n-(t+1)):=⟨_,rfl⟩
  have ha6:a0+(n-t)=a+1:=by omega
  rw[← hae] at hE hH
  have b5:=hH.at 0 rfl
  have lw:=(hH.own 2 rfl).yP
  rw[bwN] at lw
  have h1:=hH.set 1 rfl (bE l (a+1))
  have b1:=h1.at 0 rfl
  have e1:IntKind.i64.wrap (((t+1:Nat):Int)-1)=((t:Nat):Int):=by rw[wrap_i64 Om Om]; omega
  have h12:(1:Nat)*2≤16777216:=by decide
  simp only[go_sem,γ,δ,ε,ζ,η,θ,ι,κ,μ,ν,ξ,ο,ρ,σ,τ,υ,reduceIte,reduceCtorEq,hc]
  refine bM (PH.nil.set E.o5 (flB ext w1 w2 wd wr wp wv)) (mdS l) (PH.aH PH.nil_le b5) ?_
  simp only[go_sem,γ,δ,ε,ζ,η,θ,ι,κ,μ,ν,ξ,ο,ρ,σ,τ,υ,reduceIte,reduceCtorEq,YA,b5]
  refine JD Lb (c:=118) (n:=t+1) Om (by simp only[go_sem,γ,δ,ε,ζ,η,θ,ι,κ,μ,ν,ξ,ο,ρ,σ,τ,υ,reduceIte,reduceCtorEq]; rfl) (PH.aH PH.nil_le b5) ?_
  simp only[go_sem,γ,δ,ε,ζ,η,θ,ι,κ,μ,ν,ξ,ο,ρ,σ,τ,υ,reduceIte,reduceCtorEq,b5,lw]
  refine aXS Lb.toCE T (o:=E.o) (n:=ps.length) (a:=a) Om Om Sq (hH.at 1 rfl) (PH.aH PH.nil_le b1) ?_
  simp only[go_sem,γ,δ,ε,ζ,η,θ,ι,κ,μ,ν,ξ,ο,ρ,σ,τ,υ,reduceIte,reduceCtorEq,h12]
  refine h1.append (v:=wv) (s:=2) (rows:=oA done) 3 (src:=[(⟨dD 118 (t+1),(nxM l ps.length a:Nat)⟩:dW).cells]) rfl Sq (by unfold roomFor; rw[bwN,hdl]; simp only[bxD,maxLen]; omega) fun w' H2 h5 hw=>?_
  obtain⟨z,rfl⟩:=hw (by simp)
  have b2:=h5.at 0 rfl
  refine⟨PH.aH PH.nil_le b2,?_⟩
  refine bM .nil dV PH.nil_le ?_
  simp only[go_sem,γ,δ,ε,ζ,η,θ,ι,κ,μ,ν,ξ,ο,ρ,σ,τ,υ,reduceIte,reduceCtorEq,YB,b2,bxF,byC,or_false,forall_eq]
  have h6:=h5.set 0 rfl (flB ext w1 w2 wd wr wp (.osl z 2 0 (oA done++[(⟨dD 118 (t+1),(nxM l ps.length a:Nat)⟩:dW).cells]).length))
  refine⟨PH.nil_le,?_⟩
  simp only[go_sem,γ,δ,ε,ζ,η,θ,ι,κ,μ,ν,ξ,ο,ρ,σ,τ,υ,reduceIte,reduceCtorEq,YC,e1]
  refine aJ (t,done++[⟨dD 118 (t+1),(nxM l ps.length a:Nat)⟩],.osl z 2 0 (oA done++[(⟨dD 118 (t+1),(nxM l ps.length a:Nat)⟩:dW).cells]).length,_) ⟨by omega,by simp only[bwW,bxD,hdl]; omega,?_,?_⟩ (by simp only; omega) ?_ PH.le_refl
  ·simp only
   rw[ha6,← hE,kA,bxU]
   rfl
  ·simp only
   rw[ha6]
   have e:oA (done++[⟨dD 118 (t+1),(nxM l ps.length a:Nat)⟩])=oA done++[(⟨dD 118 (t+1),(nxM l ps.length a:Nat)⟩:dW).cells]:=by simp[oA]
   rw[e]
   exact h6
  ·exact Lq
def aIL (l:List Int) (o vols a:Nat) (r:PV) (H:PH):Prop:=Co r (.agg (cZ l vols a).1.cells)∧H=PH.nil.set o (bE l (cZ l vols a).2)
theorem aXU {C:Ctx} (Lb:AO C) {l:List Int} (T:TpM l) (o vols a:Nat) (hv:vols≤50) (ha:a≤1000) :
  yC.wp C (aS JG.res (aIL l o vols a)) (PF.args [.ptr o 2 0 0,.int .i64 vols]) (PH.nil.set o (bE l a)):=by
 have hR:∀ r H,aIL l o vols a r H↔Co r (.agg (cZ l vols a).1.cells)∧H=PH.nil.set o (bE l (cZ l vols a).2):=fun _ _=>Iff.rfl
 have hT:cZ l vols a=cZ l vols a:=rfl
 conv at hT=>rhs; unfold cZ
 dsimp only at hT
 have n1:=cG l (show 0<2 by decide) a
 have n2:=cG l (show 0<100 by decide) (a+1)
 have n3:=cG l (show 0<2 by decide) (a+2)
 have n4:=cG l (show 0<9 by decide) (a+3)
 have n5:=cG l (show 0<3 by decide) (a+4)
 have n6:=cG l (show 0<9 by decide) (a+5)
 have n7:=cG l (show 0<3 by decide) (a+6)
 have e1:IntKind.i64.wrap (1+((nxM l 2 a:Nat):Int))=((1+nxM l 2 a:Nat):Int):=fW (a:=1) Om
 have e2:IntKind.i64.wrap (100+((nxM l 100 (a+1):Nat):Int))=((100+nxM l 100 (a+1):Nat):Int):=fW (a:=100) Om
 have e3:IntKind.i64.wrap (3+((nxM l 2 (a+2):Nat):Int))=((3+nxM l 2 (a+2):Nat):Int):=fW (a:=3) Om
 have e4:IntKind.i64.wrap (8+((nxM l 9 (a+3):Nat):Int))=((8+nxM l 9 (a+3):Nat):Int):=fW (a:=8) Om
 have e5:IntKind.i64.wrap (1+((nxM l 3 (a+4):Nat):Int))=((1+nxM l 3 (a+4):Nat):Int):=fW (a:=1) Om
 have e6:IntKind.i64.wrap (4+((nxM l 9 (a+5):Nat):Int))=((4+nxM l 9 (a+5):Nat):Int):=fW (a:=4) Om
 have e7:IntKind.i64.wrap (3+((nxM l 3 (a+6):Nat):Int))=((3+nxM l 3 (a+6):Nat):Int):=fW (a:=3) Om
 have hM:=nY l (aaO (a+7)) (3+nxM l 3 (a+6)) Om
 have h0:bA (PH.nil.set o (bE l a)) [(o,bE l a)] []:=bA.nil.new (H:=PH.nil) rfl (bE l a)
 have h13:(1:Nat)*3≤16777216:=by decide
 have h11:(1:Nat)*1≤16777216:=by decide
 have h14:(1:Nat)*4≤16777216:=by decide
 have h24:(2:Nat)*4≤16777216:=by decide
 have h17:(1:Nat)*7≤16777216:=by decide
 simp only[go_sem,γ,δ,ε,ζ,η,θ,ι,κ,μ,ν,ξ,ο,ρ,σ,τ,υ,reduceIte,reduceCtorEq,yC,ajI,JG]
 refine aP fun o4 ho4=>?_
 have h1:=h0.new ho4 flZ
 simp only[go_sem,γ,δ,ε,ζ,η,θ,ι,κ,μ,ν,ξ,ο,ρ,σ,τ,υ,reduceIte,reduceCtorEq,ajJ]
 refine cB Lb.toCE T (o:=o) (n:=2) (a:=a) (by decide) Om rfl (h1.at 0 rfl) ?_
 have h2:=h1.set 0 rfl (bE l (a+1))
 simp only[go_sem,γ,δ,ε,ζ,η,θ,ι,κ,μ,ν,ξ,ο,ρ,σ,τ,υ,reduceIte,reduceCtorEq,e1]
 refine aP fun o5 ho5=>?_
 have h3:=h2.new ho5 (flB (.int .i64 (1+nxM l 2 a:Nat)) .buJ .buJ .buJ .buJ .buJ .buJ)
 have n05:¬ o=o5:=h3.ne 0 2 rfl rfl (by decide)
 have n50:¬ o5=o:=fun h=>n05 h.symm
 simp only[go_sem,γ,δ,ε,ζ,η,θ,ι,κ,μ,ν,ξ,ο,ρ,σ,τ,υ,reduceIte,reduceCtorEq,ajK,bxF,byC,or_false,forall_eq,forall_eq_or_imp]
 refine aA (Lb.frac 1 1 (by unfold cQ; omega) (by unfold cQ; omega) (by decide)) rfl ?_
 simp only[go_sem,γ,δ,ε,ζ,η,θ,ι,κ,μ,ν,ξ,ο,ρ,σ,τ,υ,reduceIte,reduceCtorEq,h13]
 refine aA (Lb.frac 0 1 (by unfold cQ; omega) (by unfold cQ; omega) (by decide)) rfl ?_
 simp only[go_sem,γ,δ,ε,ζ,η,θ,ι,κ,μ,ν,ξ,ο,ρ,σ,τ,υ,reduceIte,reduceCtorEq,h13,h11]
 refine cB Lb.toCE T (o:=o) (n:=100) (a:=a+1) (by decide) Om rfl (h3.at 0 rfl) ?_
 have h4:=h3.set 0 rfl (bE l (a+2))
 simp only[go_sem,γ,δ,ε,ζ,η,θ,ι,κ,μ,ν,ξ,ο,ρ,σ,τ,υ,reduceIte,reduceCtorEq,e2]
 refine aA (Lb.frac 1 (100+nxM l 100 (a+1):Nat) (by unfold cQ; omega) (by unfold cQ; omega) Om) rfl ?_
 have h5:=h4.set 2 rfl (flB (.int .i64 (1+nxM l 2 a:Nat)) (.sl 4 (ayE [⟨[100,105,115,107],[mkT 1 1],[[mkT 0 1]],[mkT 1 ((100+nxM l 100 (a+1):Nat):Int)]⟩])) .buJ .buJ .buJ .buJ .buJ)
 simp only[go_sem,γ,δ,ε,ζ,η,θ,ι,κ,μ,ν,ξ,ο,ρ,σ,τ,υ,reduceIte,reduceCtorEq,h13,h14,n05,n50,bxF,byC,or_false,forall_eq,ajL]
 refine cB Lb.toCE T (o:=o) (n:=2) (a:=a+2) (by decide) Om rfl (h5.at 0 rfl) ?_
 have h6:=h5.set 0 rfl (bE l (a+3))
 simp only[go_sem,γ,δ,ε,ζ,η,θ,ι,κ,μ,ν,ξ,ο,ρ,σ,τ,υ,reduceIte,reduceCtorEq,e3]
 refine cB Lb.toCE T (o:=o) (n:=9) (a:=a+3) (by decide) Om rfl (h6.at 0 rfl) ?_
 have h7:=h6.set 0 rfl (bE l (a+4))
 rw[PH.set_set] at h7
 simp only[go_sem,γ,δ,ε,ζ,η,θ,ι,κ,μ,ν,ξ,ο,ρ,σ,τ,υ,reduceIte,reduceCtorEq,e4]
 refine cB Lb.toCE T (o:=o) (n:=3) (a:=a+4) (by decide) Om rfl (h7.at 0 rfl) ?_
 have h8:=h7.set 0 rfl (bE l (a+5))
 rw[PH.set_set] at h8
 simp only[go_sem,γ,δ,ε,ζ,η,θ,ι,κ,μ,ν,ξ,ο,ρ,σ,τ,υ,reduceIte,reduceCtorEq,e5]
 refine cB Lb.toCE T (o:=o) (n:=9) (a:=a+5) (by decide) Om rfl (h8.at 0 rfl) ?_
 have h9:=h8.set 0 rfl (bE l (a+6))
 rw[PH.set_set] at h9
 obtain⟨w1,hw1⟩:∃ w1,w1=PV.sl 4 (ayE [⟨[100,105,115,107],[mkT 1 1],[[mkT 0 1]],[mkT 1 ((100+nxM l 100 (a+1):Nat):Int)]⟩]):=⟨_,rfl⟩
 obtain⟨w2,hw2⟩:∃ w2,w2=PV.sl 4 (aZF [⟨[98,105,103],(3+nxM l 2 (a+2):Nat),(8+nxM l 9 (a+3):Nat),0⟩,⟨[111,108,100],(1+nxM l 3 (a+4):Nat),(4+nxM l 9 (a+5):Nat),0⟩]):=⟨_,rfl⟩
 have h10:=h9.set 2 rfl (flB (.int .i64 (1+nxM l 2 a:Nat)) w1 w2 .buJ .buJ .buJ .buJ)
 rw[hw1,hw2] at h10
 simp only[go_sem,γ,δ,ε,ζ,η,θ,ι,κ,μ,ν,ξ,ο,ρ,σ,τ,υ,reduceIte,reduceCtorEq,e6,h24,n05,n50,bxF,byC,or_false,forall_eq,ajM]
 refine aA (Lb.frac 0 1 (by unfold cQ; omega) (by unfold cQ; omega) (by decide)) rfl ?_
 simp only[go_sem,γ,δ,ε,ζ,η,θ,ι,κ,μ,ν,ξ,ο,ρ,σ,τ,υ,reduceIte,reduceCtorEq,h17]
 refine aP fun od hod=>?_
 have h11':=h10.bgA (s:=7) (rows:=dC [hC]) hod
 have n5d:¬ o5=od:=h11'.neL 2 0 rfl rfl rfl
 have nd5:¬ od=o5:=fun h=>n5d h.symm
 have h12:=h11'.set 2 rfl (flB (.int .i64 (1+nxM l 2 a:Nat)) w1 w2 (.osl od 7 0 1) .buJ .buJ .buJ)
 rw[hw1,hw2] at h12
 simp only[go_sem,γ,δ,ε,ζ,η,θ,ι,κ,μ,ν,ξ,ο,ρ,σ,τ,υ,reduceIte,reduceCtorEq,n5d,nd5,bxF,byC,or_false,forall_eq,ajN]
 refine cB Lb.toCE T (o:=o) (n:=3) (a:=a+6) (by decide) Om rfl (h12.at 0 rfl) ?_
 have h13':=h12.set 0 rfl (bE l (a+7))
 simp only[go_sem,γ,δ,ε,ζ,η,θ,ι,κ,μ,ν,ξ,ο,ρ,σ,τ,υ,reduceIte,reduceCtorEq,e7,ajO,ajP]
 obtain⟨E,hE⟩:∃ E:ME,E=⟨o,o4,o5,vols⟩:=⟨_,rfl⟩
 have h14':=(h13'.sY 3).perm (B':=E.boxes l (.int .i64 (1+nxM l 2 a:Nat)) w1 w2 (.osl od 7 0 1) .buJ .buJ .buJ (a+7)) (L':=[(.osl od 7 0 1,7,dC [hC]),(.buJ,3,dT [])])
  (by rw[hE,hw1,hw2]; exact (List.Perm.cons _ (List.Perm.swap _ _ _)).trans (List.Perm.swap _ _ _)) (List.Perm.refl _)
 refine aXT Lb T E (3+nxM l 3 (a+6)) (a+7) Om Om (.int .i64 (1+nxM l 2 a:Nat)) w1 w2 (.osl od 7 0 1) _ _ _ ?_ h14' ?_
 ·rw[hE]
  unfold eI
  exact Lq
 clear h14' h13' h12 h11' h10 h9 h8 h7 h6 h5 h4 h3 h2 h1 h0 ho4 ho5 hod
 intro wd wr F1 H1 hF1 h1
 have f0:F1 0=some (.ptr o 2 0 0):=hF1 0 _ (by rw[hE]; unfold sT; simp only[go_sem,γ,δ,ε,ζ,η,θ,ι,κ,μ,ν,ξ,ο,ρ,σ,τ,υ,reduceIte,reduceCtorEq])
 have f1:F1 1=some (.int .i64 vols):=hF1 1 _ (by rw[hE]; unfold sT; simp only[go_sem,γ,δ,ε,ζ,η,θ,ι,κ,μ,ν,ξ,ο,ρ,σ,τ,υ,reduceIte,reduceCtorEq])
 have f4:F1 4=some (.ptr o4 7 0 0):=hF1 4 _ (by rw[hE]; unfold sT; simp only[go_sem,γ,δ,ε,ζ,η,θ,ι,κ,μ,ν,ξ,ο,ρ,σ,τ,υ,reduceIte,reduceCtorEq])
 have f5:F1 5=some (.ptr o5 7 0 0):=hF1 5 _ (by rw[hE]; unfold sT; simp only[go_sem,γ,δ,ε,ζ,η,θ,ι,κ,μ,ν,ξ,ο,ρ,σ,τ,υ,reduceIte,reduceCtorEq])
 generalize dZ l ⟨[hC],[],0,0,0,a+7⟩ (3+nxM l 3 (a+6))=s at *
 have sa:=hM.hi
 have n8:=cG l (show 0<2 by decide) s.a
 have e8:IntKind.i64.wrap (1+((nxM l 2 s.a:Nat):Int))=((1+nxM l 2 s.a:Nat):Int):=fW (a:=1) Om
 have q1:=h1.at 1 rfl
 rw[hE] at q1
 simp only[go_sem,γ,δ,ε,ζ,η,θ,ι,κ,μ,ν,ξ,ο,ρ,σ,τ,υ,reduceIte,reduceCtorEq,XO,f0]
 refine cB Lb.toCE T (o:=o) (n:=2) (a:=s.a) (by decide) Om rfl q1 ?_
 have h2:=h1.set 1 rfl (bE l (s.a+1))
 simp only[go_sem,γ,δ,ε,ζ,η,θ,ι,κ,μ,ν,ξ,ο,ρ,σ,τ,υ,reduceIte,reduceCtorEq,e8]
 refine a3J Lb.tonO T E (1+nxM l 2 s.a) (s.a+1) Om Om _ w1 w2 wd wr (by rw[hw1]; rfl) (by rw[hw2]; rfl) _ _ _ _ _ ?_ (by rw[hE] at h2 ⊢; exact h2) ?_
 ·rw[hE]
  unfold aTH
  exact Lq
 clear q1 h2 h1 f0 f1 f4 f5 hF1
 intro wp F2 H2 hF2 h1
 have f0:F2 0=some (.ptr o 2 0 0):=hF2 0 _ (by rw[hE]; unfold sT; simp only[go_sem,γ,δ,ε,ζ,η,θ,ι,κ,μ,ν,ξ,ο,ρ,σ,τ,υ,reduceIte,reduceCtorEq])
 have f1:F2 1=some (.int .i64 vols):=hF2 1 _ (by rw[hE]; unfold sT; simp only[go_sem,γ,δ,ε,ζ,η,θ,ι,κ,μ,ν,ξ,ο,ρ,σ,τ,υ,reduceIte,reduceCtorEq])
 have f4:F2 4=some (.ptr o4 7 0 0):=hF2 4 _ (by rw[hE]; unfold sT; simp only[go_sem,γ,δ,ε,ζ,η,θ,ι,κ,μ,ν,ξ,ο,ρ,σ,τ,υ,reduceIte,reduceCtorEq])
 have f5:F2 5=some (.ptr o5 7 0 0):=hF2 5 _ (by rw[hE]; unfold sT; simp only[go_sem,γ,δ,ε,ζ,η,θ,ι,κ,μ,ν,ξ,ο,ρ,σ,τ,υ,reduceIte,reduceCtorEq])
 obtain⟨b,hb⟩:∃ b,b=s.a+1+6*(1+nxM l 2 s.a):=⟨_,rfl⟩
 rw[← hb] at h1
 have n9:nxM l vols b≤vols:=by
  rcases bzK vols with e | e
  ·subst e; unfold nxM; simp
  ·exact Nat.le_of_lt (cG l e _)
 have e9:IntKind.i64.wrap (1+((nxM l vols b:Nat):Int))=((1+nxM l vols b:Nat):Int):=fW (a:=1) Om
 have q1:=h1.at 1 rfl
 rw[hE] at q1
 simp only[go_sem,γ,δ,ε,ζ,η,θ,ι,κ,μ,ν,ξ,ο,ρ,σ,τ,υ,reduceIte,reduceCtorEq,XY,f0,f1]
 refine cB Lb.toCE T (o:=o) (n:=vols) (a:=b) Om Om rfl q1 ?_
 have h2:=h1.set 1 rfl (bE l (b+1))
 have hpl:=pB l (1+nxM l 2 s.a) (s.a+1)
 simp only[go_sem,γ,δ,ε,ζ,η,θ,ι,κ,μ,ν,ξ,ο,ρ,σ,τ,υ,reduceIte,reduceCtorEq,e9]
 refine a3L Lb.tonO T E (1+nxM l vols b) (b+1) Om Om _ w1 w2 wd wr wp _ (by rw[hpl]; omega) _ _ _ _ _ ?_ (by rw[hE] at h2 ⊢; exact h2) ?_
 ·rw[hE]
  unfold aTI
  exact Lq
 clear q1 h2 h1 f0 f1 f4 f5 hF2
 intro wv F3 H3 hF3 h1
 have f4:F3 4=some (.ptr o4 7 0 0):=hF3 4 _ (by rw[hE]; unfold aTG; simp only[go_sem,γ,δ,ε,ζ,η,θ,ι,κ,μ,ν,ξ,ο,ρ,σ,τ,υ,reduceIte,reduceCtorEq])
 have f5:F3 5=some (.ptr o5 7 0 0):=hF3 5 _ (by rw[hE]; unfold aTG; simp only[go_sem,γ,δ,ε,ζ,η,θ,ι,κ,μ,ν,ξ,ο,ρ,σ,τ,υ,reduceIte,reduceCtorEq])
 rw[hpl] at h1
 rw[hE] at h1
 have b5:=h1.at 0 rfl
 have b4:=h1.at 2 rfl
 have key:∀ {s:Nat} {v:PV} {rows:List (List PV)},bR H3 s v rows→PV.one v=true:=by
  rintro s v rows (⟨_,rfl⟩ | ⟨q,rs,rfl,_⟩)<;>rfl
 have k1:=key (h1.own 0 rfl)
 have k2:=key (h1.own 1 rfl)
 have k3:=key (h1.own 2 rfl)
 have k4:=key (h1.own 3 rfl)
 have k5:PV.one w1=true:=by rw[hw1]; rfl
 have k6:PV.one w2=true:=by rw[hw2]; rfl
 simp only[PV.one] at k1 k2 k3 k4 k5 k6
 simp only[go_sem,γ,δ,ε,ζ,η,θ,ι,κ,μ,ν,ξ,ο,ρ,σ,τ,υ,reduceIte,reduceCtorEq,YD,f4,f5,b5,b4,bxF,byC,or_false,forall_eq,forall_eq_or_imp,k1,k2,k3,k4,k5,k6]
 have h2:=h1.set 2 rfl (flB (.int .i64 (1+nxM l 2 a:Nat)) w1 w2 wd wr wp wv)
 have h3:=h2.sub (B':=[(o,bE l (b+1+(1+nxM l vols b)))]) (byT.cons _ (byT.cons_cons _ (List.nil_sublist _))) (byT.refl _)
 obtain⟨φ,H6,z1,z2,z3,z4⟩:=bA.giveUp _ h3 (fun x hx=>by
  simp only[bxF,byC,or_false] at hx
  rcases hx with rfl | rfl | rfl | rfl
  ·exact aJA _
  ·exact aJC _
  ·exact aNO _
  ·exact bdW _) (fun b hb q s rs=>by
  simp only[bxF,byC,or_false] at hb
  subst hb
  rfl)
 refine aiB (vs:=[.agg [.int .i64 (1+nxM l 2 a:Nat),w1,w2,wd,wr,wp,wv]]) (.inr rfl) (by simp only[go_sem,γ,δ,ε,ζ,η,θ,ι,κ,μ,ν,ξ,ο,ρ,σ,τ,υ,reduceIte,reduceCtorEq,f4]) (z4 _ _ (.done (H2:=PH.nil.set o (bE l (b+1+(1+nxM l vols b)))) ?_ (PH.aH PH.nil_le (z3.at 0 rfl))))
 have hb2:s.a+2+6*(1+nxM l 2 s.a)=b+1:=by omega
 rw[hb2,← hb] at hT
 rw[hR,hT]
 refine⟨CoL.agg ?_,rfl⟩
 have s1:=z1 (wd,7,dC s.buU) (by simp)
 have s2:=z1 (wr,3,dT s.bvI) (by simp)
 have s3:=z1 (wp,17,kJ (gP l (1+nxM l 2 s.a) (s.a+1))) (by simp)
 have s4:=z1 (wv,2,oA (kA l (1+nxM l 2 s.a) (1+nxM l vols b) (b+1))) (by simp)
 have s0:φ (.int .i64 (1+nxM l 2 a:Nat))=.int .i64 (1+nxM l 2 a:Nat):=z2 _ rfl
 have s5:φ w1=w1:=z2 _ (by rw[hw1]; rfl)
 have s6:φ w2=w2:=z2 _ (by rw[hw2]; rfl)
 show CoL [φ (.int .i64 (1+nxM l 2 a:Nat)),φ w1,φ w2,φ wd,φ wr,φ wp,φ wv] _
 rw[s0,s5,s6,hw1,hw2]
 exact CoL.cons (.refl _) (CoL.cons (.refl _) (CoL.cons (.refl _) (CoL.cons s1.co (CoL.cons s2.co (CoL.cons s3.co (CoL.cons s4.co .nil))))))
structure beR (x:RF):Prop where
 lim:cC x=true
 ok:x.Ok
theorem SmF.o {x:RF} {a b:Nat} (h:SmF x a b):beR x:=⟨h.lim,h.ok⟩
theorem WA:SmF nL 0 1:=SmF.mk' (a:=0) (b:=1) (by decide) (by decide) (by decide)
theorem aDA {α:Type} {P:Nat→α→Prop} {xs:List α} {x:α} (h:∀ i (hi:i<xs.length),P i xs[i]) (hx:P xs.length x):∀ i (hi:i<(xs++[x]).length),P i (xs++[x])[i]:=by
 intro i hi
 by_cases hlt:i<xs.length
 ·rw[List.getElem_append_left hlt]; exact h i hlt
 ·rw[bwW,bxD] at hi
  have:i=xs.length:=by omega
  subst this
  rw[List.getElem_append_right Om]
  simpa using hx
theorem aIN {α:Type} {p:α→Bool} {l:List α} (h:∀ i (hi:i<l.length),p l[i]=true):l.all p=true:=by
 rw[bxL]
 intro x hx
 obtain⟨i,hi,rfl⟩:=byP hx
 exact h i hi
theorem eF {n lo hi:Int} (h1:lo≤n) (h2:n≤hi):within n lo hi=true:=within_iff.2 ⟨h1,h2⟩
abbrev lvs (ds:List bJ):List Int:=ds.map bJ.level
def blK (ds:List bJ) (i:Nat) (d:bJ):Prop:=∃ lev p u:Nat,d.name=[aLR lev]++xC (i+1)∧d.level=lev∧1≤lev∧lev≤4∧d.parent=p∧p≤i∧(lvs ds)[p]?=some ((lev:Int)-1)∧d.bvJ=u∧1≤u∧u≤16∧beR d.bvB
def blM (ds:List bJ) (mc i:Nat) (d:cA):Prop:=∃ m c:Nat,d.name=[100]++xC i∧d.model=m∧m<mc∧d.machine=c∧(lvs ds)[c]?=some 4
structure GV (mc buH:Nat) (s:GS):Prop where
 len:s.buU.length≤35
 bvI:s.bvI.length≤buH
 root:s.buU[0]?=some hC
 dom:∀ i (hi:i+1<s.buU.length),blK s.buU i s.buU[i+1]
 drv:∀ i (hi:i<s.bvI.length),blM s.buU mc i s.bvI[i]
theorem GV.a {mc buH:Nat} {s:GS} (h:GV mc buH s) (x:Nat):GV mc buH { s with a:=x }:=⟨h.len,h.bvI,h.root,h.dom,h.drv⟩
theorem ahD {ds:List bJ} {p:Nat} {x:Int} {t:List bJ} (h:(lvs ds)[p]?=some x):(lvs (ds++t))[p]?=some x:=by
 unfold lvs at *
 rw[bzD,bzJ]
 ·exact h
 ·exact (bxZ.1 h).1

def unM:List UInt8→Nat
 | [_,a,b]=>(a.toNat-97)*26+(b.toNat-97)
 | _=>0
theorem a8Y:∀ k:Fin 100,eX (UInt8.ofNat (97+k.val/26%26)).toNat=true∧eX (UInt8.ofNat (97+k.val%26)).toNat=true∧unM (dD 0 k.val)=k.val:=by decide +kernel
theorem VU (c:UInt8) {k:Nat} (hk:k<100):unM (dD c k)=k:=(a8Y ⟨k,hk⟩).2.2
theorem UW {c:UInt8} (hc:eJ c.toNat=true) {k:Nat} (hk:k<100):isName (dD c k)=true:=by
 obtain⟨h1,h2,-⟩:=a8Y ⟨k,hk⟩
 simp only at h1 h2
 have hi:eX c.toNat=true:=by unfold eX; rw[hc]; rfl
 unfold dD isName
 simp only[byQ,byV,List.all_cons,List.all_nil,hc,hi,h1,h2]
 rfl
def blL (ds:List bJ) (i:Nat) (d:bJ):Prop:=∃ lev p u:Nat,d.name=dD 110 (i+1)∧d.level=lev∧1≤lev∧lev≤4∧d.parent=p∧p≤i∧(lvs ds)[p]?=some ((lev:Int)-1)∧d.bvJ=u∧1≤u∧u≤64∧d.bvB=nL
def TE (ds:List bJ) (i:Nat) (d:cA):Prop:=∃ m c:Nat,d.name=dD 100 i∧d.model=m∧m<2∧d.machine=c∧(lvs ds)[c]?=some 4
structure DV (ds:List bJ):Prop where
 root:ds[0]?=some hC
 dom:∀ i (hi:i+1<ds.length),blL ds i ds[i+1]
theorem DV.new {ds:List bJ} (h:DV ds) {level parent up:Nat} (h1:1≤level) (h4:level≤4) (hp:(lvs ds)[parent]?=some ((level:Int)-1)) (u1:1≤up) (u2:up≤64) :
  DV (dB ds level parent up)∧(lvs (dB ds level parent up))[ds.length]?=some (level:Int):=by
 have hpl:parent<ds.length:=by
  have:=(bxZ.1 hp).1
  rwa [bwN] at this
 unfold dB
 refine⟨⟨by rw[bzJ Om]; exact h.root,fun i hi=>?_⟩,?_⟩
 ·simp only[bwW,bxD] at hi
  by_cases hlt:i+1<ds.length
  ·rw[List.getElem_append_left hlt]
   obtain⟨lev,p,v,g1,g2,g3,g4,g5,g6,g7,g8⟩:=h.dom i hlt
   exact⟨lev,p,v,g1,g2,g3,g4,g5,g6,ahD g7,g8⟩
  ·have:i+1=ds.length:=by omega
   rw[List.getElem_append_right Om]
   simp only[List.getElem_singleton]
   exact⟨level,parent,up,by rw[this],rfl,h1,h4,rfl,by omega,ahD hp,rfl,u1,u2,rfl⟩
 ·unfold lvs
  rw[bzD,bzA (by rw[bwN]; exact bwR _),bwN,Nat.sub_self]
  rfl
theorem kV {ds:List bJ} {a b c p:Nat} {x:Int} (h:(lvs ds)[p]?=some x):(lvs (dB ds a b c))[p]?=some x:=ahD h
structure MV (k:Nat) (s:MS):Prop where
 dv:DV s.buU
 drv:∀ i (hi:i<s.bvI.length),TE s.buU i s.bvI[i]
 at_:0<k→(lvs s.buU)[s.room]?=some 2∧(lvs s.buU)[s.rack]?=some 3
theorem agK {ds ds':List bJ} {rs:List cA} (h:∀ i (hi:i<rs.length),TE ds i rs[i]) (hk:∀ (p:Nat) (x:Int),(lvs ds)[p]?=some x→(lvs ds')[p]?=some x):∀ i (hi:i<rs.length),TE ds' i rs[i]:=fun i hi=>by
 obtain⟨m,c,h1,h2,h3,h4,h5⟩:=h i hi
 exact⟨m,c,h1,h2,h3,h4,hk _ _ h5⟩
theorem a6C (l:List Int) (i:Nat) {s:MS} (h:MV i s):MV 1 (eC l i s):=by
 obtain⟨h1,h2,h3⟩:=h
 have key:∀ a,MV 1 ⟨dB (dB (dB s.buU 1 0 (16+nxM l 17 a)) 2 s.buU.length (16+nxM l 17 (a+1))) 3 (dB s.buU 1 0 (16+nxM l 17 a)).length (8+nxM l 9 (a+2)),s.bvI,s.buU.length,(dB s.buU 1 0 (16+nxM l 17 a)).length,(dB (dB s.buU 1 0 (16+nxM l 17 a)) 2 s.buU.length (16+nxM l 17 (a+1))).length,a+3⟩:=fun a=>by
  have n1:=cG l (show 0<17 by decide) a
  have n2:=cG l (show 0<17 by decide) (a+1)
  have n3:=cG l (show 0<9 by decide) (a+2)
  have r0:(lvs s.buU)[0]?=some (((1:Nat):Int)-1):=by
   unfold lvs
   rw[bxW,h1.root]; rfl
  obtain⟨d1,e1⟩:=h1.new (level:=1) (parent:=0) (up:=16+nxM l 17 a) (by decide) (by decide) r0 Om Om
  obtain⟨d2,e2⟩:=d1.new (level:=2) (parent:=s.buU.length) (up:=16+nxM l 17 (a+1)) (by decide) (by decide) e1 Om Om
  obtain⟨d3,e3⟩:=d2.new (level:=3) (parent:=(dB s.buU 1 0 (16+nxM l 17 a)).length) (up:=8+nxM l 9 (a+2)) (by decide) (by decide) e2 Om Om
  exact⟨d3,agK h2 fun p x hx=>kV (kV (kV hx)),fun _=>⟨kV e2,e3⟩⟩
 unfold eC
 simp only
 split
 ·exact key _
 ·rename_i hi
  obtain⟨g1,g2⟩:=h3 Om
  split
  ·exact key _
  ·split
   ·have n3:=cG l (show 0<9 by decide) (s.a+2)
    obtain⟨d3,e3⟩:=h1.new (level:=3) (parent:=s.room) (up:=8+nxM l 9 (s.a+2)) (by decide) (by decide) g1 Om Om
    exact⟨d3,agK h2 fun p x hx=>kV hx,fun _=>⟨kV g1,e3⟩⟩
   ·exact⟨h1,h2,fun _=>⟨g1,g2⟩⟩
theorem aYA (l:List Int) {ds:List bJ} {m:Nat} (hm:(lvs ds)[m]?=some 4):∀ (k:Nat) (s:List cA × Nat),(∀ i (hi:i<s.1.length),TE ds i s.1[i])→∀ i (hi:i<(gV l m k s).1.length),TE ds i (gV l m k s).1[i]
 | 0,s,h=>h
 | k+1,s,h=>by
  rw[gV]
  split
  ·refine aYA l hm k _ (aDA (P:=fun i (x:cA)=>TE ds i x) h ⟨_,m,rfl,rfl,?_,rfl,hm⟩)
   split<;>decide
  ·exact h
theorem bbO (l:List Int) (i:Nat) {s:MS} (h:MV i s):MV (i+1) (xF l i s):=by
 obtain⟨h1,h2,h3⟩:=a6C l i h
 obtain⟨g1,g2⟩:=h3 (by decide)
 have n3:=cG l (show 0<9 by decide) (eC l i s).a
 obtain⟨d3,e3⟩:=h1.new (level:=4) (parent:=(eC l i s).rack) (up:=8+nxM l 9 (eC l i s).a) (by decide) (by decide) g2 Om Om
 unfold xF
 simp only
 exact⟨d3,aYA l e3 _ _ (agK h2 fun p x hx=>kV hx),fun _=>⟨kV g1,kV g2⟩⟩
theorem ayG (l:List Int) (a:Nat):∀ k,MV k (dZ l ⟨[hC],[],0,0,0,a⟩ k)
 | 0=>⟨⟨rfl,fun i hi=>absurd hi (by simp[dZ])⟩,fun i hi=>absurd hi (by simp[dZ]),fun h=>absurd h Om⟩
 | k+1=>bbO l k (ayG l a k)
theorem a9R {ds:List bJ} (h:DV ds) (hl:ds.length≤100) (f:aL) (hf:f.buL=ds):lT f=true:=by
 have hr:=h.root
 have hdom:=h.dom
 unfold lT
 rw[hf]
 cases hdm:ds with
 | nil=>rw[hdm] at hr; cases hr
 | cons r t =>
  rw[hdm] at hr
  have:r=hC:=by simpa using hr
  subst this
  show wR f hC t=true
  unfold wR
  simp only[bxJ]
  refine⟨⟨⟨⟨⟨⟨rfl,rfl⟩,rfl⟩,rfl⟩,WA.lim⟩,by rw[show hC.bvB=nL from rfl,WA.zero]; rfl⟩,?_⟩
  rw[bxL]
  intro i hi
  rw[byD] at hi
  rw[bxA hi]
  obtain⟨lev,p,u,h1,h2,h3,h4,h5,h6,h7,h8,h9,h10,h11⟩:=hdom i (by rw[hdm]; simp; omega)
  have e:ds[i+1]'(by rw[hdm]; simp; omega)=t[i]:=by simp[hdm]
  rw[e] at h1 h2 h5 h8 h11
  show DP f i t[i]=true
  unfold DP
  simp only[bxJ]
  refine⟨⟨⟨⟨?_,?_⟩,?_⟩,?_⟩,by rw[h11]; exact WA.lim⟩
  ·rw[h5]; exact eF Om Om
  ·rw[h5,h2,hf,bzO,bxI,h7,aeR Om Om]
   exact decide_eq_true rfl
  ·rw[h2]; exact eF Om Om
  ·rw[h8]; exact eF Om Om
theorem a3Z {ds:List bJ} {rs:List cA} (h:DV ds) (hr:∀ i (hi:i<rs.length),TE ds i rs[i]) (l1:ds.length≤90) (l2:rs.length≤90):distinct ((ds.drop 1).map bJ.name++rs.map cA.name)=true:=by
 have hA:∀ i (hi:i<((ds.drop 1).map bJ.name).length),((ds.drop 1).map bJ.name)[i]=dD 110 (i+1):=by
  intro i hi
  rw[bwN,byI] at hi
  obtain⟨lev,p,u,h1,-⟩:=h.dom i Om
  rw[byO,List.getElem_drop]
  simp only[Nat.add_comm 1 i]
  exact h1
 have hB:∀ i (hi:i<(rs.map cA.name).length),(rs.map cA.name)[i]=dD 100 i:=by
  intro i hi
  rw[bwN] at hi
  obtain⟨m,c,h1,-⟩:=hr i hi
  rw[byO]; exact h1
 have lA:((ds.drop 1).map bJ.name).length≤90:=by rw[bwN,byI]; omega
 have lB:(rs.map cA.name).length≤90:=by rw[bwN]; omega
 generalize (ds.drop 1).map bJ.name=A at *
 generalize rs.map cA.name=B at *
 refine QI ?_ ?_
 ·intro x hx
  rcases byA.1 hx with hx | hx
  ·obtain⟨i,hi,rfl⟩:=byP hx
   rw[hA i hi]
   exact UW (by decide) Om
  ·obtain⟨i,hi,rfl⟩:=byP hx
   rw[hB i hi]
   exact UW (by decide) Om
 ·rw[bzE]
  refine⟨LC (g:=fun s=>unM s-1) fun i hi=>?_,LC (g:=unM) fun i hi=>?_,fun x hx y hy e=>?_⟩
  ·rw[hA i hi,VU _ Om]; omega
  ·rw[hB i hi]; exact VU _ Om
  ·obtain⟨i,hi,rfl⟩:=byP hx
   obtain⟨j,hj,rfl⟩:=byP hy
   rw[hA i hi,hB j hj] at e
   exact absurd (List.cons.inj e).1 (by decide)
theorem axA:cC (mkT 1 2)=true∧bW (mkT 1 2)=true:=by decide +kernel
theorem UA:cC (mkT 1 1000)=true∧rC (mkT 1 1000)=true∧cC (mkT 30 1)=true:=by decide +kernel
theorem bgF (l:List Int) (n a:Nat):gX 2 (nN l n a)=true:=by
 have n1:=cG l (show 0<2 by decide) a
 have n2:=cG l (show 0<3 by decide) (a+1)
 have n3:=cG l (Om:0<nxM l 3 (a+1)+1) (a+2)
 have n4:=cG l (show 0<4 by decide) (a+3)
 have n5:=cG l (show 0<3 by decide) (a+4)
 unfold nN gX FI xK
 simp only[bxJ,List.all_cons,List.all_nil,byL]
 refine⟨⟨⟨⟨⟨⟨⟨⟨eF Om Om,eF Om Om⟩,decide_eq_true Om⟩,eF Om Om⟩,rfl⟩,eF Om Om,eF Om Om,eF Om Om,eF Om Om,eF Om Om⟩,?_⟩,⟨⟨⟨decide_eq_true (by rw[bzW]; omega),?_⟩,UA.1⟩,UA.2.1⟩,UA.2.2⟩,?_⟩
 ·split<;>rfl
 ·rw[bxL]
  intro x hx
  rw[List.eq_of_mem_replicate hx,axA.1,axA.2]
  rfl
 ·split<;>decide
theorem VL (l:List Int):∀ n a i (hi:i<(gP l n a).length),(gP l n a)[i].name=dD 112 (n-i)∧gX 2 (gP l n a)[i]=true
 | 0,_,i,hi=>by cases hi
 | n+1,a,0,_=>⟨rfl,bgF l _ _⟩
 | n+1,a,i+1,hi=>by
  have:=VL l n (a+6) i (by simpa [gP] using hi)
  simp only[gP,List.getElem_cons_succ]
  rw[show n+1-(i+1)=n-i by omega]
  exact this
theorem aGD (l:List Int) (p:Nat):∀ n a i (hi:i<(kA l p n a).length),(kA l p n a)[i].name=dD 118 (n-i)
 | 0,_,i,hi=>by cases hi
 | n+1,a,0,_=>rfl
 | n+1,a,i+1,hi=>by
  have:=aGD l p n (a+1) i (by simpa [kA] using hi)
  simp only[kA,List.getElem_cons_succ]
  rw[show n+1-(i+1)=n-i by omega]
  exact this
theorem IL {l:List (List UInt8)} {c:UInt8} (hc:eJ c.toNat=true) (hn:l.length≤90) (h:∀ i (hi:i<l.length),l[i]=dD c (l.length-i)):distinct l=true:=by
 refine QI (fun x hx=>?_) (LC (g:=fun s=>l.length-unM s) fun i hi=>?_)
 ·obtain⟨i,hi,rfl⟩:=byP hx
  rw[h i hi]; exact UW hc Om
 ·rw[h i hi,VU _ Om]; omega
theorem bfF:∀ x:Fin 100,jN ⟨[100,105,115,107],[mkT 1 1],[[mkT 0 1]],[mkT 1 ((100+x.val:Nat):Int)]⟩=true:=by decide +kernel
theorem JV (l:List Int) {buK:Nat} (hv:buK≤11) (a:Nat):dH (cZ l buK a).1=true:=by
 obtain⟨F,hvl,-,-⟩:=wV l (buK:=buK) Om a
 have n3:=cG l (show 0<3 by decide) (a+6)
 have hM:=nY l (aaO (a+7)) (3+nxM l 3 (a+6)) Om
 have hV:=ayG l (a+7) (3+nxM l 3 (a+6))
 have hd:=F.buH
 have hvo:=F.vols
 have hp:=F.pols
 unfold cZ at hd hvl hvo hp ⊢
 simp only at hd hvl hvo hp ⊢
 generalize dZ l ⟨[hC],[],0,0,0,a+7⟩ (3+nxM l 3 (a+6))=s at *
 have e1:=cG l (show 0<2 by decide) a
 have e2:=cG l (show 0<2 by decide) (a+2)
 have e3:=cG l (show 0<9 by decide) (a+3)
 have e4:=cG l (show 0<3 by decide) (a+4)
 have e5:=cG l (show 0<9 by decide) (a+5)
 have e6:=cG l (show 0<100 by decide) (a+1)
 have hlen:=hM.len
 have e7:=cG l (show 0<2 by decide) s.a
 have hdv:=hM.dlen
 unfold dH
 rw[a9R hV.dv Om _ rfl]
 simp only[bxJ,byL]
 refine⟨⟨?_,⟨⟨⟨⟨?_,?_⟩,?_⟩,?_⟩,?_⟩⟩,⟨⟨⟨(show distinct [[100,105,115,107]]=true by decide +kernel),(show distinct [[98,105,103],[111,108,100]]=true by decide +kernel)⟩,a3Z hV.dv hV.drv Om Om⟩,?_⟩,?_⟩
 ·unfold kR
  simp only[bxJ]
  exact⟨⟨⟨⟨⟨⟨eF Om Om,rfl⟩,rfl⟩,decide_eq_true Om⟩,decide_eq_true Om⟩,decide_eq_true Om⟩,decide_eq_true Om⟩
 ·simp only[List.all_cons,List.all_nil,byL]
  exact bfF ⟨_,e6⟩
 ·simp only[List.all_cons,List.all_nil,byL,bxJ,iJ]
  exact⟨⟨⟨eF Om Om,eF Om Om⟩,rfl⟩,⟨eF Om Om,eF Om Om⟩,rfl⟩
 ·refine aIN fun i hi=>?_
  obtain⟨m,c,-,h2,h3,h4,h5⟩:=hV.drv i hi
  have hc:=(bxZ.1 h5).1
  rw[bwN] at hc
  unfold fV
  simp only[bxJ]
  rw[h2,h4,bzO,bxI,h5]
  exact⟨⟨eF Om (by simp only[byQ,byV]; omega),eF Om Om⟩,rfl⟩
 ·exact aIN fun i hi=>(VL l _ _ i hi).2
 ·rw[bxL]
  intro x hx
  have:=hvo x hx
  exact eF this.1 (show x.buX≤((gP l (1+nxM l 2 s.a) (s.a+1)).length:Int)-1 by omega)
 ·refine IL (c:=112) (by decide) (by rw[bwN]; omega) fun i hi=>?_
  have h1:=(VL l _ _ i (by simpa using hi)).1
  rw[byO,h1,bwN,pB]
 ·refine IL (c:=118) (by decide) (by rw[bwN]; omega) fun i hi=>?_
  have h1:=aGD l _ _ _ i (by simpa using hi)
  rw[byO,h1,bwN,xW]


theorem CoL.azQ:CoL [] []:=⟨rfl,fun j p q h=>by simp at h⟩
theorem CoL.gZ {p q:PV} {ps qs:List PV} (h:Co p q) (hs:CoL ps qs):CoL (p::ps) (q::qs):=by
 refine⟨by simp[hs.len],fun j x y a b=>?_⟩
 cases j with
 | zero =>
  simp only[List.getElem?_cons_zero,byZ.injEq] at a b
  subst a; subst b; exact h
 | succ j=>exact hs.at_ j x y (by simpa using a) (by simpa using b)
theorem aE.aVZ {C:Ctx} {name:Nat} {R:PV→PH→Prop} {x:PV} {s:Nat} (h:aE C name [x,.sl s []] .nil R):aE C name [x,.buJ] .nil R :=
 h.args (.gZ (.refl _) (.gZ (.nil s) .azQ))
theorem aE.seen {C:Ctx} {name:Nat} {args:List PV} {H:PH} {v:PV} (h:aE C name args H (bV v)):aE C name args H (aC v) :=
 h.post fun r H' hr=>⟨v,hr.1,rfl,hr.2⟩
def BI:aL:=⟨0,[],[],[],[],[],[]⟩
theorem aVG:BI.Ok:=⟨by decide,by decide,by decide,by decide,by decide,by decide,(fun _ h=>by cases h),(fun _ h=>by cases h),(fun _ h=>by cases h),(fun _ h=>by cases h),(fun _ h=>by cases h)⟩
theorem aVF:Co (.agg [.int .i64 0,.buJ,.buJ,.buJ,.buJ,.buJ,.buJ]) (.agg BI.cells):=by
 have:CoL [.int .i64 0,.buJ,.buJ,.buJ,.buJ,.buJ,.buJ] BI.cells :=
  .gZ (.refl _) (.gZ (.nil _) (.gZ (.nil _) (.gZ (.nil _) (.gZ (.nil _) (.gZ (.nil _) (.gZ (.nil _) .azQ))))))
 exact .agg this.len this.at_
theorem a6P {C:Ctx} (f:aL) (hv:VF f) (v:Nat) (h:v<f.buK.length) :
  GB.wp C (aS abZ.res (bV (.int .i64 (eW f v)))) (PF.args [.agg f.cells,.int .i64 v]) .nil:=by
 obtain⟨hp,he⟩:=rE hv h
 have hpol:=hv.buX _ (bwS hp)
 rw[he] at hpol
 have hw:IntKind.i64.wrap ((eY f v).k+(eY f v).m)=(eY f v).k+(eY f v).m:=wrap_i64 Om Om
 simp only[go_sem,γ,δ,ε,ζ,η,θ,ι,κ,μ,ν,ξ,ο,ρ,σ,τ,υ,reduceIte,reduceCtorEq,GB,aCU,abZ]
 refine bM .nil dV PH.nil_le ?_
 simp only[go_sem,γ,δ,ε,ζ,η,θ,ι,κ,μ,ν,ξ,ο,ρ,σ,τ,υ,reduceIte,reduceCtorEq,aCV,tY h,hv.abM h,nZ hp,he]
 refine aP fun o ho=>?_
 simp only[go_sem,γ,δ,ε,ζ,η,θ,ι,κ,μ,ν,ξ,ο,ρ,σ,τ,υ,reduceIte,reduceCtorEq,aCW,hw]
 refine⟨PH.nil_le,?_⟩
 exact kE (n:=(eY f v).k+(eY f v).m) Ev rfl
abbrev iiv (l:List Int):List (List PV):=l.map fun x=>[PV.int .i64 x]
abbrev nU (l:List (List Int)):List (List PV):=l.map fun r=>[ints r]
theorem bbN (l:List (List Int)):Flat (nU l):=qF fun r hr c hc=>by
 obtain⟨x,_,rfl⟩:=bxV.1 hr
 rw[byJ] at hc
 subst hc
 rfl
theorem exactly {C:Ctx} {name:Nat} {args:List PV} {H H2:PH} {v:PV} (h:aE C name args H (fun r H'=>Co r v∧H'=H2)):aE C name args H (fun r H'=>r=v∧H'=H2) :=
 h.post fun r H' hr=>⟨_,hr.1,rfl,hr.2⟩
structure TF (f:aL) (L:List (List Int)):Prop where
 len:L.length=f.buK.length
 row:∀ v (h:v<L.length),((L[v].length:Nat):Int)=eW f v
 home:∀ r∈L,∀ x∈r,-1≤x∧x<f.buH.length
theorem TF.bjC {f:aL} {L:List (List Int)} (h:TF f L) (hV:VF f):∀ k,k≤L.length→(L.take k).flatten.length≤k*8:=by
 have hl:=h.len
 intro k
 induction k with
 | zero=>intro _; simp
 | succ k ih =>
  intro hk
  rw[JU L hk,bwW]
  have h1:=ih Om
  have h2:=h.row k hk
  obtain⟨hp,he⟩:=rE hV (Om:k<f.buK.length)
  have hpol:=hV.buX _ (bwS hp)
  rw[he] at hpol
  unfold eW at h2
  omega
theorem TF.ok {f:aL} (hV:VF f) {L:List (List Int)} (h:TF f L):jU L:=by
 have hv:=hV.small.buK
 have hl:=h.len
 have:=h.bjC hV L.length (bwR _)
 rw[bxM] at this
 exact⟨by omega,by omega⟩

section
variable {H:PH} {B:List BX} {L:List LI}
end
theorem QS {p:Int→Bool}:∀ {l:List Int} {i:Nat},(∀ x∈l,p x=false)→fI p l i=none
 | [],_,_=>rfl
 | y::t,i,h=>by
  rw[fI,h y (by simp),if_neg (by decide)]
  exact QS fun x hx=>h x (by simp[hx])
theorem TF.shape {f:aL} {L:List (List Int)} (h:TF f L) {v:Nat} (hv:v<L.length):lG f L v=none:=by
 have e:L.getD v []=L[v]:=by simp[bxI,hv]
 unfold lG
 rw[e,if_pos (h.row v hv),QS]
 ·rfl
 ·intro x hx
  have:=h.home _ (bwS hv) x hx
  simp[jH]
  omega
theorem akB (l:List Int) (m:Nat):∀ (k:Nat) (s:List cA × Nat),s.1.length≤(gV l m k s).1.length
 | 0,s=>bwR _
 | k+1,s=>by
  rw[gV]
  split
  ·have:=akB l m k (s.1++[⟨dD 100 s.1.length,((if nxM l 4 s.2=0 then 1 else 0:Nat):Int),(m:Nat)⟩],s.2+1)
   simp only[bwW,bxD] at this
   omega
  ·exact bwR _
theorem a3Y (l:List Int) (m k:Nat) (s:List cA × Nat):1≤(gV l m (k+1) s).1.length:=by
 rw[gV]
 split
 ·have:=akB l m k (s.1++[⟨dD 100 s.1.length,((if nxM l 4 s.2=0 then 1 else 0:Nat):Int),(m:Nat)⟩],s.2+1)
  simp only[bwW,bxD] at this
  omega
 ·omega
theorem aUS (l:List Int) (s:MS) (k:Nat):1≤(dZ l s (k+1)).bvI.length:=by
 rw[dZ]
 unfold xF
 simp only
 rw[show 1+nxM l 2 ((eC l k (dZ l s k)).a+1)=nxM l 2 ((eC l k (dZ l s k)).a+1)+1 by omega]
 exact a3Y l _ _ _
theorem YY (l:List Int) (buK a:Nat):1≤(cZ l buK a).1.buH.length:=by
 unfold cZ
 simp only
 rw[show 3+nxM l 3 (a+6)=(2+nxM l 3 (a+6))+1 by omega]
 exact aUS l _ _
theorem atY (row:List Int) {n:Nat} (hn:0<n):∀ k d,d<n→oF row n k d<n
 | 0,d,h=>h
 | k+1,d,h=>by
  rw[oF]
  split
  ·exact atY row hn k _ (bxX _ hn)
  ·exact h
theorem a4W (l:List Int) (row:List Int) {n:Nat} (hn:0<n) (a:Nat):-1≤(tO l row n a).1∧(tO l row n a).1<n:=by
 have:=atY row hn n (nxM l n a) (cG l hn a)
 unfold tO
 simp only
 split
 ·simp only; omega
 ·split<;>simp only<;>omega
theorem aOE (l:List Int) {n:Nat} (hn:0<n) (a:Nat):∀ k,∀ x∈(jE l n a k).1,-1≤x∧x<n
 | 0,x,h=>by cases h
 | k+1,x,h=>by
  rw[jE] at h
  simp only[byA,byJ] at h
  rcases h with h | rfl
  ·exact aOE l hn a k x h
  ·exact a4W l _ hn _
theorem alD (l:List Int) {f:aL} (hf:FM f) (h0:1≤f.buH.length) (a:Nat):∀ k,k≤f.buK.length →
  (∀ v (h:v<(cU l f a k).1.length),(((cU l f a k).1[v].length:Nat):Int)=eW f v)∧∀ r∈(cU l f a k).1,∀ x∈r,-1≤x∧x<f.buH.length
 | 0,_=>⟨fun v h=>absurd h (by simp[cU]),fun r h=>by cases h⟩
 | k+1,hk=>by
  obtain⟨h1,h2⟩:=alD l hf h0 a k Om
  obtain⟨k1,-,-,-⟩:=pX l hf a k Om
  have hfr:=hf.TS (v:=k) Om
  obtain⟨r1,-,-⟩:=BN l f.buH.length (cU l f a k).2 (eW f k).toNat
  rw[cU]
  simp only
  refine⟨aDA (P:=fun v (r:List Int)=>((r.length:Nat):Int)=eW f v) h1 ?_,fun r hr=>?_⟩
  ·rw[k1,r1]; omega
  ·rw[byA,byJ] at hr
   rcases hr with hr | rfl
   ·exact h2 r hr
   ·exact aOE l Om _ _
theorem bfR (l:List Int) (buK a b:Nat) (hv:buK≤1000):TF (cZ l buK a).1 (cU l (cZ l buK a).1 b (cZ l buK a).1.buK.length).1:=by
 have hF:=(wV l hv a).1
 obtain⟨h1,h2⟩:=alD l hF (YY l buK a) b _ (bwR _)
 obtain⟨k1,-,-,-⟩:=pX l hF b _ (bwR _)
 exact⟨k1,h1,h2⟩
structure AP (C:Ctx):Prop extends CE C where
 size:∀ (f:aL) (v:Nat),VF f→v<f.buK.length→aE C 245 [.agg f.cells,.int .i64 v] .nil (aC (.int .i64 (eW f v)))
 has:∀ (l:List Int) (x:Int),l.length≤1000000000000000→aE C 247 [ints l,.int .i64 x] .nil (aC (.bool (l.contains x)))
theorem SS {C:Ctx} {F:PF} {H:PH} (Lb:AP C) {row:List Int} (buW:row.length≤1000) {q n:Nat} (hn:n=row.length) {x:Int} {args:List aO} {d:Option Nat} {K:PF→PH→Prop} (hO:bR H 1 (.osl q 1 0 n) (iiv row)) (ha:aO.evs F args=some [.osl q 1 0 n,.int .i64 x])
  (hk:K (F.put d (.bool (row.contains x))) H):fQ C 247 args [] d K F H:=by
 obtain⟨rs,h1,h2,h3,h4⟩:=hO.id rfl
 subst hn
 rw[bwN] at h3 h4
 refine SU (.bool _) ?_ h1 ha hk
 rw[bzB,qU h3,h4]
 exact Lb.has row x Om
def a3P (f:aL) (o:Nat) (w:PV) (v:Nat):PF:=((((PF.nil.set 0 (.ptr o 2 0 0)).set 3 (.buR f.cells)).set 5 (w)).set 6 (.int .i64 v))
def fO (f:aL) (o:Nat) (w:PV) (v q i:Nat):PF:=((((((PF.nil.set 0 (.ptr o 2 0 0)).set 3 (.buR f.cells)).set 5 (w)).set 6 (.int .i64 v)).set 7 (.osl q 1 0 i)).set 8 (.int .i64 i))
def aTL (f:aL) (o:Nat) (w:PV) (v q i d j:Nat):PF:=((((((((PF.nil.set 0 (.ptr o 2 0 0)).set 3 (.buR f.cells)).set 5 (w)).set 6 (.int .i64 v)).set 7 (.osl q 1 0 i)).set 8 (.int .i64 i)).set 9 (.int .i64 d)).set 10 (.int .i64 j))
theorem a3Q {C:Ctx} (Lb:AP C) (f:aL) (hd0:1≤f.buH.length) (hd:f.buH.length≤1000) (o:Nat) (w:PV) (v q i d0:Nat) (row:List Int) (hi:i=row.length) (buW:row.length≤1000) (hdl:d0<f.buH.length) (K:cI) (F:PF) (H:PH)
  (hF:(aTL f o w v q i d0 0).le F) (hO:bR H 1 (.osl q 1 0 i) (iiv row))
  (hK:∀ F',(fO f o w v q i).le F'→F' 9=some (.int .i64 (oF row f.buH.length f.buH.length d0:Nat))→K (.exit 4) F' H) :
  aB.wp C (.loop yD) K F H:=by
 refine wp_loop (α:=Nat × Nat) (fun s=>aTL f o w v q i s.2 s.1) (fun _=>H) (fun s=>s.1≤f.buH.length∧s.2<f.buH.length∧oF row f.buH.length (f.buH.length-s.1) s.2=oF row f.buH.length f.buH.length d0) (fun s=>f.buH.length-s.1) (0,d0) ⟨bwZ _,hdl,rfl⟩ hF PH.le_refl ?_
 rintro⟨j,d⟩ ⟨hj,hdd,hE⟩
 simp only at hj hdd hE ⊢
 simp only[go_sem,γ,δ,ε,ζ,η,θ,ι,κ,μ,ν,ξ,ο,ρ,σ,τ,υ,reduceIte,reduceCtorEq,yD,YO,aTL,bwN]
 by_cases hlt:j<f.buH.length
 ·have buP:(j:Int)<(f.buH.length:Nat):=by omega
  simp only[go_sem,γ,δ,ε,ζ,η,θ,ι,κ,μ,ν,ξ,ο,ρ,σ,τ,υ,reduceIte,reduceCtorEq,buP]
  refine SS Lb (x:=(d:Nat)) buW hi hO rfl ?_
  obtain⟨k,hk⟩:∃ k,f.buH.length-j=k+1:=⟨f.buH.length-j-1,by omega⟩
  rw[hk,oF] at hE
  cases hc:row.contains ((d:Nat):Int) with
  | true =>
   rw[hc,if_pos rfl] at hE
   have hz:¬ ((f.buH.length:Nat):Int)=0:=by omega
   have em:Int.tmod ((d+1:Nat):Int) (f.buH.length:Nat)=(((d+1)%f.buH.length:Nat):Int):=Int.ofNat_tmod _ _
   simp only[go_sem,γ,δ,ε,ζ,η,θ,ι,κ,μ,ν,ξ,ο,ρ,σ,τ,υ,reduceIte,reduceCtorEq,QK,bwN,wZz d,hz,em,QL,wZz j]
   refine aJ (j+1,(d+1)%f.buH.length) ⟨hlt,bxX _ Om,?_⟩ (by simp only; omega) Lq PH.le_refl
   simp only
   rw[show f.buH.length-(j+1)=k by omega]
   exact hE
  | false =>
   rw[hc,if_neg (by simp)] at hE
   simp only[go_sem,γ,δ,ε,ζ,η,θ,ι,κ,μ,ν,ξ,ο,ρ,σ,τ,υ,reduceIte,reduceCtorEq]
   refine hK _ ?_ ?_
   ·unfold fO
    exact Lq
   ·rw[← hE]; simp only[go_sem,γ,δ,ε,ζ,η,θ,ι,κ,μ,ν,ξ,ο,ρ,σ,τ,υ,reduceIte,reduceCtorEq]
 ·have buP:¬ (j:Int)<(f.buH.length:Nat):=by omega
  have hz:f.buH.length-j=0:=by omega
  rw[hz,oF] at hE
  simp only[go_sem,γ,δ,ε,ζ,η,θ,ι,κ,μ,ν,ξ,ο,ρ,σ,τ,υ,reduceIte,reduceCtorEq,buP]
  refine hK _ ?_ ?_
  ·unfold fO
   exact Lq
  ·rw[← hE]; simp only[go_sem,γ,δ,ε,ζ,η,θ,ι,κ,μ,ν,ξ,ο,ρ,σ,τ,υ,reduceIte,reduceCtorEq]
theorem a9P {C:Ctx} (Lb:AP C) {l:List Int} (T:TpM l) (o:Nat) (f:aL) (hV:VF f) (hd0:1≤f.buH.length) (v:Nat) (hvl:v<f.buK.length) (n:Nat) (hn:eW f v=n) (hn8:n≤8) (w:PV) (R:List (List PV)) (q0 a:Nat) (ha:a≤50000) (K:cI) (F:PF) (H:PH)
  (hF:(fO f o w v q0 0).le F) (hH:bA H [(o,bE l a)] [(w,1,R),(.osl q0 1 0 0,1,iiv [])])
  (hK:∀ q F' H',(fO f o w v q n).le F'→bA H' [(o,bE l (jE l f.buH.length a n).2)] [(w,1,R),(.osl q 1 0 n,1,iiv (jE l f.buH.length a n).1)]→K (.exit 2) F' H') :
  aB.wp C (.loop yE) K F H:=by
 have hd24:=hV.small.buH
 refine wp_loop (α:=Nat × Nat × PH) (fun s=>fO f o w v s.2.1 s.1) (fun s=>s.2.2) (fun s=>s.1≤n∧bA s.2.2 [(o,bE l (jE l f.buH.length a s.1).2)] [(w,1,R),(.osl s.2.1 1 0 s.1,1,iiv (jE l f.buH.length a s.1).1)]) (fun s=>n-s.1) (0,q0,H) ⟨bwZ _,hH⟩ hF PH.le_refl ?_
 rintro⟨i,q,H0⟩ ⟨hi,hH⟩
 simp only at hi hH ⊢
 obtain⟨k1,k2,k3⟩:=BN l f.buH.length a i
 have buQ:jE l f.buH.length a (i+1)=((jE l f.buH.length a i).1++[(tO l (jE l f.buH.length a i).1 f.buH.length (jE l f.buH.length a i).2).1],(tO l (jE l f.buH.length a i).1 f.buH.length (jE l f.buH.length a i).2).2):=rfl
 generalize hs:jE l f.buH.length a i=s at *
 have hsz:=Lb.size f v hV hvl
 rw[hn] at hsz
 simp only[go_sem,γ,δ,ε,ζ,η,θ,ι,κ,μ,ν,ξ,ο,ρ,σ,τ,υ,reduceIte,reduceCtorEq,yE,YL,fO]
 refine aA hsz rfl ?_
 by_cases hlt:i<n
 ·have buP:(i:Int)<(n:Nat):=by omega
  have nd:=cG l (Om:0<f.buH.length) s.2
  have h11:(1:Nat)*1≤16777216:=by decide
  simp only[go_sem,γ,δ,ε,ζ,η,θ,ι,κ,μ,ν,ξ,ο,ρ,σ,τ,υ,reduceIte,reduceCtorEq,buP,YM,bwN]
  refine cB Lb.toCE T (o:=o) (n:=f.buH.length) (a:=s.2) Om Om rfl (hH.at 0 rfl) ?_
  have h1:=hH.set 0 rfl (bE l (s.2+1))
  simp only[go_sem,γ,δ,ε,ζ,η,θ,ι,κ,μ,ν,ξ,ο,ρ,σ,τ,υ,reduceIte,reduceCtorEq,YN]
  refine a3Q Lb f hd0 Om o w v q i (nxM l f.buH.length s.2) s.1 k1.symm Om nd _ _ _ (by unfold aTL; exact Lq) (h1.own 1 rfl) ?_
  intro F1 hF1 f9
  have f0:F1 0=some (.ptr o 2 0 0):=hF1 0 _ (by unfold fO; simp only[go_sem,γ,δ,ε,ζ,η,θ,ι,κ,μ,ν,ξ,ο,ρ,σ,τ,υ,reduceIte,reduceCtorEq])
  have f3:F1 3=some (.buR f.cells):=hF1 3 _ (by unfold fO; simp only[go_sem,γ,δ,ε,ζ,η,θ,ι,κ,μ,ν,ξ,ο,ρ,σ,τ,υ,reduceIte,reduceCtorEq])
  have f5:F1 5=some w:=hF1 5 _ (by unfold fO; simp only[go_sem,γ,δ,ε,ζ,η,θ,ι,κ,μ,ν,ξ,ο,ρ,σ,τ,υ,reduceIte,reduceCtorEq])
  have f6:F1 6=some (.int .i64 v):=hF1 6 _ (by unfold fO; simp only[go_sem,γ,δ,ε,ζ,η,θ,ι,κ,μ,ν,ξ,ο,ρ,σ,τ,υ,reduceIte,reduceCtorEq])
  have f7:F1 7=some (.osl q 1 0 i):=hF1 7 _ (by unfold fO; simp only[go_sem,γ,δ,ε,ζ,η,θ,ι,κ,μ,ν,ξ,ο,ρ,σ,τ,υ,reduceIte,reduceCtorEq])
  have f8:F1 8=some (.int .i64 i):=hF1 8 _ (by unfold fO; simp only[go_sem,γ,δ,ε,ζ,η,θ,ι,κ,μ,ν,ξ,ο,ρ,σ,τ,υ,reduceIte,reduceCtorEq])
  have hhome:tO l s.1 f.buH.length s.2=if s.1.contains ((oF s.1 f.buH.length f.buH.length (nxM l f.buH.length s.2):Nat):Int) then (-1,s.2+1) else if nxM l 12 (s.2+1)=0 then (-1,s.2+2) else (((oF s.1 f.buH.length f.buH.length (nxM l f.buH.length s.2):Nat):Int),s.2+2):=rfl
  generalize oF s.1 f.buH.length f.buH.length (nxM l f.buH.length s.2)=d at *
  have fin:∀ (x:Int) (b:Nat) (F':PF) (H':PH),tO l s.1 f.buH.length s.2=(x,b)→(fO f o w v q i).le F'→F' 9=some (.int .i64 x)→bA H' [(o,bE l b)] [(w,1,R),(.osl q 1 0 i,1,iiv s.1)] →
    aB.wp C (.region yG) (dR 3 (gW C (aB.wp C (.region yH)) (eA (fun s:Nat × Nat × PH=>fO f o w v s.2.1 s.1) (fun s=>s.2.2) (fun s=>s.1≤n∧bA s.2.2 [(o,bE l (jE l f.buH.length a s.1).2)] [(w,1,R),(.osl s.2.1 1 0 s.1,1,iiv (jE l f.buH.length a s.1).1)]) (fun s=>n-s.1) (n-i) K))) F' H':=by
   intro x b F' H' hx hF' g9 hH'
   have g0:F' 0=some (.ptr o 2 0 0):=hF' 0 _ (by unfold fO; simp only[go_sem,γ,δ,ε,ζ,η,θ,ι,κ,μ,ν,ξ,ο,ρ,σ,τ,υ,reduceIte,reduceCtorEq])
   have g3:F' 3=some (.buR f.cells):=hF' 3 _ (by unfold fO; simp only[go_sem,γ,δ,ε,ζ,η,θ,ι,κ,μ,ν,ξ,ο,ρ,σ,τ,υ,reduceIte,reduceCtorEq])
   have g5:F' 5=some w:=hF' 5 _ (by unfold fO; simp only[go_sem,γ,δ,ε,ζ,η,θ,ι,κ,μ,ν,ξ,ο,ρ,σ,τ,υ,reduceIte,reduceCtorEq])
   have g6:F' 6=some (.int .i64 v):=hF' 6 _ (by unfold fO; simp only[go_sem,γ,δ,ε,ζ,η,θ,ι,κ,μ,ν,ξ,ο,ρ,σ,τ,υ,reduceIte,reduceCtorEq])
   have g7:F' 7=some (.osl q 1 0 i):=hF' 7 _ (by unfold fO; simp only[go_sem,γ,δ,ε,ζ,η,θ,ι,κ,μ,ν,ξ,ο,ρ,σ,τ,υ,reduceIte,reduceCtorEq])
   have g8:F' 8=some (.int .i64 i):=hF' 8 _ (by unfold fO; simp only[go_sem,γ,δ,ε,ζ,η,θ,ι,κ,μ,ν,ξ,ο,ρ,σ,τ,υ,reduceIte,reduceCtorEq])
   simp only[go_sem,γ,δ,ε,ζ,η,θ,ι,κ,μ,ν,ξ,ο,ρ,σ,τ,υ,reduceIte,reduceCtorEq,yG,g7,g9,h11]
   refine hH'.append 1 (src:=[[.int .i64 x]]) rfl rfl (by unfold roomFor; rw[bwN,k1]; simp only[bxD,maxLen]; omega) fun w' H2 h5 hw=>?_
   obtain⟨z,rfl⟩:=hw (by simp)
   have e:iiv s.1++[[PV.int .i64 x]]=iiv (s.1++[x]):=by simp[iiv]
   have el:(iiv s.1++[[PV.int .i64 x]]).length=i+1:=by simp[k1]
   rw[el] at h5
   rw[el]
   simp only[go_sem,γ,δ,ε,ζ,η,θ,ι,κ,μ,ν,ξ,ο,ρ,σ,τ,υ,reduceIte,reduceCtorEq,yH,g8,wZz i]
   refine aJ (i+1,z,H2) ⟨hlt,?_⟩ (by simp only; omega) ?_ PH.le_refl
   ·simp only
    rw[buQ,hx,← e]
    exact h5
   ·unfold fO
    exact Lq
  simp only[aB.wp,go_sem] at fin
  simp only[go_sem,γ,δ,ε,ζ,η,θ,ι,κ,μ,ν,ξ,ο,ρ,σ,τ,υ,reduceIte,reduceCtorEq,QM,f7,f9]
  refine SS Lb (x:=(d:Nat)) Om k1.symm (h1.own 1 rfl) rfl ?_
  cases hc:s.1.contains ((d:Nat):Int) with
  | true =>
   rw[hc,if_pos rfl] at hhome
   simp only[go_sem,γ,δ,ε,ζ,η,θ,ι,κ,μ,ν,ξ,ο,ρ,σ,τ,υ,reduceIte,reduceCtorEq,yF]
   refine fin (-1) (s.2+1) _ _ hhome ?_ rfl h1
   unfold fO
   exact Lq
  | false =>
   rw[hc,if_neg (by simp)] at hhome
   simp only[go_sem,γ,δ,ε,ζ,η,θ,ι,κ,μ,ν,ξ,ο,ρ,σ,τ,υ,reduceIte,reduceCtorEq,f0]
   refine cB Lb.toCE T (o:=o) (n:=12) (a:=s.2+1) (by decide) Om rfl (h1.at 0 rfl) ?_
   have h2:=h1.set 0 rfl (bE l (s.2+2))
   by_cases c:nxM l 12 (s.2+1)=0
   ·rw[if_pos c] at hhome
    simp only[go_sem,γ,δ,ε,ζ,η,θ,ι,κ,μ,ν,ξ,ο,ρ,σ,τ,υ,reduceIte,reduceCtorEq,bX (show ((nxM l 12 (s.2+1):Nat):Int)=0 by omega),yF]
    refine fin (-1) (s.2+2) _ _ hhome ?_ rfl (by rw[PH.set_set] at h2; exact h2)
    unfold fO
    exact Lq
   ·rw[if_neg c] at hhome
    simp only[go_sem,γ,δ,ε,ζ,η,θ,ι,κ,μ,ν,ξ,ο,ρ,σ,τ,υ,reduceIte,reduceCtorEq,bD (show ((nxM l 12 (s.2+1):Nat):Int)≠0 by omega)]
    refine fin d (s.2+2) _ _ hhome ?_ (by simp only[go_sem,γ,δ,ε,ζ,η,θ,ι,κ,μ,ν,ξ,ο,ρ,σ,τ,υ,reduceIte,reduceCtorEq,f9]) (by rw[PH.set_set] at h2; exact h2)
    unfold fO
    exact Lq
 ·have buP:¬ (i:Int)<(n:Nat):=by omega
  have:i=n:=by omega
  subst this
  simp only[go_sem,γ,δ,ε,ζ,η,θ,ι,κ,μ,ν,ξ,ο,ρ,σ,τ,υ,reduceIte,reduceCtorEq,buP]
  refine hK q _ _ ?_ (by rw[hs]; exact hH)
  unfold fO
  exact Lq

def a8I (l:List Int) (o a:Nat) (f:aL) (r:PV) (H:PH):Prop:=Co r (lay (cU l f a f.buK.length).1)∧H=PH.nil.set o (bE l (cU l f a f.buK.length).2)
theorem aTJ {C:Ctx} (Lb:AP C) {l:List Int} (T:TpM l) (o a:Nat) (ha:a≤10000) (f:aL) (hF:FM f) (hV:VF f) (hd0:1≤f.buH.length) :
  vC.wp C (aS AX.res (a8I l o a f)) (PF.args [.ptr o 2 0 0,.agg f.cells]) (PH.nil.set o (bE l a)):=by
 have hvl:=hV.small.buK
 have h0:bA (PH.nil.set o (bE l a)) [(o,bE l a)] [(.buJ,1,nU [])]:=(bA.nil.new (H:=PH.nil) rfl (bE l a)).sY 1
 have hR:∀ r H,a8I l o a f r H↔Co r (lay (cU l f a f.buK.length).1)∧H=PH.nil.set o (bE l (cU l f a f.buK.length).2):=fun _ _=>Iff.rfl
 simp only[go_sem,γ,δ,ε,ζ,η,θ,ι,κ,μ,ν,ξ,ο,ρ,σ,τ,υ,reduceIte,reduceCtorEq,vC,YF,AX,YG,YH]
 refine wp_loop (α:=Nat × PV × PH) (fun s=>a3P f o s.2.1 s.1) (fun s=>s.2.2) (fun s=>s.1≤f.buK.length∧bA s.2.2 [(o,bE l (cU l f a s.1).2)] [(s.2.1,1,nU (cU l f a s.1).1)]) (fun s=>f.buK.length-s.1) (0,.buJ,_) ⟨bwZ _,h0⟩ ?_ PH.le_refl ?_
 ·unfold a3P
  exact Lq
 rintro⟨i,w,H0⟩ ⟨hi,hH⟩
 simp only at hi hH ⊢
 obtain⟨k1,-,k3,k4⟩:=pX l hF a i hi
 simp only[go_sem,γ,δ,ε,ζ,η,θ,ι,κ,μ,ν,ξ,ο,ρ,σ,τ,υ,reduceIte,reduceCtorEq,QJ,YI,a3P,bwN]
 by_cases hlt:i<f.buK.length
 ·have buP:(i:Int)<(f.buK.length:Nat):=by omega
  have hfr:=hF.TS hlt
  obtain⟨n,hn⟩:∃ n:Nat,eW f i=n:=⟨(eW f i).toNat,by omega⟩
  have buQ:cU l f a (i+1)=((cU l f a i).1++[(jE l f.buH.length (cU l f a i).2 (eW f i).toNat).1],(jE l f.buH.length (cU l f a i).2 (eW f i).toNat).2):=rfl
  rw[hn,bzO] at buQ
  generalize hs:cU l f a i=s at *
  have h11:(1:Nat)*1≤16777216:=by decide
  have h01:(0:Nat)*1≤16777216:=by decide
  simp only[go_sem,γ,δ,ε,ζ,η,θ,ι,κ,μ,ν,ξ,ο,ρ,σ,τ,υ,reduceIte,reduceCtorEq,buP,YJ,h01]
  refine aP fun q0 hq0=>?_
  have h1:=hH.bgA (s:=1) (rows:=iiv []) hq0
  obtain⟨r1,-,-⟩:=BN l f.buH.length s.2 n
  simp only[go_sem,γ,δ,ε,ζ,η,θ,ι,κ,μ,ν,ξ,ο,ρ,σ,τ,υ,reduceIte,reduceCtorEq,YK]
  refine a9P Lb T o f hV hd0 i hlt n hn Om w (nU s.1) q0 s.2 Om _ _ _ (by unfold fO; exact Lq) h1 ?_
  intro q F1 H1 hF1 h2
  generalize buW:jE l f.buH.length s.2 n=row at *
  have f0:F1 0=some (.ptr o 2 0 0):=hF1 0 _ (by unfold fO; simp only[go_sem,γ,δ,ε,ζ,η,θ,ι,κ,μ,ν,ξ,ο,ρ,σ,τ,υ,reduceIte,reduceCtorEq])
  have f3:F1 3=some (.buR f.cells):=hF1 3 _ (by unfold fO; simp only[go_sem,γ,δ,ε,ζ,η,θ,ι,κ,μ,ν,ξ,ο,ρ,σ,τ,υ,reduceIte,reduceCtorEq])
  have f5:F1 5=some w:=hF1 5 _ (by unfold fO; simp only[go_sem,γ,δ,ε,ζ,η,θ,ι,κ,μ,ν,ξ,ο,ρ,σ,τ,υ,reduceIte,reduceCtorEq])
  have f6:F1 6=some (.int .i64 i):=hF1 6 _ (by unfold fO; simp only[go_sem,γ,δ,ε,ζ,η,θ,ι,κ,μ,ν,ξ,ο,ρ,σ,τ,υ,reduceIte,reduceCtorEq])
  have f7:F1 7=some (.osl q 1 0 n):=hF1 7 _ (by unfold fO; simp only[go_sem,γ,δ,ε,ζ,η,θ,ι,κ,μ,ν,ξ,ο,ρ,σ,τ,υ,reduceIte,reduceCtorEq])
  simp only[go_sem,γ,δ,ε,ζ,η,θ,ι,κ,μ,ν,ξ,ο,ρ,σ,τ,υ,reduceIte,reduceCtorEq,QN,f5,f7,h11]
  refine h2.append 0 (src:=[[.osl q 1 0 n]]) rfl Sq (by unfold roomFor; rw[bwN,k1]; simp only[bxD,maxLen]; omega) fun w' H' h3 hw=>?_
  obtain⟨q',rfl⟩:=hw (by simp)
  generalize hw':(PV.osl q' 1 0 (nU s.1++[[PV.osl q 1 0 n]]).length)=w' at *
  obtain⟨rs,z1,z2,z3,z4,z5⟩:=h3.frz 1 rfl
  have y1:=z4 0 _ (by decide) rfl
  simp only at y1
  have yf:PV.frz q 1 rs w'=w':=by rw[← hw'] at y1 ⊢; exact y1
  simp only[go_sem,γ,δ,ε,ζ,η,θ,ι,κ,μ,ν,ξ,ο,ρ,σ,τ,υ,reduceIte,reduceCtorEq,QO,f6,wZz i]
  refine alI (i+1,w',H'.frz q 1 rs) z1 ⟨hlt,?_⟩ (by simp only; omega) ?_ PH.le_refl
  ·simp only
   rw[buQ]
   have eB:([(o,bE l row.2)]:List BX).map (fun b=>(b.1,b.2.frz q 1 rs))=[(o,bE l row.2)]:=rfl
   have e5:(nU s.1++[[PV.osl q 1 0 n]]).map (fun r=>r.map (PV.dX q 1 rs))=nU (s.1++[row.1]):=by
    rw[bzD,bbN]
    show nU s.1++[[PV.dX q 1 rs (.osl q 1 0 n)]]=_
    rw[z2]
    simp[nU]
   rw[← eB,← e5]
   exact z5
  ·(repeat' (first|exact PF.nil_le|refine PF.aH ?_ ?_))<;>first|(simp only[go_sem,γ,δ,ε,ζ,η,θ,ι,κ,μ,ν,ξ,ο,ρ,σ,τ,υ,reduceIte,reduceCtorEq,f0,f3,yf]<;>rfl)|rfl
 ·have buP:¬ (i:Int)<(f.buK.length:Nat):=by omega
  have:i=f.buK.length:=by omega
  subst this
  simp only[go_sem,γ,δ,ε,ζ,η,θ,ι,κ,μ,ν,ξ,ο,ρ,σ,τ,υ,reduceIte,reduceCtorEq,buP,QP]
  rcases hH.own 0 rfl with ⟨h1',rfl⟩ | ⟨q,rs,rfl,_⟩
  ·refine aU (vs:=[.buJ]) (.inr rfl) (PH.nil.set o (bE l (cU l f a f.buK.length).2)) Sq (PH.aH PH.nil_le (hH.at 0 rfl)) ?_
   rw[aT,hR]
   refine⟨?_,rfl⟩
   unfold lay
   rw[show (cU l f a f.buK.length).1.map (fun r=>[ints r])=[] from h1']
   exact .nil 1
  ·obtain⟨rs,g1,g2,g3,-,g4⟩:=hH.frz 0 rfl
   refine aiB (vs:=[.osl q 1 0 (nU (cU l f a f.buK.length).1).length]) (.inr rfl) Sq (.step g1 (.done (H2:=PH.nil.set o (bE l (cU l f a f.buK.length).2)) ?_ (PH.aH PH.nil_le ?_)))
   ·rw[aT,g3,hR]
    exact⟨.refl _,rfl⟩
   ·have:=g4.at 0 rfl
    rw[this]
    rfl
section
variable {H:PH} {B:List BX} {L:List LI} {s:Nat} {rows:List (List PV)}
theorem bA.bjH (h:bA H B L) {r:PV} {H':PH} (m:jV s rows r H') (ha:kG H .nil H'):bA (H.eM .nil H') B (L++[(r,s,rows)]):=by
 obtain⟨hO,hk⟩:=m.eM ha
 have h1:=h.sY s
 have e:(L++[(PV.buJ,s,([]:List (List PV)))]).set L.length (r,s,rows)=L++[(r,s,rows)]:=by
  rw[bzZ _ _ (bwR _),Nat.sub_self]; rfl
 rw[← e]
 refine h1.xQ L.length (v:=.buJ) (s:=s) (rows:=[]) (by simp) hO (fun q hq=>.inr ?_) fun q hq _=>?_
 ·rcases m with ⟨-,rfl,-⟩ | ⟨p,rs,rfl,rfl,-⟩
  ·cases hq
  ·cases hq
   exact ha q (.rows s rs) (by rw[fJ]) rfl
 ·obtain⟨x,hx⟩:=h1.BQ hq
  rw[hx]; exact hk q x hx
theorem jV.some (s:Nat) (rows:List (List PV)) (G:PH):∃ r H',jV s rows r H'∧kG G .nil H':=by
 obtain⟨o,ho⟩:=G.fresh
 refine⟨.osl o s 0 rows.length,PH.nil.set o (.rows s rows),.inr ⟨o,rows,rfl,rfl,bwR _,bxM⟩,fun q x hx _=>?_⟩
 rw[bL] at hx
 split at hx
 ·rename_i e; rw[e]; exact ho
 ·cases hx
end

section
variable {C:Ctx} {F:PF} {H Hs:PH} {tn a a2:Nat} {raw:List Int} {R:Nat→PV→PH→Prop} {st:Bool} {args:List aO} {d:Option Nat} {K:PF→PH→Prop}
end
section
variable {C:Ctx} {F:PF} {H:PH} {B:List BX} {L:List LI} {args:List aO} {d:Option Nat} {K:PF→PH→Prop}
end
theorem a0S {f:aL} (hV:VF f) (room:List Int) {d:Nat} (hd:d<f.buH.length):0≤qH f room d∧qH f room d≤ext f d∧1≤ext f d∧ext f d≤16:=by
 obtain⟨hm,he⟩:=hV.aYE hd
 have:=hV.model _ (bwS hm)
 rw[he] at this
 unfold qH
 split
 ·omega
 ·omega
theorem XH (l:List Int) (x:Int):∀ (xs:List Int) (a:Nat),eS l (xs++[x]) a=((eS l xs a).1++[(uZ l x (eS l xs a).2).1],(uZ l x (eS l xs a).2).2)
 | [],a=>rfl
 | y::ys,a=>by
  rw[bzP,eS,XH l x ys]
  rfl
theorem asK (l:List Int):∀ (xs:List Int) (a:Nat),(eS l xs a).1.length=xs.length∧a≤(eS l xs a).2∧(eS l xs a).2≤a+2*xs.length
 | [],a=>⟨rfl,bwR _,bwR _⟩
 | x::xs,a=>by
  obtain⟨h1,h2,h3⟩:=asK l xs (uZ l x a).2
  have h4:a≤(uZ l x a).2∧(uZ l x a).2≤a+2:=by
   unfold uZ
   split
   ·simp
   ·split<;>simp
  rw[eS]
  simp only[byQ,h1,true_and]
  omega
theorem bA.store {H:PH} {B:List BX} {L:List LI} (h:bA H B L) (i:Nat) {q s n:Nat} {rows:List (List PV)} (hi:L[i]?=some (.osl q s 0 n,s,rows)) (k:Nat) (c:List PV) :
  ∃ rs,H q=some (.rows s rs)∧n≤rs.length∧rs.take n=rows∧bA (H.set q (.rows s (rs.set k c))) B (L.set i (.osl q s 0 n,s,rows.set k c)):=by
 obtain⟨rs,h1,h2,h3,h4⟩:=(h.own i hi).id rfl
 injection h2 with _ _ _ hn
 subst hn
 refine⟨rs,h1,h3,h4,h.xQ i hi (.inr ⟨q,rs.set k c,by rw[byR],by rw[fJ],by rw[byR,byR]; exact h3,by rw[byR,List.take_set,h4]⟩) (fun p hp=>.inl hp) fun p _ hp=>?_⟩
 have:p≠q:=hp q rfl
 rw[bL,if_neg this]
def arM (l:List Int) (o a:Nat) (f:aL) (r:PV) (H:PH):Prop:=Co r (ints (eS l (fB f []) a).1)∧H=PH.nil.set o (bE l (eS l (fB f []) a).2)
def sV (o:Nat) (q n i:Nat):PF:=(((PF.nil.set 0 (.ptr o 2 0 0)).set 5 (.osl q 1 0 n)).set 6 (.int .i64 i))
theorem aXX {C:Ctx} (Lb:AP C) {l:List Int} (T:TpM l) (o a:Nat) (ha:a≤10000) (f:aL) (hv:dH f=true) (hd0:1≤f.buH.length)
  (hr:aE C 85 [.agg f.cells,ints []] .nil (jV 1 (bT (abW f [])))) :
  yI.wp C (aS JJ.res (arM l o a f)) (PF.args [.ptr o 2 0 0,.agg f.cells]) (PH.nil.set o (bE l a)):=by
 have hV:=VF.of hv
 have hd24:=hV.small.buH
 have hX:abW f []=fB f []:=by unfold abW; rw[hv]; rfl
 rw[hX] at hr
 have hXl:=MP f []
 have hXi:∀ i (h:i<(fB f []).length),0≤(fB f [])[i]∧(fB f [])[i]≤16:=fun i h=>by
  rw[aCK]
  have:=a0S hV [] (Om:i<f.buH.length)
  omega
 have hR:∀ r H,arM l o a f r H↔Co r (ints (eS l (fB f []) a).1)∧H=PH.nil.set o (bE l (eS l (fB f []) a).2):=fun _ _=>Iff.rfl
 generalize fB f []=X at *
 have h0:bA (PH.nil.set o (bE l a)) [(o,bE l a)] []:=bA.nil.new (H:=PH.nil) rfl (bE l a)
 simp only[go_sem,γ,δ,ε,ζ,η,θ,ι,κ,μ,ν,ξ,ο,ρ,σ,τ,υ,reduceIte,reduceCtorEq,yI,ajT,JJ,ajU]
 refine fA hr.aVZ rfl PH.nil_le ?_
 intro r H' hm hap
 have h1:=h0.bjH hm hap
 obtain⟨q,rfl⟩:=(h1.own 0 rfl).one (by rw[pV]; omega)
 rw[pV,hXl] at h1
 simp only[go_sem,γ,δ,ε,ζ,η,θ,ι,κ,μ,ν,ξ,ο,ρ,σ,τ,υ,reduceIte,reduceCtorEq,pV,hXl,ajV]
 generalize hn:f.buH.length=n at *
 refine wp_loop (α:=Nat × PH) (fun s=>sV o q n s.1) (fun s=>s.2) (fun s=>s.1≤n∧bA s.2 [(o,bE l (eS l (X.take s.1) a).2)] [(.osl q 1 0 n,1,bT ((eS l (X.take s.1) a).1++X.drop s.1))]) (fun s=>n-s.1) (0,_) ⟨bwZ _,h1⟩ ?_ PH.le_refl ?_
 ·unfold sV
  exact Lq
 rintro⟨i,H0⟩ ⟨hi,hH⟩
 simp only at hi hH ⊢
 obtain⟨k1,k2,k3⟩:=asK l (X.take i) a
 rw[bxE,byK Om] at k1 k3
 simp only[go_sem,γ,δ,ε,ζ,η,θ,ι,κ,μ,ν,ξ,ο,ρ,σ,τ,υ,reduceIte,reduceCtorEq,YR,ajW,sV]
 by_cases hlt:i<n
 ·have buP:(i:Int)<(n:Nat):=by omega
  have hiX:i<X.length:=by omega
  have hx:=hXi i hiX
  have buQ:eS l (X.take (i+1)) a=((eS l (X.take i) a).1++[(uZ l X[i] (eS l (X.take i) a).2).1],(uZ l X[i] (eS l (X.take i) a).2).2):=by
   rw[byH hiX,XH]
  have hdrop:X.drop i=X[i]::X.drop (i+1):=byG hiX
  generalize eS l (X.take i) a=s at *
  have hcut:uZ l X[i] s.2=if nxM l 9 s.2=0 then (0,s.2+1) else if nxM l 9 s.2=1 then (((nxM l (X[i]+1).toNat (s.2+1):Nat):Int),s.2+2) else (X[i],s.2+1):=rfl
  generalize X[i]=x at *
  simp only[go_sem,γ,δ,ε,ζ,η,θ,ι,κ,μ,ν,ξ,ο,ρ,σ,τ,υ,reduceIte,reduceCtorEq,buP,ajX]
  refine cB Lb.toCE T (o:=o) (n:=9) (a:=s.2) (by decide) Om rfl (hH.at 0 rfl) ?_
  have h2:=hH.set 0 rfl (bE l (s.2+1))
  have hY:∀ v:Int,(bT (s.1++X.drop i)).set i [.int .i64 v]=bT ((s.1++[v])++X.drop (i+1)):=fun v=>by
   rw[aYW,hdrop,bzZ _ _ Om,k1,Nat.sub_self,List.set_cons_zero,bxU]
   rfl
  have fin:∀ (y:Int) (b:Nat) (F':PF) (H':PH),uZ l x s.2=(y,b)→(sV o q n i).le F'→bA H' [(o,bE l b)] [(.osl q 1 0 n,1,bT ((s.1++[y])++X.drop (i+1)))] →
    aB.wp C (.region JL) (eA (fun s:Nat × PH=>sV o q n s.1) (fun s=>s.2) (fun s=>s.1≤n∧bA s.2 [(o,bE l (eS l (X.take s.1) a).2)] [(.osl q 1 0 n,1,bT ((eS l (X.take s.1) a).1++X.drop s.1))]) (fun s=>n-s.1) (n-i) (dR 0 (gW C (aB.wp C ((aB.region DQ).seq aB.ret)) (aS [dQ.tmp 4] (arM l o a f))))) F' H':=by
   intro y b F' H' hy hF' hH'
   have g0:F' 0=some (.ptr o 2 0 0):=hF' 0 _ (by unfold sV; simp only[go_sem,γ,δ,ε,ζ,η,θ,ι,κ,μ,ν,ξ,ο,ρ,σ,τ,υ,reduceIte,reduceCtorEq])
   have g5:F' 5=some (.osl q 1 0 n):=hF' 5 _ (by unfold sV; simp only[go_sem,γ,δ,ε,ζ,η,θ,ι,κ,μ,ν,ξ,ο,ρ,σ,τ,υ,reduceIte,reduceCtorEq])
   have g6:F' 6=some (.int .i64 i):=hF' 6 _ (by unfold sV; simp only[go_sem,γ,δ,ε,ζ,η,θ,ι,κ,μ,ν,ξ,ο,ρ,σ,τ,υ,reduceIte,reduceCtorEq])
   simp only[go_sem,γ,δ,ε,ζ,η,θ,ι,κ,μ,ν,ξ,ο,ρ,σ,τ,υ,reduceIte,reduceCtorEq,JL,g6,wZz i]
   refine aJ (i+1,H') ⟨hlt,?_⟩ (by simp only; omega) ?_ PH.le_refl
   ·simp only
    rw[buQ,hy]
    exact hH'
   ·unfold sV
    exact Lq
  simp only[aB.wp,go_sem] at fin
  simp only[go_sem,γ,δ,ε,ζ,η,θ,ι,κ,μ,ν,ξ,ο,ρ,σ,τ,υ,reduceIte,reduceCtorEq]
  by_cases c0:nxM l 9 s.2=0
  ·rw[if_pos c0] at hcut
   obtain⟨rs,b1,b2,b3,h3⟩:=h2.store 0 rfl i [.int .i64 0]
   rw[hY] at h3
   have hil:i<rs.length:=by omega
   have hir:rs[i]?=some [.int .i64 x]:=by
    have:(rs.take n)[i]?=some [.int .i64 x]:=by
     rw[b3]
     unfold bT
     rw[bxW,hdrop,bzA Om,k1,Nat.sub_self]
     rfl
    rwa [List.getElem?_take_of_lt hlt] at this
   simp only[go_sem,γ,δ,ε,ζ,η,θ,ι,κ,μ,ν,ξ,ο,ρ,σ,τ,υ,reduceIte,reduceCtorEq,bX (Om:((nxM l 9 s.2:Nat):Int)=0),wS,ajY,buP,b1,hir,bxO]
   refine fin 0 (s.2+1) _ _ hcut ?_ h3
   unfold sV
   exact Lq
  by_cases c1:nxM l 9 s.2=1
  ·rw[if_neg c0,if_pos c1] at hcut
   obtain⟨xn,hxn⟩:∃ xn:Nat,x=xn:=⟨x.toNat,by omega⟩
   subst hxn
   rw[show ((xn:Int)+1).toNat=xn+1 by omega] at hcut
   obtain⟨rs,b1,b2,b3,-⟩:=h2.store 0 rfl i [.int .i64 0]
   have hir:rs[i]?=some [.int .i64 xn]:=by
    have:(rs.take n)[i]?=some [.int .i64 xn]:=by
     rw[b3]
     unfold bT
     rw[bxW,hdrop,bzA Om,k1,Nat.sub_self]
     rfl
    rwa [List.getElem?_take_of_lt hlt] at this
   have e1:IntKind.i64.wrap ((xn:Int)+1)=((xn+1:Nat):Int):=cY Om
   have h4:=h2.set 0 rfl (bE l (s.2+2))
   rw[PH.set_set] at h4
   obtain⟨rs2,d1,d2,d3,h5⟩:=h4.store 0 rfl i [.int .i64 (nxM l (xn+1) (s.2+1):Nat)]
   rw[hY] at h5
   have hir2:rs2[i]?=some [.int .i64 xn]:=by
    have:(rs2.take n)[i]?=some [.int .i64 xn]:=by
     rw[d3]
     unfold bT
     rw[bxW,hdrop,bzA Om,k1,Nat.sub_self]
     rfl
    rwa [List.getElem?_take_of_lt hlt] at this
   simp only[go_sem,γ,δ,ε,ζ,η,θ,ι,κ,μ,ν,ξ,ο,ρ,σ,τ,υ,reduceIte,reduceCtorEq,bD (Om:((nxM l 9 s.2:Nat):Int)≠0),bX (Om:((nxM l 9 s.2:Nat):Int)=1),wS,JK,ajZ,buP,b1,hir,e1]
   refine cB Lb.toCE T (o:=o) (n:=xn+1) (a:=s.2+1) Om Om rfl (h2.at 0 rfl) ?_
   simp only[go_sem,γ,δ,ε,ζ,η,θ,ι,κ,μ,ν,ξ,ο,ρ,σ,τ,υ,reduceIte,reduceCtorEq,buP,d1,hir2,bxO]
   refine fin _ (s.2+2) _ _ hcut ?_ h5
   unfold sV
   exact Lq
  ·rw[if_neg c0,if_neg c1] at hcut
   simp only[go_sem,γ,δ,ε,ζ,η,θ,ι,κ,μ,ν,ξ,ο,ρ,σ,τ,υ,reduceIte,reduceCtorEq,bD (Om:((nxM l 9 s.2:Nat):Int)≠0),bD (Om:((nxM l 9 s.2:Nat):Int)≠1),wS,JK]
   refine fin x (s.2+1) _ _ hcut ?_ ?_
   ·unfold sV
    exact Lq
   ·rw[bxU,List.singleton_append,← hdrop]
    exact h2
 ·have buP:¬ (i:Int)<(n:Nat):=by omega
  have:i=n:=by omega
  subst this
  have et:X.take i=X:=bxC Om
  have ed:X.drop i=[]:=List.drop_eq_nil_of_le Om
  rw[et,ed,byU] at hH
  simp only[go_sem,γ,δ,ε,ζ,η,θ,ι,κ,μ,ν,ξ,ο,ρ,σ,τ,υ,reduceIte,reduceCtorEq,buP,DQ]
  obtain⟨rs,g1,g2,g3,-,g4⟩:=hH.frz 0 rfl
  refine aiB (vs:=[.osl q 1 0 i]) (.inr rfl) rfl (.step g1 (.done (H2:=PH.nil.set o (bE l (eS l X a).2)) ?_ (PH.aH PH.nil_le ?_)))
  ·rw[aT,g3,hR]
   exact⟨.refl _,rfl⟩
  ·have:=g4.at 0 rfl
   rw[this]
   rfl
abbrev fM (l:List Int):aL:=(cZ l 3 0).1
abbrev aVH (l:List Int):List (List Int):=(cU l (fM l) (cZ l 3 0).2 (fM l).buK.length).1
abbrev pM (l:List Int):Nat:=(cU l (fM l) (cZ l 3 0).2 (fM l).buK.length).2
abbrev aCL (l:List Int):List Int:=(eS l (fB (fM l) []) (pM l)).1
structure aXK (C:Ctx):Prop extends CE C where
 fleet:∀ l:List Int,TpM l→∀ o vols a:Nat,vols≤50→a≤1000→aE C 244 [.ptr o 2 0 0,.int .i64 vols] (PH.nil.set o (bE l a)) (fun r H=>r=.agg (cZ l vols a).1.cells∧H=PH.nil.set o (bE l (cZ l vols a).2))
 layout:∀ l:List Int,TpM l→∀ (o a:Nat) (f:aL),a≤10000→FM f→VF f→1≤f.buH.length→aE C 246 [.ptr o 2 0 0,.agg f.cells] (PH.nil.set o (bE l a)) (fun r H=>r=lay (cU l f a f.buK.length).1∧H=PH.nil.set o (bE l (cU l f a f.buK.length).2))
 rooms:∀ l:List Int,TpM l→∀ (o a:Nat) (f:aL),a≤10000→f.Ok→dH f=true→1≤f.buH.length→aE C 248 [.ptr o 2 0 0,.agg f.cells] (PH.nil.set o (bE l a)) (fun r H=>r=ints (eS l (fB f []) a).1∧H=PH.nil.set o (bE l (eS l (fB f []) a).2))
def mdC (l R:List Int) (p:Nat):Spec:=fun _ vs=>match vs with
 | .ptr o _ _ _::_=>some ([o],fun _ r H'=>r=ints R∧H'=PH.nil.set o (bE l p))
 | _=>none
def aSL (l:List Int) (r:PV) (H:PH):Prop:=∃ o,r=.tup [.agg ((fM l).cells++[lay (aVH l),ints (aCL l)]),.ptr o 2 0 0]∧H=PH.nil.set o (bE l (eS l (fB (fM l) []) (pM l)).2)
theorem a3R {C:Ctx} (Lb:aXK C) {l:List Int} (T:TpM l):DL.wp C (aS YP.res (aSL l)) (PF.args [ints l]) .nil:=by
 obtain⟨hF,hvl,-,hp1⟩:=wV l (buK:=3) (by decide) 0
 have hv:=JV l (buK:=3) (by decide) 0
 have hd0:=YY l 3 0
 have hV:=VF.of hv
 obtain⟨-,-,-,hp2⟩:=pX l hF (cZ l 3 0).2 _ (bwR _)
 have hp2':pM l≤10000:=by
  show (cU l (cZ l 3 0).1 (cZ l 3 0).2 (cZ l 3 0).1.buK.length).2≤10000
  omega
 obtain⟨f,hfe⟩:∃ f,(cZ l 3 0).1=f:=⟨_,rfl⟩
 obtain⟨p1,hp1e⟩:∃ p,(cZ l 3 0).2=p:=⟨_,rfl⟩
 obtain⟨L,hLe⟩:∃ L,aVH l=L:=⟨_,rfl⟩
 obtain⟨p2,hp2e⟩:∃ p,pM l=p:=⟨_,rfl⟩
 obtain⟨R,hRe⟩:∃ R,aCL l=R:=⟨_,rfl⟩
 obtain⟨p3,hp3e⟩:∃ p,(eS l (fB (fM l) []) (pM l)).2=p:=⟨_,rfl⟩
 have cF:∀ o,aE C 244 [.ptr o 2 0 0,.int .i64 3] (PH.nil.set o (bE l 0)) (fun r H=>r=.agg f.cells∧H=PH.nil.set o (bE l p1)):=fun o=>by
  have:=Lb.fleet l T o 3 0 (by decide) (by decide)
  rw[hfe,hp1e] at this
  exact this
 have cL:∀ o,aE C 246 [.ptr o 2 0 0,.agg f.cells] (PH.nil.set o (bE l p1)) (fun r H=>r=lay L∧H=PH.nil.set o (bE l p2)):=fun o=>by
  have:=Lb.layout l T o (cZ l 3 0).2 (cZ l 3 0).1 Om hF hV hd0
  rw[show (cU l (cZ l 3 0).1 (cZ l 3 0).2 (cZ l 3 0).1.buK.length).1=L from hLe,show (cU l (cZ l 3 0).1 (cZ l 3 0).2 (cZ l 3 0).1.buK.length).2=p2 from hp2e,hfe,hp1e] at this
  exact this
 have cR:∀ o,aE C 248 [.ptr o 2 0 0,.agg f.cells] (PH.nil.set o (bE l p2)) (fun r H=>r=ints R∧H=PH.nil.set o (bE l p3)):=fun o=>by
  have:=Lb.rooms l T o (pM l) (fM l) hp2' hF.ok hv hd0
  rw[show (eS l (fB (fM l) []) (pM l)).1=R from hRe,hp3e,show fM l=f from hfe,hp2e] at this
  exact this
 have hR:∀ r H,aSL l r H↔∃ o,r=.tup [.agg (f.cells++[lay L,ints R]),.ptr o 2 0 0]∧H=PH.nil.set o (bE l p3):=fun r H=>by
  rw[← hfe,← hLe,← hRe,← hp3e]
  exact Iff.rfl
 simp only[go_sem,γ,δ,ε,ζ,η,θ,ι,κ,μ,ν,ξ,ο,ρ,σ,τ,υ,reduceIte,reduceCtorEq,DL,asV,YP]
 refine aP fun o2 ho2=>?_
 have h1:bA (PH.nil.set o2 (.rows 9 [[.int .i64 0,.buJ,.buJ,.buJ,.buJ,.buJ,.buJ,.buJ,.buJ]])) [(o2,.rows 9 [[.int .i64 0,.buJ,.buJ,.buJ,.buJ,.buJ,.buJ,.buJ,.buJ]])] []:=bA.nil.new (H:=PH.nil) ho2 _
 simp only[go_sem,γ,δ,ε,ζ,η,θ,ι,κ,μ,ν,ξ,ο,ρ,σ,τ,υ,reduceIte,reduceCtorEq,asW]
 refine aP fun o ho=>?_
 have h2:=h1.new ho (bE l 0)
 simp only[go_sem,γ,δ,ε,ζ,η,θ,ι,κ,μ,ν,ξ,ο,ρ,σ,τ,υ,reduceIte,reduceCtorEq,asX]
 refine AH (cF o) (h2.at 1 rfl) rfl ?_
 have h3:=h2.set 1 rfl (bE l p1)
 rw[PH.set_set] at h3
 simp only[go_sem,γ,δ,ε,ζ,η,θ,ι,κ,μ,ν,ξ,ο,ρ,σ,τ,υ,reduceIte,reduceCtorEq]
 refine aP fun o5 ho5=>?_
 have h4:=h3.new ho5 (.rows 7 [f.cells])
 have n5:¬ o=o5:=h4.ne 1 2 rfl rfl (by decide)
 have n2:¬ o2=o5:=h4.ne 0 2 rfl rfl (by decide)
 have n02:¬ o2=o:=h4.ne 0 1 rfl rfl (by decide)
 have n5':¬ o5=o:=fun h=>n5 h.symm
 have n2':¬ o5=o2:=fun h=>n2 h.symm
 have n02':¬ o=o2:=fun h=>n02 h.symm
 simp only[go_sem,γ,δ,ε,ζ,η,θ,ι,κ,μ,ν,ξ,ο,ρ,σ,τ,υ,reduceIte,reduceCtorEq,asY,bxF,byC,or_false,forall_eq,forall_eq_or_imp]
 refine AH (cL o) (h4.at 1 rfl) rfl ?_
 have h5:=h4.set 1 rfl (bE l p2)
 have b5:=h5.at 2 rfl
 simp only[go_sem,γ,δ,ε,ζ,η,θ,ι,κ,μ,ν,ξ,ο,ρ,σ,τ,υ,reduceIte,reduceCtorEq]
 refine bM (PH.nil.set o5 (.rows 7 [f.cells])) (mdC l R p3) (PH.aH PH.nil_le b5) ?_
 simp only[go_sem,γ,δ,ε,ζ,η,θ,ι,κ,μ,ν,ξ,ο,ρ,σ,τ,υ,reduceIte,reduceCtorEq,asZ,n5,n2,n02,n5',n2',n02']
 have h6:=h5.set 1 rfl (bE l p3)
 have b6:=h6.at 2 rfl
 rw[PH.set_set] at h6
 refine asL (x:=bE l p2) (y:=bE l p3) (r:=ints R) (R:=fun _ r H'=>r=ints R∧H'=PH.nil.set o (bE l p3)) rfl (h5.at 1 rfl) (cR o) ⟨rfl,rfl⟩ (fun r' H' h=>h) rfl (PH.aH PH.nil_le b6) ?_
 simp only[go_sem,γ,δ,ε,ζ,η,θ,ι,κ,μ,ν,ξ,ο,ρ,σ,τ,υ,reduceIte,reduceCtorEq,n5,n2,n02,n5',n2',n02',bxF,byC,or_false,forall_eq,forall_eq_or_imp]
 have h7:=h6.set 0 rfl (.rows 9 [f.cells++[lay L,ints R]])
 refine⟨PH.aH PH.nil_le (h7.at 2 rfl),?_⟩
 refine aU (vs:=[.agg (f.cells++[lay L,ints R]),.ptr o 2 0 0]) (.inr rfl) (PH.nil.set o (bE l p3)) ?_ (PH.aH PH.nil_le (h7.at 1 rfl)) ?_
 ·simp only[go_sem,γ,δ,ε,ζ,η,θ,ι,κ,μ,ν,ξ,ο,ρ,σ,τ,υ,reduceIte,reduceCtorEq,n02,n02',n2,n2']
  rfl
 ·rw[hR]
  exact⟨o,rfl,rfl⟩
def aaH:Rg:=[iI 4 0]
def aaI:Rg:=[iM 6 1,iC 7 .lss 6 1]
def aaJ:Rg:=[iI 4 0]
def aaK:Rg:=[iM 8 0,iM 9 1,iB 10 .rem 8 9,iM 5 10]
def aaL:Rg:=[iM 11 5,iC 12 .lss 11 0]
def aaM:Rg:=[iM 13 5,iM 14 1,iB 15 .add 13 14,iM 4 15]
def aaN:Rg:=[iM 16 5,iM 4 16]
def vM:aB:=(sq aaH (.seq (sq aaI (.cond (Tm 7) (sq aaJ .ret) .skip)) (sq aaK (.seq (sq aaL (.cond (Tm 12) (sq aaM .ret) .skip)) (sq aaN .ret)))))
def aUQ:List Nat:=[]
def BE:aW:=⟨2,17,vM,[.tmp 4]⟩
def aOV:Rg:=[iA 4 (.box false (Tm 1)),iA 6 (.alloc [(.int .i64 0),(.int .i64 0)]),iI 7 0]
def aOW:Rg:=[iF 10 1 4,iL 11 10,iC 12 .lss 11 0,iM 13 12,gF 14 1 4 13 false,gL 15 14 13 false,gM 16 0 13 false,gB 17 .geq 15 16 13 false,iQ 18 13 17]
def aiI:Rg:=[iA 19 (.build [(.int .i64 0),(.int .i64 0)] []),iS 2 6 19,iI 7 110]
def aOX:Rd:=[(iA 21 (.bwF (true,[.int .i64,.int .i64])),true),(iA 22 (.build [(.int .i64 0),(.int .i64 0)] [(0,1,(Ci 1)),(1,1,(Ci 1))]),true),(⟨none,.insert (true,[.int .i64,.int .i64]) (Tm 21) (Tm 22) (Ci 2),none⟩,true),(iA 23 (.build [(.int .i64 0),(.int .i64 0)] [(0,1,(Ci 2)),(1,1,(Ci 2))]),true),(⟨none,.insert (true,[.int .i64,.int .i64]) (Tm 21) (Tm 23) (Ci 3),none⟩,true),(iA 24 (.build [(.int .i64 0),(.int .i64 0)] [(0,1,(Ci 3)),(1,1,(Ci 3))]),true),(⟨none,.insert (true,[.int .i64,.int .i64]) (Tm 21) (Tm 24) (Ci 1),none⟩,true),(iA 25 (.build [(.int .i64 0),(.int .i64 0)] [(0,1,(Ci 3)),(1,1,(Ci 4))]),true),(⟨none,.insert (true,[.int .i64,.int .i64]) (Tm 21) (Tm 25) (Ci 5),none⟩,true),(iM 26 21,false),(iF 27 0 4,true),(iL 28 27,true),(iM 29 2,true),(iA 30 (.build [(.int .i64 0),(.int .i64 0)] [(0,1,(Tm 28)),(1,1,(Tm 29))]),true),(iA 31 (.lookup (true,[.int .i64,.int .i64]) (.int .i64 0) (Tm 26) (Tm 30) true),false),(iM 20 31,false),(iE 32 20 0,false),(iE 33 20 1,false),(iM 8 32,false),(iM 9 33,false)]
def pF:Rg:=[iM 40 9,iA 41 (.un .not (Tm 40)),iM 39 41]
def pG:Rg:=[iA 42 (.build [(.int .i64 0),(.int .i64 0)] []),iS 2 6 42,iI 7 110]
def pH:Rg:=[iM 44 2,iC 45 .neq 44 3,iM 43 45]
def pI:Rg:=[iM 46 8,iF 47 0 4,iS 1 47 46]
def aOY:Rg:=[iF 49 1 4,iL 50 49,iM 51 0,iC 52 .sub 51 1,iB 53 .eql 50 52,iM 48 53]
def aOZ:Rg:=[iF 54 0 4,⟨none,.store 1 (Tm 54) (Ci 4),none⟩]
def aDK:Rg:=[iM 34 8,iF 35 1 4,iL 36 35,iC 37 .add 36 1,iA 38 (.build [(.int .i64 0),(.int .i64 0)] [(0,1,(Tm 34)),(1,1,(Tm 37))]),iS 2 4 38]
def mP:Rg:=[iO 55 2 4,iS 2 6 55,iI 7 0]
def NC:aB:=(sq aOV (.seq (sq aOW (.cond (Tm 18) (sq aiI .ret) .skip)) (dq aOX (.seq (.block 0 (sq pF (.cond (Tm 39) (sq pG .ret) (sq pH (.cond (Tm 43) (.region pI) (sq aOY (.cond (Tm 48) (.region aOZ) (.region aDK)))))))) (sq mP .ret)))))
def bdB:List Nat:=[]
def step:aW:=⟨3,56,NC,[.cell 6 (some 2),.tmp 7]⟩
def aOG:Rg:=[iT 4 false]
def aOH:Rg:=[iM 6 0,iN 7 6,iM 8 1,iN 9 8,iB 10 .neq 7 9]
def aOI:Rg:=[iT 4 false]
def aOJ:Rg:=[iI 5 0]
def aOK:Rg:=[iM 11 5,iM 12 0,iN 13 12,iB 14 .lss 11 13]
def aOL:Rd:=[(iM 17 0,false),(iM 18 5,false),(iX 19 1 17 18,false),(iL 20 19,false),(iM 21 1,false),(iM 22 5,false),(iX 23 1 21 22,false),(iL 24 23,false),(iB 25 .neq 20 24,false)]
def aOM:Rg:=[iT 4 false]
def aON:Rg:=[iM 15 5,iC 16 .add 15 1,iM 5 16]
def aOF:aB:=(.seq (sq aOK (.cond (Tm 14) .skip (.exit 0))) (.seq (.block 1 (dq aOL (.cond (Tm 25) (sq aOM .ret) .skip))) (.region aON)))
def aOO:Rg:=[iT 4 true]
def MT:aB:=(sq aOG (.seq (sq aOH (.cond (Tm 10) (sq aOI .ret) .skip)) (.seq (sq aOJ (.block 0 (.loop aOF))) (sq aOO .ret))))
def bcR:List Nat:=[]
def same:aW:=⟨2,26,MT,[.tmp 4]⟩
def aQM:Rg:=[iA 3 (.box true (Tm 1)),iZ 4]
def aQN:Rg:=[iF 7 0 3,iL 8 7,iC 9 .lss 8 1,iM 10 9,gF 11 0 3 10 false,gL 12 11 10 false,gC 13 .gtr 12 5 10 false,iQ 14 10 13,iM 15 14,gF 16 1 3 15 false,gL 17 16 15 false,gC 18 .lss 17 0 15 false,iQ 19 15 18]
def PY:Rg:=[iZ 4]
def PZ:Rg:=[iF 20 1 3,iL 21 20,iM 22 0,iN 23 22,iA 24 (.bvK false (Tm 21) (Tm 23)),iM 5 24]
def QA:Rg:=[iM 25 5,iM 26 0,iN 27 26,iB 28 .lss 25 27,iM 29 28,gF 30 0 3 29 true,gL 31 30 29 true,gC 32 .eql 31 3 29 true,gM 33 32 29 true,gF 34 0 3 33 false,gL 35 34 33 false,gC 36 .eql 35 4 33 false,iG 37 (.pick (Tm 33) (.const (.bool true)) (Tm 36)) 29 true,iP 38 29 37]
def aiN:Rg:=[iM 39 5,iC 40 .add 39 1,iM 5 40]
def aiO:Rg:=[iM 41 0,iM 42 5,iA 43 (.slice 1 (Tm 41) none (some (Tm 42)) none),iK 44 178 43,iM 6 44]
def QB:Rg:=[iM 45 6,iK 46 180 45]
def QC:Rg:=[iM 47 6,iK 48 177 47,iM 4 48]
def NR:aB:=(sq aQM (.seq (sq aQN (.cond (Tm 19) (sq PY .ret) .skip)) (sq PZ (.seq (sq QA (.cond (Tm 38) (.region aiN) .skip)) (sq aiO (sq QB (sq QC .ret)))))))
def bdP:List Nat:=[3]
def aFC:aW:=⟨2,49,NR,[.tmp 4]⟩
def asC:Rg:=[iA 2 (.alloc [(.int .i64 0),(.int .i64 0)])]
def asD:Rg:=[iM 3 0,iC 4 .lss 3 1]
def asE:Rg:=[iA 5 (.build [(.int .i64 0),(.int .i64 0)] [(0,1,(Ci 4))]),iS 2 2 5]
def asF:Rg:=[iA 6 (.build [(.int .i64 0),(.int .i64 0)] [(0,1,(Ci 1))]),iS 2 2 6]
def CI:aB:=(sq asC (.seq (sq asD (.cond (Tm 4) (sq asE .ret) .skip)) (sq asF .ret)))
def a3C:List Nat:=[]
def begin:aW:=⟨1,7,CI,[.cell 2 (some 2)]⟩
def aiZ:Rg:=[iZ 2]
def ajA:Rg:=[iI 3 0]
def ajB:Rg:=[iM 9 0,iN 10 9,iI 11 0]
def ajC:Rg:=[iB 12 .lss 11 10]
def ajD:Rg:=[iX 13 1 9 11,iL 14 13,iM 5 14]
def ajE:Rg:=[iM 15 3,iM 16 5,iN 17 16,iB 18 .add 15 17,iM 3 18]
def ajF:Rg:=[iM 19 3,iC 20 .lss 19 0]
def aXQ:Rg:=[iA 21 .stuck,⟨none,.stuck,none⟩]
def ajG:Rg:=[iC 22 .add 11 1,iM 11 22]
def aiY:aB:=(sq ajC (.seq (.cond (Tm 12) .skip (.exit 0)) (.seq (.block 1 (sq ajD (sq ajE (sq ajF (.cond (Tm 20) (.region aXQ) .skip))))) (.region ajG))))
def XF:Rg:=[iM 23 3,iA 24 (.call 179 [(.const .buJ),(Tm 23)]),iM 6 24]
def CM:Rg:=[iM 25 0,iN 26 25,iI 27 0]
def CN:Rg:=[iB 28 .lss 27 26]
def CO:Rg:=[iX 29 1 25 27,iL 30 29,iM 8 30]
def CP:Rg:=[iM 31 6,iM 32 8,iA 33 (.append 1 8 (Tm 31) (Tm 32)),iM 6 33]
def tD:Rg:=[iC 34 .add 27 1,iM 27 34]
def CL:aB:=(sq CN (.seq (.cond (Tm 28) .skip (.exit 2)) (.seq (.block 3 (sq CO (.region CP))) (.region tD))))
def tE:Rg:=[iM 35 6,iM 2 35]
def yA:aB:=(sq aiZ (sq ajA (.seq (sq ajB (.block 0 (.loop aiY))) (sq XF (.seq (sq CM (.block 2 (.loop CL))) (sq tE .ret))))))
def aXR:List Nat:=[]
def concat:aW:=⟨1,36,yA,[.tmp 2]⟩
def arV:Rg:=[iT 0 false]
def arW:Rg:=[iA 10 (.call 144 [(Ci 1)]),iA 1 (.alloc [(.int .i64 0),(.int .i64 0)]),iS 2 1 10]
def arX:Rg:=[iO 12 2 1,iA 13 (.call 145 [(Ci 1),(Tm 12),(Ci 1)]),iM 11 13,iE 14 11 0,iE 15 11 1,iA 2 (.alloc [(.int .i64 0),(.int .i64 0)]),iS 2 2 14,iM 3 15]
def arY:Rg:=[iO 17 2 2,iA 18 (.call 145 [(Ci 1),(Tm 17),(Ci 2)]),iM 16 18,iE 19 16 0,iE 20 16 1,iA 4 (.alloc [(.int .i64 0),(.int .i64 0)]),iS 2 4 19,iM 5 20]
def arZ:Rg:=[iO 22 2 4,iA 23 (.call 145 [(Ci 1),(Tm 22),(Ci 3)]),iM 21 23,iE 24 21 0,iE 25 21 1,iA 6 (.alloc [(.int .i64 0),(.int .i64 0)]),iS 2 6 24,iM 7 25]
def asA:Rg:=[iO 27 2 6,iA 28 (.call 145 [(Ci 1),(Tm 27),(Ci 1)]),iM 26 28,iE 29 26 0,iE 30 26 1,iA 8 (.alloc [(.int .i64 0),(.int .i64 0)]),iS 2 8 29,iM 9 30]
def asB:Rg:=[iO 31 2 1,iA 32 (.build [(.int .i64 0),(.int .i64 0)] [(0,1,(Ci 1))]),iA 33 (.eqs false [.int,.int] (Tm 31) (Tm 32)),iM 34 33,gM 35 3 34 true,gC 36 .eql 35 0 34 true,iP 37 34 36,iM 38 37,gM 39 5 38 true,gC 40 .eql 39 0 38 true,iP 41 38 40,iM 42 41,gM 43 7 42 true,gC 44 .eql 43 0 42 true,iP 45 42 44,iM 46 45,gM 47 9 46 true,gC 48 .eql 47 110 46 true,iP 49 46 48,iM 50 49,gO 51 2 6 50 true,iG 52 (.build [(.int .i64 0),(.int .i64 0)] [(0,1,(Ci 4))]) 50 true,iG 53 (.eqs false [.int,.int] (Tm 51) (Tm 52)) 50 true,iP 54 50 53,iM 55 54,iG 56 (.buO true 1 2 [(.int .i64 0)] [(0,(Ci 2)),(1,(Ci 1))]) 55 true,iG 57 (.buO true 1 1 [.buJ] [(0,(Tm 56))]) 55 true,gO 58 2 6 55 true,gK2 59 146 57 58 55 true,iG 60 (.buO true 1 2 [(.int .i64 0)] [(0,(Ci 1)),(1,(Ci 2))]) 55 true,gK2 61 91 59 60 55 true,iP 62 55 61,iM 63 62,iG 64 (.call 144 [(Ci 0)]) 63 true,iG 65 (.build [(.int .i64 0),(.int .i64 0)] [(0,1,(Ci 4))]) 63 true,iG 66 (.eqs false [.int,.int] (Tm 64) (Tm 65)) 63 true,iP 67 63 66,iM 0 67]
def CG:aB:=(sq arV (sq arW (sq arX (sq arY (sq arZ (sq asA (sq asB .ret)))))))
def a3A:List Nat:=[56,57,60]
def WW:aW:=⟨0,68,CG,[.tmp 0]⟩
def bfI:Rg:=[iA 5 (.box true (Tm 1)),iT 8 false]
def bfJ:Rg:=[iM 20 3,iN 21 20,iC 22 .gtr 21 20]
def bfK:Rg:=[iA 23 (.call 26 []),iM 8 23]
def bfL:Rg:=[iI 9 0]
def bfM:Rg:=[iM 24 9,iM 25 3,iN 26 25,iB 27 .lss 24 26]
def bfN:Rg:=[iM 30 3,iM 31 9,iX 32 1 30 31,iL 33 32,iN 34 33,iC 35 .gtr 34 20]
def bfO:Rg:=[iA 36 (.call 26 []),iM 8 36]
def bfP:Rg:=[iM 28 9,iC 29 .add 28 1,iM 9 29]
def bfH:aB:=(.seq (sq bfM (.cond (Tm 27) .skip (.exit 0))) (.seq (.block 1 (sq bfN (.cond (Tm 35) (sq bfO .ret) .skip))) (.region bfP)))
def bfQ:Rg:=[iM 37 0,iA 38 (.call 24 [(Tm 37),(Ci 5)]),iM 10 38]
def bbF:Rd:=[(iF 39 0 5,false),(iL 40 39,false),(iA 41 (.call 24 [(Tm 40),(Ci 5)]),true),(iA 42 (.bin .add (Ci 1) (Tm 41)),true),(iF 43 1 5,true),(iL 44 43,true),(iA 45 (.call 24 [(Tm 44),(Ci 5)]),true),(iA 46 (.build [(.int .i64 0),(.int .i64 0)] [(0,1,(Tm 42)),(1,1,(Tm 45))]),false),(iA 11 (.alloc [(.int .i64 0),(.int .i64 0)]),true),(iS 2 11 46,true)]
def bbG:Rg:=[iM 48 0,iO 49 2 5,iM 50 2,iA 51 (.call 145 [(Tm 48),(Tm 49),(Tm 50)]),iM 47 51,iE 52 47 0,iE 53 47 1,iA 12 (.alloc [(.int .i64 0),(.int .i64 0)]),iS 2 12 52,iM 13 53]
def bbH:Rg:=[iM 55 0,iO 56 2 5,iM 57 2,iA 58 (.call 92 [(Tm 55),(Tm 56),(Tm 57)]),iM 54 58,iE 59 54 0,iE 60 54 1,iA 14 (.alloc [(.int .i64 0),(.int .i64 0)]),iS 2 14 59,iM 15 60]
def bbI:Rd:=[(iM 62 10,true),(iO 63 2 11,true),(iM 64 2,false),(iA 65 (.call 24 [(Tm 64),(Ci 4)]),true),(iA 66 (.bin .add (Ci 1) (Tm 65)),false),(iA 67 (.call 145 [(Tm 62),(Tm 63),(Tm 66)]),true),(iM 61 67,false),(iE 68 61 0,false),(iE 69 61 1,true),(iA 16 (.alloc [(.int .i64 0),(.int .i64 0)]),true),(iS 2 16 68,true),(iM 17 69,false)]
def bbJ:Rd:=[(iM 71 10,true),(iO 72 2 11,true),(iM 73 2,false),(iA 74 (.call 24 [(Tm 73),(Ci 4)]),true),(iA 75 (.bin .add (Ci 1) (Tm 74)),false),(iA 76 (.call 92 [(Tm 71),(Tm 72),(Tm 75)]),true),(iM 70 76,false),(iE 77 70 0,false),(iE 78 70 1,true),(iA 18 (.alloc [(.int .i64 0),(.int .i64 0)]),true),(iS 2 18 77,true),(iM 19 78,false)]
def bbK:Rd:=[(iA 79 (.call 26 []),true),(iM 80 79,false),(gO 81 2 12 80 true,false),(gO 82 2 14 80 true,false),(iG 83 (.eqs false [.int,.int] (Tm 81) (Tm 82)) 80 true,false),(iP 84 80 83,false),(iM 85 84,false),(gM 86 13 85 true,false),(gM 87 15 85 true,false),(gB 88 .eql 86 87 85 true,false),(iP 89 85 88,false),(iM 90 89,false),(gO 91 2 16 90 true,false),(gO 92 2 18 90 true,false),(iG 93 (.eqs false [.int,.int] (Tm 91) (Tm 92)) 90 true,false),(iP 94 90 93,false),(iM 95 94,false),(gM 96 17 95 true,false),(gM 97 19 95 true,false),(gB 98 .eql 96 97 95 true,false),(iP 99 95 98,false),(iM 100 99,false),(gM 101 3 100 true,false),(gO 102 2 5 100 true,false),(gK2 103 146 101 102 100 true,true),(gM 104 3 100 true,true),(gO 105 2 5 100 true,true),(gK2 106 93 104 105 100 true,true),(gK2 107 91 103 106 100 true,true),(iP 108 100 107,false),(iM 109 108,false),(gM 110 3 109 true,false),(gO 111 2 11 109 true,false),(gK2 112 146 110 111 109 true,true),(gM 113 3 109 true,true),(gO 114 2 11 109 true,true),(gK2 115 93 113 114 109 true,true),(gK2 116 91 112 115 109 true,true),(iP 117 109 116,false),(iM 8 117,false)]
def a5C:aB:=(sq bfI (.seq (sq bfJ (.cond (Tm 22) (sq bfK .ret) .skip)) (.seq (sq bfL (.block 0 (.loop bfH))) (sq bfQ (dq bbF (sq bbG (sq bbH (dq bbI (dq bbJ (dq bbK .ret))))))))))
def law:aW:=⟨4,118,a5C,[.tmp 8]⟩
open Go Go.RowKit Go.Sort Go.Shelf Go.Proofs
section
variable {E:Env} {H:PH} {w:World}
theorem bH.WX (hW:bH E H w) {w':World} (hs:w.heap.size≤w'.heap.size) (hb:∀ b,b<w.heap.size→w'.heap[b]?=w.heap[b]?):bH E H w':=by
 refine⟨fun b cs h=>?_,fun o x h=>?_,fun o n h=>?_⟩
 ·obtain⟨h1,ty,fr,h2⟩:=hW.g b cs h
  exact⟨h1,ty,fr,(hb b (bzT.1 h2).1).trans h2⟩
 ·obtain⟨h1,h2⟩:=hW.h o x h
  exact⟨Nat.lt_of_lt_of_le h1 hs,h2.mono (.refl E) (hb o h1)⟩
 ·obtain⟨cur,ty,fr,h1,h2⟩:=hW.s o n h
  exact⟨cur,ty,fr,(hb o (bzT.1 h1).1).trans h1,h2⟩
theorem Ext.WX {E':Env} {H':PH} {w1 w2:World} (h:Ext E H w E' H' w1) (ho:w2.os=w1.os) (ht:w2.tape=w1.tape) (hp:w2.output=w1.output) (hs:w1.heap.size≤w2.heap.size)
  (hb:∀ b,b<w1.heap.size→w2.heap[b]?=w1.heap[b]?):Ext E H w E' H' w2 :=
 ⟨h.env,ho.trans h.os,ht.trans h.tape,hp.trans h.output,Nat.le_trans h.size hs,fun b hlt hn=>(hb b (Nat.lt_of_lt_of_le hlt h.size)).trans (h.block b hlt hn),h.new,h.newG⟩
theorem ZX (hW:bH E H w) {o off:Nat} {rs:List (List PV)} {xs:List Int} (ho:H o=some (.rows 1 rs)) (hx:(rs.drop off).take xs.length=bT xs):Holds (Value.int .i64) w o off xs.toArray:=by
 obtain⟨-,cur,ty,h1,h2,h3,h4,h5⟩:=hW.h o _ ho
 intro j hj
 have hj':j<xs.length:=by simpa using hj
 have hat:at2 rs (off+j) 0=some (.int .i64 xs[j]):=by
  have e:((rs.drop off).take xs.length)[j]?=(bT xs)[j]?:=by rw[hx]
  rw[List.getElem?_take_of_lt hj',bzV] at e
  unfold at2
  rw[e]
  simp[bT,hj']
 obtain⟨u,e1,e2,e3⟩:=h5 _ 0 _ hat
 cases e3
 have e4:xs.toArray[j]! = xs[j]:=by simp[hj']
 refine⟨?_,?_⟩
 ·simp only[World.cell?,h1,Option.isSome_none,bzN,if_false]
  rw[e4]
  simpa using e1
 ·simp[World.frozen?,h1]
theorem aNP (hW:bH E H w) {o:Nat} {xs ys:List Int} (ho:H o=some (.rows 1 (bT xs))) (hl:ys.length=xs.length) (n:Nat) (os:Array Obj) :
  bH E (H.set o (.rows 1 (bT ys))) (grow (putRow (Value.int .i64) (Sort.ahead w n) o 0 ys.toArray) os)∧Ext E H w E (H.set o (.rows 1 (bT ys))) (grow (putRow (Value.int .i64) (Sort.ahead w n) o 0 ys.toArray) os):=by
 obtain⟨-,cur,ty,h1,h2,h3,h4,h5⟩:=hW.h o _ ho
 have hlen:xs.length≤cur.size:=by simpa [bT] using h4
 have hR:hJ E 1 (bT ys) (putCells (Value.int .i64) 0 ys.toArray cur):=by
  refine⟨fun r hr=>?_,?_,fun i j pv hp=>?_⟩
  ·unfold bT at hr
   rw[bxV] at hr
   obtain⟨n,-,rfl⟩:=hr
   rfl
  ·simp[bT,putCells]; omega
  ·unfold at2 bT at hp
   rw[bxW,bzL] at hp
   obtain⟨r,hr,hp⟩:=hp
   rw[bwV] at hr
   obtain⟨m,hm,rfl⟩:=hr
   have hi:=(bxZ.1 hm).1
   cases j with
   | succ j=>simp at hp
   | zero =>
    simp at hp
    subst hp
    refine⟨.int .i64 m,?_,rfl,.int _ _⟩
    have hc:i<cur.size:=by omega
    simp only[Nat.mul_one,byB,putCells,Array.getElem?_mapIdx,bzM hc,bxS,bwZ,true_and,bxO,Nat.sub_zero,List.size_toArray]
    rw[if_pos hi]
    have:ys.toArray[i]! = m:=by
     obtain⟨h,e⟩:=bxZ.1 hm
     simp[h,e]
    rw[this]
 obtain⟨k1,k2⟩:=hW.aiG ho h1 (by simp[putCells]) hR
 have hheap:∀ b,b<(w.setRow o (putCells (Value.int .i64) 0 ys.toArray cur)).heap.size→(grow (putRow (Value.int .i64) (Sort.ahead w n) o 0 ys.toArray) os).heap[b]?=(w.setRow o (putCells (Value.int .i64) 0 ys.toArray cur)).heap[b]?:=by
  intro b hb
  have hb':b<w.heap.size:=by simpa [World.setRow] using hb
  have e1:(grow (putRow (Value.int .i64) (Sort.ahead w n) o 0 ys.toArray) os).heap[b]?=(putRow (Value.int .i64) (Sort.ahead w n) o 0 ys.toArray).heap[b]?:=by
   unfold grow
   exact Array.getElem?_append_left (by simpa using hb')
  rw[e1]
  simp only[putRow,mapBlock,World.setRow,Array.getElem?_modify,heap_ahead]
  by_cases e:o=b
  ·subst e
   simp[h1,onCells]
  ·simp[e]
 have hsize:(w.setRow o (putCells (Value.int .i64) 0 ys.toArray cur)).heap.size≤(grow (putRow (Value.int .i64) (Sort.ahead w n) o 0 ys.toArray) os).heap.size:=by
  simp[World.setRow]
 exact⟨k1.WX hsize hheap,k2.WX rfl rfl rfl hsize hheap⟩
end
section
variable {C:Ctx} {ρ:Ren} {name:Nat}
def sorted (xs:List Int):List Int:=xs.mergeSort fun x y=>decide (x≤y)
theorem aWD (L:Lays.n189 C.P ρ) (hn:C.num name=ρ.f 189) (hf:∃ fn,C.P.funcs[C.num name]?=some fn∧fn.body.isSome=true∧(fn.name=="runtime.NumGoroutine")=false) (o:Nat) (xs:List Int) (hx:xs≠[]) (hl:xs.length<4611686018427387904) :
  aE C name [.osl o 1 0 xs.length] (PH.nil.set o (.rows 1 (bT xs))) (fun r H'=>r=.tup []∧H'=PH.nil.set o (.rows 1 (bT (sorted xs)))):=by
 refine⟨hf,fun E w vs hN hW hvs=>?_⟩
 have ho:(PH.nil.set o (.rows 1 (bT xs))) o=some (.rows 1 (bT xs)):=by simp[bQ]
 obtain⟨vl⟩:=vs
 cases hvs with
 | cons h1 h2 =>
 cases h2
 cases h1 with
 | @osl _ _ _ _ cap n a hb hsp bwJ hlen bwE hs bvP =>
 have hcap:cap≠0:=by
  intro e; subst e
  exact hx (bzY Om)
 have ha:a=⟨o,0,none⟩:=by
  obtain⟨b,off,sp⟩:=a
  simp only at hb hsp bwJ
  subst hb; subst hsp
  rcases bwJ with h | h
  ·exact (hcap h).elim
  ·simp at h; subst h; rfl
 subst ha
 rw[hn]
 have hH:=ZX hW (off:=0) (xs:=xs) ho (by rw[bxP]; exact bxC (by simp[bT]))
 refine (Any.slices_Sort_int L o 0 cap xs w hH (hW.h o _ ho).1 hl).mono fun e w' he=>?_
 obtain⟨rfl,n,os,rfl⟩:=he
 obtain⟨k1,k2⟩:=aNP hW ho (ys:=sorted xs) (by simp[sorted]) n os
 rw[show (PH.nil.set o (.rows 1 (bT xs))).set o (.rows 1 (bT (sorted xs)))=PH.nil.set o (.rows 1 (bT (sorted xs))) from PH.ext fun q=>by simp only[bQ]; split<;>rfl] at k1 k2
 exact⟨_,.tup [],E,_,rfl,k1,.tup #[] rfl (by simp),k2,rfl,rfl⟩
theorem aIB (L:Lays.n189 C.P ρ) (hn:C.num name=ρ.f 189) (hf:∃ fn,C.P.funcs[C.num name]?=some fn∧fn.body.isSome=true∧(fn.name=="runtime.NumGoroutine")=false) (v:PV) (H:PH)
  (hv:v=.buJ∨∃ o off,v=.osl o 1 off 0):aE C name [v] H (fun r H'=>r=.tup []∧H'=H):=by
 refine⟨hf,fun E w vs hN hW hvs=>?_⟩
 obtain⟨vl⟩:=vs
 cases hvs with
 | cons h1 h2 =>
 cases h2
 rename_i u
 have:∃ p cap,u=.slice p 0 cap:=by
  rcases hv with rfl | ⟨o,off,rfl⟩
  ·cases h1; exact⟨none,0,rfl⟩
  ·cases h1; exact⟨_,_,rfl⟩
 obtain⟨p,cap,rfl⟩:=this
 rw[hn]
 refine (Any.slices_Sort_int_none L p cap w).mono fun e w' he=>?_
 obtain⟨rfl,rfl⟩:=he
 exact⟨_,.tup [],E,_,rfl,hW,.tup #[] rfl (by simp),.refl _ _ _,rfl,rfl⟩
theorem aqH (L:Lays2.n20 C.P ρ) (hn:C.num name=ρ.f 20) (hf:∃ fn,C.P.funcs[C.num name]?=some fn∧fn.body.isSome=true∧(fn.name=="runtime.NumGoroutine")=false) (o:Nat) (xs:List Int) (hx:xs≠[]) (hl:xs.length<4611686018427387904) :
  aE C name [.osl o 1 0 xs.length] (PH.nil.set o (.rows 1 (bT xs))) (fun r H'=>r=.osl o 1 0 (Lib.compact xs).length∧H'=PH.nil.set o (.rows 1 (bT (Lib.compact xs++bwP (xs.length-(Lib.compact xs).length) 0)))):=by
 refine⟨hf,fun E w vs hN hW hvs=>?_⟩
 have ho:(PH.nil.set o (.rows 1 (bT xs))) o=some (.rows 1 (bT xs)):=by simp[bQ]
 obtain⟨vl⟩:=vs
 cases hvs with
 | cons h1 h2 =>
 cases h2
 cases h1 with
 | @osl _ _ _ _ cap n a hb hsp bwJ hlen bwE hs bvP =>
 have hcap:cap≠0:=by
  intro e; subst e
  exact hx (bzY Om)
 have ha:a=⟨o,0,none⟩:=by
  obtain⟨b,off,sp⟩:=a
  simp only at hb hsp bwJ
  subst hb; subst hsp
  rcases bwJ with h | h
  ·exact (hcap h).elim
  ·simp at h; subst h; rfl
 subst ha
 rw[hn]
 have hH:=ZX hW (off:=0) (xs:=xs) ho (by rw[bxP]; exact bxC (by simp[bT]))
 have hle:(Lib.compact xs).length≤xs.length:=by
  unfold Lib.compact Lib.compactUpTo
  have:=List.length_filter_le (Lib.keeps xs.toArray) (bwO xs.length)
  simpa using this
 refine (Any.slices_Compact_int L o 0 cap xs w hH Om hlen).mono fun e w' he=>?_
 obtain⟨rfl,n,rfl⟩:=he
 have key:=aNP hW ho (ys:=Lib.compact xs++bwP (xs.length-(Lib.compact xs).length) 0) (by simp; omega) n #[]
 rw[grow_empty] at key
 obtain⟨k1,k2⟩:=key
 rw[show ∀ z,(PH.nil.set o (.rows 1 (bT xs))).set o (.rows 1 z)=PH.nil.set o (.rows 1 z) from fun z=>PH.ext fun q=>by simp only[bQ]; split<;>rfl] at k1 k2
 exact⟨_,.osl o 1 0 _,E,_,rfl,k1,.osl rfl rfl (.inr (by simp)) Om bwE hs bvP,k2,rfl,rfl⟩
theorem agI (L:Lays2.n20 C.P ρ) (hn:C.num name=ρ.f 20) (hf:∃ fn,C.P.funcs[C.num name]?=some fn∧fn.body.isSome=true∧(fn.name=="runtime.NumGoroutine")=false) (v:PV) (H:PH)
  (hv:v=.buJ∨∃ o off,v=.osl o 1 off 0):aE C name [v] H (fun r H'=>r=v∧H'=H):=by
 refine⟨hf,fun E w vs hN hW hvs=>?_⟩
 obtain⟨vl⟩:=vs
 cases hvs with
 | cons h1 h2 =>
 cases h2
 rename_i u
 have:∃ p cap,u=.slice p 0 cap:=by
  rcases hv with rfl | ⟨o,off,rfl⟩
  ·cases h1; exact⟨none,0,rfl⟩
  ·cases h1; exact⟨_,_,rfl⟩
 obtain⟨p,cap,rfl⟩:=this
 rw[hn]
 refine (Any.slices_Compact_int_empty L p cap w).mono fun e w' he=>?_
 obtain⟨rfl,rfl⟩:=he
 exact⟨_,v,E,_,rfl,hW,h1,.refl _ _ _,rfl,rfl⟩
end
abbrev lists (ws:List (List Int)):PV:=.sl 1 (ws.map fun w=>[ints w])
def aSM (xs:List Int) (r:PV) (H:PH):Prop:=(xs=[]∧r=.buJ∧H=.nil)∨(xs≠[]∧∃ o,r=.osl o 1 0 xs.length∧H=PH.nil.set o (.rows 1 (bT xs)))
def a8N (n:Int) (r:PV) (H:PH):Prop:=(n=0∧r=.buJ∧H=.nil)∨(0<n∧∃ o,r=.osl o 1 0 0∧H=PH.nil.set o (.rows 1 []))
def aTB (ws:List (List Int)) (i:Nat):PF:=((((((PF.nil.set 0 (lists ws)).set 2 (.buJ)).set 3 (.int .i64 ((ws.take i).flatten.length:Nat))).set 9 (lists ws)).set 10 (.int .i64 (ws.length:Nat))).set 11 (.int .i64 i))
def CJ (ws:List (List Int)) (v:PV) (i:Nat):PF:=(((((PF.nil.set 2 (.buJ)).set 6 (v)).set 25 (lists ws)).set 26 (.int .i64 (ws.length:Nat))).set 27 (.int .i64 i))
theorem akF (ws:List (List Int)) {i:Nat} (h:i<ws.length):(ws.take (i+1)).flatten=(ws.take i).flatten++ws[i]:=by
 rw[byH h,List.flatten_append]; simp
theorem agP (ws:List (List Int)) (i:Nat):(ws.take i).flatten.length≤ws.flatten.length:=by
 conv=>rhs; rw[← byX i ws,List.flatten_append,bwW]
 omega
theorem aXP {C:Ctx} (ws:List (List Int)) (h1:ws.length≤1000000) (h2:ws.flatten.length≤1000000) (hg:∀ n:Int,0≤n→n≤1000000→aE C 179 [.buJ,.int .i64 n] .nil (a8N n)) :
  yA.wp C (aS concat.res (aSM ws.flatten)) (PF.args [lists ws]) .nil:=by
 simp only[go_sem,γ,δ,ε,ζ,η,θ,ι,κ,μ,ν,ξ,ο,ρ,σ,τ,υ,reduceIte,reduceCtorEq,yA,aiZ,ajA,ajB,lists,concat]
 refine wp_loop (α:=Nat) (aTB ws) (fun _=>.nil) (fun i=>i≤ws.length) (fun i=>ws.length-i) 0 Om ?_ PH.nil_le ?_
 ·unfold aTB
  exact Lq
 intro i hi
 simp only[go_sem,γ,δ,ε,ζ,η,θ,ι,κ,μ,ν,ξ,ο,ρ,σ,τ,υ,reduceIte,reduceCtorEq,aiY,ajC,aTB]
 refine kB (fun h=>?_) (fun h=>?_)
 ·have hlt:i<ws.length:=by simpa using h
  have hx:(ws.map fun w=>[ints w])[i]?=some [ints ws[i]]:=by simp[hlt]
  have hf:=akF ws hlt
  have hle:=agP ws (i+1)
  have hlen:(ws.take (i+1)).flatten.length=(ws.take i).flatten.length+ws[i].length:=by rw[hf,bwW]
  have hw:IntKind.i64.wrap (((ws.take i).flatten.length:Nat)+(ws[i].length:Int))=((ws.take (i+1)).flatten.length:Nat):=by
   rw[hlen]
   rw[show (((ws.take i).flatten.length:Nat):Int)+(ws[i].length:Int)=(((ws.take i).flatten.length+ws[i].length:Nat):Int) by omega]
   exact wM Om
  have hn:¬ (((ws.take (i+1)).flatten.length:Nat):Int)<0:=by omega
  simp only[go_sem,γ,δ,ε,ζ,η,θ,ι,κ,μ,ν,ξ,ο,ρ,σ,τ,υ,reduceIte,reduceCtorEq,ajD,ajE,hx,hw,ajF,hn,ajG]
  refine aJ (i+1) Om Om ?_ PH.nil_le
  unfold aTB
  (repeat' (first|exact PF.nil_le|refine PF.aH ?_ ?_))<;>first|(simp only[go_sem,γ,δ,ε,ζ,η,θ,ι,κ,μ,ν,ξ,ο,ρ,σ,τ,υ,reduceIte,reduceCtorEq,wZz i]<;>rfl)|rfl
 ·have he:i=ws.length:=by simp at h; omega
  subst he
  have ht:(ws.take ws.length).flatten=ws.flatten:=by rw[bxM]
  simp only[go_sem,γ,δ,ε,ζ,η,θ,ι,κ,μ,ν,ξ,ο,ρ,σ,τ,υ,reduceIte,reduceCtorEq,XF,ht]
  refine fA (hg (ws.flatten.length:Nat) Om Om) Ev PH.nil_le ?_
  intro r H' hr ha
  rcases hr with ⟨hn,rfl,rfl⟩ | ⟨hn,o,rfl,rfl⟩
  ·have h0:ws.flatten=[]:=bzY Om
   rw[PH.kZ]
   simp only[go_sem,γ,δ,ε,ζ,η,θ,ι,κ,μ,ν,ξ,ο,ρ,σ,τ,υ,reduceIte,reduceCtorEq,CM]
   refine wp_loop (α:=Nat) (CJ ws .buJ) (fun _=>.nil) (fun i=>i≤ws.length) (fun i=>ws.length-i) 0 Om ?_ PH.nil_le ?_
   ·unfold CJ
    exact Lq
   intro i hi
   simp only[go_sem,γ,δ,ε,ζ,η,θ,ι,κ,μ,ν,ξ,ο,ρ,σ,τ,υ,reduceIte,reduceCtorEq,CL,CN,CJ]
   refine kB (fun h=>?_) (fun h=>?_)
   ·have hlt:i<ws.length:=by simpa using h
    have hx:(ws.map fun w=>[ints w])[i]?=some [ints ws[i]]:=by simp[hlt]
    have he:ws[i]=[]:=by
     rw[List.flatten_eq_nil_iff] at h0
     exact h0 _ (bwS _)
    simp only[go_sem,γ,δ,ε,ζ,η,θ,ι,κ,μ,ν,ξ,ο,ρ,σ,τ,υ,reduceIte,reduceCtorEq,CO,CP,hx,he]
    refine wK (src:=[]) rfl (by unfold roomFor; simp) (fun _=>?_) (fun h=>(h rfl).elim)
    simp only[go_sem,γ,δ,ε,ζ,η,θ,ι,κ,μ,ν,ξ,ο,ρ,σ,τ,υ,reduceIte,reduceCtorEq,tD]
    refine aJ (i+1) Om Om ?_ PH.nil_le
    unfold CJ
    (repeat' (first|exact PF.nil_le|refine PF.aH ?_ ?_))<;>first|(simp only[go_sem,γ,δ,ε,ζ,η,θ,ι,κ,μ,ν,ξ,ο,ρ,σ,τ,υ,reduceIte,reduceCtorEq,wZz i]<;>rfl)|rfl
   ·simp only[go_sem,γ,δ,ε,ζ,η,θ,ι,κ,μ,ν,ξ,ο,ρ,σ,τ,υ,reduceIte,reduceCtorEq,tE]
    exact aU (.inr rfl) .nil Ev PH.nil_le (.inl ⟨h0,rfl,rfl⟩)
  ·have h0:ws.flatten≠[]:=by intro e; rw[e] at hn; simp at hn
   rw[PH.kO]
   simp only[go_sem,γ,δ,ε,ζ,η,θ,ι,κ,μ,ν,ξ,ο,ρ,σ,τ,υ,reduceIte,reduceCtorEq,CM]
   refine wp_loop (α:=Nat × Nat) (fun a=>CJ ws (.osl a.2 1 0 (ws.take a.1).flatten.length) a.1) (fun a=>PH.nil.set a.2 (.rows 1 (bT (ws.take a.1).flatten))) (fun a=>a.1≤ws.length) (fun a=>ws.length-a.1) (0,o) (by simp) ?_ ?_ ?_
   ·unfold CJ
    exact Lq
   ·exact PH.aH PH.nil_le (by simp only[go_sem,γ,δ,ε,ζ,η,θ,ι,κ,μ,ν,ξ,ο,ρ,σ,τ,υ,reduceIte,reduceCtorEq]; rfl)
   rintro⟨i,q⟩ hi
   simp only[go_sem,γ,δ,ε,ζ,η,θ,ι,κ,μ,ν,ξ,ο,ρ,σ,τ,υ,reduceIte,reduceCtorEq,CL,CN,CJ]
   simp only at hi
   refine kB (fun h=>?_) (fun h=>?_)
   ·have hlt:i<ws.length:=by simpa using h
    have hx:(ws.map fun w=>[ints w])[i]?=some [ints ws[i]]:=by simp[hlt]
    have hf:=akF ws hlt
    have hle:=agP ws (i+1)
    have hlen:(ws.take (i+1)).flatten.length=(ws.take i).flatten.length+ws[i].length:=by rw[hf,bwW]
    have hrows:(bT (ws.take i).flatten).take (ws.take i).flatten.length++(ws[i].map fun n=>[PV.int .i64 n])=bT (ws.take (i+1)).flatten:=by
     rw[bxC (by unfold bT; rw[bwN]; exact bwR _),hf]; unfold bT; rw[bzD]
    have fin:∀ (q':Nat) (H':PH),H' q'=some (.rows 1 (bT (ws.take (i+1)).flatten))→∀ F':PF,F' 2=some .buJ→F' 6=some (.osl q' 1 0 (ws.take (i+1)).flatten.length)→F' 25=some (lists ws)→F' 26=some (.int .i64 ws.length)→F' 27=some (.int .i64 ((i+1:Nat):Int)) →
      eA (fun a:Nat × Nat=>CJ ws (.osl a.2 1 0 (ws.take a.1).flatten.length) a.1) (fun a=>PH.nil.set a.2 (.rows 1 (bT (ws.take a.1).flatten))) (fun a=>a.1≤ws.length) (fun a=>ws.length-a.1) (ws.length-i) (dR 2 (gW C (aB.wp C ((aB.region tE).seq aB.ret)) (aS [.tmp 2] (aSM ws.flatten)))) .normal F' H':=by
     intro q' H' e1 F' f2 f6 f25 f26 f27
     refine aJ (i+1,q') (by simp only; omega) (by simp only; omega) ?_ (PH.aH PH.nil_le e1)
     unfold CJ
     exact PF.aH (PF.aH (PF.aH (PF.aH (PF.aH PF.nil_le f2) f6) f25) f26) f27
    simp only[go_sem,γ,δ,ε,ζ,η,θ,ι,κ,μ,ν,ξ,ο,ρ,σ,τ,υ,reduceIte,reduceCtorEq,CO,CP,hx]
    refine OI (src:=ws[i].map fun n=>[PV.int .i64 n]) (rs:=bT (ws.take i).flatten) rfl (by unfold roomFor; rw[bwN]; simp only[maxLen]; omega) Sq (by unfold bT; rw[bwN]; exact bwR _) ?_ ?_
    ·rw[hrows,bwN,← hlen]
     simp only[go_sem,γ,δ,ε,ζ,η,θ,ι,κ,μ,ν,ξ,ο,ρ,σ,τ,υ,reduceIte,reduceCtorEq,tD,wZz i]
     exact fin q _ Sq _ Sq Sq Sq Sq Sq
    ·intro q' hq'
     rw[hrows,bwN,← hlen]
     simp only[go_sem,γ,δ,ε,ζ,η,θ,ι,κ,μ,ν,ξ,ο,ρ,σ,τ,υ,reduceIte,reduceCtorEq,tD,wZz i]
     exact fin q' _ Sq _ Sq Sq Sq Sq Sq
   ·have he:i=ws.length:=by simp at h; omega
    subst he
    simp only[go_sem,γ,δ,ε,ζ,η,θ,ι,κ,μ,ν,ξ,ο,ρ,σ,τ,υ,reduceIte,reduceCtorEq,tE]
    refine aU (.inr rfl) (PH.nil.set q (.rows 1 (bT ws.flatten))) Ev (PH.aH PH.nil_le (by simp only[go_sem,γ,δ,ε,ζ,η,θ,ι,κ,μ,ν,ξ,ο,ρ,σ,τ,υ,reduceIte,reduceCtorEq,ht])) (.inr ⟨h0,q,?_,rfl⟩)
    simp only[aT,ht]
end Go.PM
namespace Go.RO
open Go
theorem JN:∀ {a b:List Int},a.Pairwise (· < ·)→b.Pairwise (· < ·)→(∀ y,y∈a↔y∈b)→a=b
 | [],[],_,_,_=>rfl
 | [],y::ys,_,_,h=>by have:=(h y).2 (by simp); simp at this
 | x::xs,[],_,_,h=>by have:=(h x).1 (by simp); simp at this
 | x::xs,y::ys,ha,hb,h=>by
  rw[List.pairwise_cons] at ha hb
  have e:x=y:=by
   have h1:=(h x).1 (by simp)
   have h2:=(h y).2 (by simp)
   rw[bxF] at h1 h2
   rcases h1 with h1 | h1
   ·exact h1
   ·rcases h2 with h2 | h2
    ·exact h2.symm
    ·have:=hb.1 x h1; have:=ha.1 y h2; omega
  subst e
  rw[JN ha.2 hb.2 fun z=>?_]
  constructor
  ·intro hz
   have h1:=(h z).1 (by simp[hz])
   rw[bxF] at h1
   rcases h1 with rfl | h1
   ·have:=ha.1 z hz; omega
   ·exact h1
  ·intro hz
   have h1:=(h z).2 (by simp[hz])
   rw[bxF] at h1
   rcases h1 with rfl | h1
   ·have:=hb.1 z hz; omega
   ·exact h1
def ins (x:Int):List Int→List Int
 | []=>[x]
 | y::ys=>if y<x then y::ins x ys else if y=x then y::ys else x::y::ys
theorem agZ (x z:Int):∀ l,z∈ins x l↔z=x∨z∈l
 | []=>by simp[ins]
 | y::ys=>by
  unfold ins
  split
  ·simp only[bxF,agZ x z ys]
   constructor
   ·rintro (h | h | h)<;>simp[h]
   ·rintro (h | h | h)<;>simp[h]
  ·split
   ·rename_i e; subst e; simp
   ·simp
theorem aaB (x:Int):∀ l:List Int,l.Pairwise (· < ·)→(ins x l).Pairwise (· < ·)
 | [],_=>by simp[ins]
 | y::ys,h=>by
  rw[List.pairwise_cons] at h
  unfold ins
  split
  ·rename_i hlt
   rw[List.pairwise_cons]
   refine⟨fun z hz=>?_,aaB x ys h.2⟩
   rcases (agZ x z ys).1 hz with rfl | hz
   ·exact hlt
   ·exact h.1 z hz
  ·rename_i h1
   split
   ·rw[List.pairwise_cons]; exact h
   ·rename_i h2
    rw[List.pairwise_cons,List.pairwise_cons]
    refine⟨fun z hz=>?_,h⟩
    rw[bxF] at hz
    rcases hz with rfl | hz
    ·omega
    ·have:=h.1 z hz; omega
def sH (out:List Int) (xs:List Int):List Int:=xs.foldl (fun o x=>ins x o) out
theorem aaA (z:Int):∀ (xs out:List Int),z∈sH out xs↔z∈out∨z∈xs
 | [],out=>by simp[sH]
 | x::xs,out=>by
  have:=aaA z xs (ins x out)
  unfold sH at this ⊢
  rw[List.foldl_cons,this,agZ,bxF]
  constructor
  ·rintro ((h | h) | h)<;>simp[h]
  ·rintro (h | h | h)<;>simp[h]
theorem IN:∀ (xs out:List Int),out.Pairwise (· < ·)→(sH out xs).Pairwise (· < ·)
 | [],out,h=>h
 | x::xs,out,h=>IN xs (ins x out) (aaB x out h)
def srt (xs:List Int):List Int:=xs.mergeSort fun x y=>decide (x≤y)
theorem agJ {zs:List Int} (h:zs.Pairwise (·≤·)):(Lib.compact zs).Pairwise (· < ·):=by
 unfold Lib.compact Lib.compactUpTo
 rw[List.pairwise_map]
 have hr:(bwO zs.length).Pairwise (· < ·):=List.pairwise_lt_range
 have hf:=hr.filter (Lib.keeps zs.toArray)
 refine hf.imp_of_mem fun {i j} hi hj hij=>?_
 rw[List.mem_filter,byD] at hi hj
 obtain⟨hj1,hj2⟩:=hj
 have k:zs[j]!≠zs[j-1]!:=by
  simp only[Lib.keeps,decide_eq_true_eq] at hj2
  rcases hj2 with h0 | h0
  ·omega
  ·simpa using h0
 have e1:zs[j]! = zs[j]:=by simp[hj1]
 have e2:zs[j-1]! = zs[j-1]:=by simp[show j-1<zs.length by omega]
 have h1:zs[i]≤zs[j-1]:=by
  rcases bxG i (j-1) with hlt | hge
  ·exact List.pairwise_iff_getElem.1 h i (j-1) hi.1 Om hlt
  ·have:i=j-1:=by omega
   subst this
   exact Int.le_refl _
 have h2:zs[j-1]≤zs[j]:=List.pairwise_iff_getElem.1 h (j-1) j Om hj1 Om
 rw[e1,e2] at k
 simp only[List.getElem!_toArray]
 rw[e1,show zs[i]! = zs[i] by simp[hi.1]]
 omega
theorem aHN (zs:List Int) (y:Int):y∈Lib.compact zs↔y∈zs:=by
 unfold Lib.compact Lib.compactUpTo
 rw[bxV]
 constructor
 ·rintro⟨i,hi,rfl⟩
  rw[List.mem_filter,byD] at hi
  simp only[List.getElem!_toArray]
  rw[show zs[i]! = zs[i] by simp[hi.1]]
  exact bwS _
 ·intro hy
  obtain⟨i,hi,rfl⟩:=byP hy
  have key:∀ i,i<zs.length→∃ k,k≤i∧Lib.keeps zs.toArray k=true∧zs[k]! = zs[i]!:=by
   intro i
   induction i with
   | zero=>intro _; exact⟨0,bwR _,by simp[Lib.keeps],rfl⟩
   | succ i ih =>
    intro hi
    by_cases e:zs[i+1]! = zs[i]!
    ·obtain⟨k,h1,h2,h3⟩:=ih Om
     exact⟨k,by omega,h2,h3.trans e.symm⟩
    ·exact⟨i+1,bwR _,by simp[Lib.keeps]; simpa using e,rfl⟩
  obtain⟨k,h1,h2,h3⟩:=key i hi
  refine⟨k,?_,?_⟩
  ·rw[List.mem_filter,byD]; exact⟨by omega,h2⟩
  ·simp only[List.getElem!_toArray]
   rw[h3]; simp[hi]
theorem aWF (xs:List Int):(srt xs).Pairwise (·≤·):=by
 have:=List.pairwise_mergeSort (le:=fun x y:Int=>decide (x≤y)) (fun a b c h1 h2=>by simp at *; omega) (fun a b=>by simp; omega) xs
 exact this.imp (by simp)
theorem bcZ (xs:List Int) (y:Int):y∈srt xs↔y∈xs:=by simp[srt]
theorem aHO (xs:List Int):Lib.compact (srt xs)=sH [] xs :=
 JN (agJ (aWF xs)) (IN xs [] .nil) fun y=>by
  rw[aHN,bcZ,aaA]; simp
end Go.RO
namespace Go.PM
open Go
def wi (x n:Int):Int:=if n<1 then 0 else if x.tmod n<0 then x.tmod n+n else x.tmod n
theorem aUP {C:Ctx} (x n:Int) (hn:InK .i64 n):vM.wp C (aS BE.res (aC (.int .i64 (wi x n)))) (PF.args [.int .i64 x,.int .i64 n]) .nil:=by
 simp only[go_sem,γ,δ,ε,ζ,η,θ,ι,κ,μ,ν,ξ,ο,ρ,σ,τ,υ,reduceIte,reduceCtorEq,vM,aaH,aaI,BE]
 refine kB (fun h=>?_) (fun h=>?_)
 ·simp only[go_sem,γ,δ,ε,ζ,η,θ,ι,κ,μ,ν,ξ,ο,ρ,σ,τ,υ,reduceIte,reduceCtorEq,aaJ]
  refine aI (.inr rfl) Ev ?_
  simp only[decide_eq_true_eq] at h
  simp[aT,wi,h]
 ·simp only[decide_eq_false_iff_not] at h
  have h0:n≠0:=by omega
  simp only[go_sem,γ,δ,ε,ζ,η,θ,ι,κ,μ,ν,ξ,ο,ρ,σ,τ,υ,reduceIte,reduceCtorEq,aaK,aaL,h0]
  refine kB (fun h2=>?_) (fun h2=>?_)
  ·simp only[decide_eq_true_eq] at h2
   simp only[go_sem,γ,δ,ε,ζ,η,θ,ι,κ,μ,ν,ξ,ο,ρ,σ,τ,υ,reduceIte,reduceCtorEq,aaM]
   refine aI (.inr rfl) Ev ?_
   have h3:=Int.lt_tmod_of_pos x (Om:0<n)
   have:=hn.2
   have e:IntKind.i64.max=9223372036854775807:=by decide
   simp only[aT,wi,if_neg h,if_pos h2]
   rw[wrap_i64 Om Om]
  ·simp only[decide_eq_false_iff_not] at h2
   simp only[go_sem,γ,δ,ε,ζ,η,θ,ι,κ,μ,ν,ξ,ο,ρ,σ,τ,υ,reduceIte,reduceCtorEq,aaN]
   refine aI (.inr rfl) Ev ?_
   simp only[aT,wi,if_neg h,if_neg h2]
def AV (n:Int):PV:=.agg [.int .i64 (if n<1 then 4 else 1),.int .i64 0]
theorem a3B {C:Ctx} (n:Int):CI.wp C (aS begin.res (aC (AV n))) (PF.args [.int .i64 n]) .nil:=by
 simp only[go_sem,γ,δ,ε,ζ,η,θ,ι,κ,μ,ν,ξ,ο,ρ,σ,τ,υ,reduceIte,reduceCtorEq,CI,asC,begin]
 refine aP fun o ho=>?_
 simp only[go_sem,γ,δ,ε,ζ,η,θ,ι,κ,μ,ν,ξ,ο,ρ,σ,τ,υ,reduceIte,reduceCtorEq,asD]
 refine kB (fun h=>?_) (fun h=>?_)
 ·simp only[go_sem,γ,δ,ε,ζ,η,θ,ι,κ,μ,ν,ξ,ο,ρ,σ,τ,υ,reduceIte,reduceCtorEq,asE]
  refine aI (.inr rfl) Ev ?_
  simp only[decide_eq_true_eq] at h
  simp[aT,AV,h]
 ·simp only[go_sem,γ,δ,ε,ζ,η,θ,ι,κ,μ,ν,ξ,ο,ρ,σ,τ,υ,reduceIte,reduceCtorEq,asF]
  refine aI (.inr rfl) Ev ?_
  simp only[decide_eq_false_iff_not] at h
  simp[aT,AV,h]
def mB (n p w e:Int):(Int × Int) × Int :=
 if w<0∨w≥n then ((0,0),110)
 else if p=1∧e=1 then ((2,w),0)
 else if p=2∧e=2 then ((3,w),0)
 else if p=3∧e=3∧w=IntKind.i64.wrap (n-1) then ((4,w),0)
 else if p=3∧e=3 then ((1,IntKind.i64.wrap (w+1)),0)
 else if p=3∧e=4 then ((5,w),0)
 else ((0,0),110)
def stV (x:Int × Int):PV:=.agg [.int .i64 x.1,.int .i64 x.2]
def mC (x:(Int × Int) × Int):PV:=.tup [stV x.1,.int .i64 x.2]
theorem bdA {C:Ctx} (n p w e:Int):NC.wp C (aS step.res (aC (mC (mB n p w e)))) (PF.args [.int .i64 n,.agg [.int .i64 p,.int .i64 w],.int .i64 e]) .nil:=by
 simp only[go_sem,γ,δ,ε,ζ,η,θ,ι,κ,μ,ν,ξ,ο,ρ,σ,τ,υ,reduceIte,reduceCtorEq,NC,aOV,step]
 refine aP fun o4 ho4=>?_
 simp only[go_sem,γ,δ,ε,ζ,η,θ,ι,κ,μ,ν,ξ,ο,ρ,σ,τ,υ,reduceIte,reduceCtorEq]
 refine aP fun o6 ho6=>?_
 have n64:¬ o6=o4:=(cS.1 ho6).1
 have n46:¬ o4=o6:=fun h=>n64 h.symm
 simp only[go_sem,γ,δ,ε,ζ,η,θ,ι,κ,μ,ν,ξ,ο,ρ,σ,τ,υ,reduceIte,reduceCtorEq,aOW,n64,n46]
 by_cases h1:w<0
 ·simp only[go_sem,γ,δ,ε,ζ,η,θ,ι,κ,μ,ν,ξ,ο,ρ,σ,τ,υ,reduceIte,reduceCtorEq,h1,aiI,n64,n46]
  refine aI (.inr rfl) Ev ?_
  simp[aT,mB,h1,mC,stV]
 simp only[go_sem,γ,δ,ε,ζ,η,θ,ι,κ,μ,ν,ξ,ο,ρ,σ,τ,υ,reduceIte,reduceCtorEq,h1,n64,n46]
 by_cases h2:w≥n
 ·simp only[go_sem,γ,δ,ε,ζ,η,θ,ι,κ,μ,ν,ξ,ο,ρ,σ,τ,υ,reduceIte,reduceCtorEq,h2,aiI,n64,n46]
  refine aI (.inr rfl) Ev ?_
  simp[aT,mB,h2,mC,stV]
 simp only[go_sem,γ,δ,ε,ζ,η,θ,ι,κ,μ,ν,ξ,ο,ρ,σ,τ,υ,reduceIte,reduceCtorEq,h2,aOX,n64,n46]
 refine bM ((PH.nil.set o4 (.rows 2 [[.int .i64 p,.int .i64 w]]))) dV (PH.aH PH.nil_le (by simp only[go_sem,γ,δ,ε,ζ,η,θ,ι,κ,μ,ν,ξ,ο,ρ,σ,τ,υ,reduceIte,reduceCtorEq,n64,n46])) ?_
 simp only[go_sem,γ,δ,ε,ζ,η,θ,ι,κ,μ,ν,ξ,ο,ρ,σ,τ,υ,reduceIte,reduceCtorEq]
 refine aP fun o21 ho21=>?_
 have n214:¬ o21=o4:=(cS.1 (cS.1 ho21).2).1
 have n421:¬ o4=o21:=fun h=>n214 h.symm
 have n216:¬ o21=o6:=(cS.1 ho21).1
 have n621:¬ o6=o21:=fun h=>n216 h.symm
 simp only[go_sem,γ,δ,ε,ζ,η,θ,ι,κ,μ,ν,ξ,ο,ρ,σ,τ,υ,reduceIte,reduceCtorEq]
 refine PB (o:=o21) (kv:=.agg [.int .i64 1,.int .i64 1]) (vv:=.int .i64 2) (key:=[.int .i64 1,.int .i64 1]) (g:=fun _=>none) Sq Sq Sq Sq Sq (by rfl) (by simp only[go_sem,γ,δ,ε,ζ,η,θ,ι,κ,μ,ν,ξ,ο,ρ,σ,τ,υ,reduceIte,reduceCtorEq,n214]) ?_
 simp only[go_sem,γ,δ,ε,ζ,η,θ,ι,κ,μ,ν,ξ,ο,ρ,σ,τ,υ,reduceIte,reduceCtorEq]
 refine PB (o:=o21) (kv:=.agg [.int .i64 2,.int .i64 2]) (vv:=.int .i64 3) (key:=[.int .i64 2,.int .i64 2]) (g:=fZ.upd (fun _=>none) [.int .i64 1,.int .i64 1] (.int .i64 2)) Sq Sq Sq Sq Sq (by rfl) (by simp only[go_sem,γ,δ,ε,ζ,η,θ,ι,κ,μ,ν,ξ,ο,ρ,σ,τ,υ,reduceIte,reduceCtorEq,n214]) ?_
 simp only[go_sem,γ,δ,ε,ζ,η,θ,ι,κ,μ,ν,ξ,ο,ρ,σ,τ,υ,reduceIte,reduceCtorEq]
 refine PB (o:=o21) (kv:=.agg [.int .i64 3,.int .i64 3]) (vv:=.int .i64 1) (key:=[.int .i64 3,.int .i64 3]) (g:=fZ.upd (fZ.upd (fun _=>none) [.int .i64 1,.int .i64 1] (.int .i64 2)) [.int .i64 2,.int .i64 2] (.int .i64 3)) Sq Sq Sq Sq Sq (by rfl) (by simp only[go_sem,γ,δ,ε,ζ,η,θ,ι,κ,μ,ν,ξ,ο,ρ,σ,τ,υ,reduceIte,reduceCtorEq,n214]) ?_
 simp only[go_sem,γ,δ,ε,ζ,η,θ,ι,κ,μ,ν,ξ,ο,ρ,σ,τ,υ,reduceIte,reduceCtorEq]
 refine PB (o:=o21) (kv:=.agg [.int .i64 3,.int .i64 4]) (vv:=.int .i64 5) (key:=[.int .i64 3,.int .i64 4]) (g:=fZ.upd (fZ.upd (fZ.upd (fun _=>none) [.int .i64 1,.int .i64 1] (.int .i64 2)) [.int .i64 2,.int .i64 2] (.int .i64 3)) [.int .i64 3,.int .i64 3] (.int .i64 1)) Sq Sq Sq Sq Sq (by rfl) (by simp only[go_sem,γ,δ,ε,ζ,η,θ,ι,κ,μ,ν,ξ,ο,ρ,σ,τ,υ,reduceIte,reduceCtorEq,n214]) ?_
 simp only[go_sem,γ,δ,ε,ζ,η,θ,ι,κ,μ,ν,ξ,ο,ρ,σ,τ,υ,reduceIte,reduceCtorEq]
 have hkey:∀ a b:Int,([KS.int .i64 p,KS.int .i64 e]=[KS.int .i64 a,KS.int .i64 b])=(p=a∧e=b):=fun a b=>by simp
 simp only[go_sem,γ,δ,ε,ζ,η,θ,ι,κ,μ,ν,ξ,ο,ρ,σ,τ,υ,reduceIte,reduceCtorEq,n64,n46,n214,n421,n216,n621,fZ.upd,hkey]
 by_cases q4:p=3∧e=4
 ·obtain⟨rfl,rfl⟩:=q4
  simp only[go_sem,γ,δ,ε,ζ,η,θ,ι,κ,μ,ν,ξ,ο,ρ,σ,τ,υ,reduceIte,reduceCtorEq,pF,pG,pH,pI,mP,n64,n46,n214,n421,n216,n621]
  refine aI (.inr rfl) Ev ?_
  simp[aT,mB,h1,h2,mC,stV]
 by_cases q3:p=3∧e=3
 ·obtain⟨rfl,rfl⟩:=q3
  simp only[go_sem,γ,δ,ε,ζ,η,θ,ι,κ,μ,ν,ξ,ο,ρ,σ,τ,υ,reduceIte,reduceCtorEq,pF,pG,pH,pI,mP,n64,n46,n214,n421,n216,n621,aOY]
  by_cases hw:w=IntKind.i64.wrap (n-1)
  ·simp only[go_sem,γ,δ,ε,ζ,η,θ,ι,κ,μ,ν,ξ,ο,ρ,σ,τ,υ,reduceIte,reduceCtorEq,bX hw,aOZ,pF,pG,pH,pI,mP,n64,n46,n214,n421,n216,n621]
   refine aI (.inr rfl) Ev ?_
   simp[aT,mB,h1,h2,← hw,mC,stV]
  ·simp only[go_sem,γ,δ,ε,ζ,η,θ,ι,κ,μ,ν,ξ,ο,ρ,σ,τ,υ,reduceIte,reduceCtorEq,bD hw,aDK,pF,pG,pH,pI,mP,n64,n46,n214,n421,n216,n621]
   refine aI (.inr rfl) Ev ?_
   simp[aT,mB,h1,h2,hw,mC,stV]
 by_cases q2:p=2∧e=2
 ·obtain⟨rfl,rfl⟩:=q2
  simp only[go_sem,γ,δ,ε,ζ,η,θ,ι,κ,μ,ν,ξ,ο,ρ,σ,τ,υ,reduceIte,reduceCtorEq,pF,pG,pH,pI,mP,n64,n46,n214,n421,n216,n621]
  refine aI (.inr rfl) Ev ?_
  simp[aT,mB,h1,h2,mC,stV]
 by_cases q1:p=1∧e=1
 ·obtain⟨rfl,rfl⟩:=q1
  simp only[go_sem,γ,δ,ε,ζ,η,θ,ι,κ,μ,ν,ξ,ο,ρ,σ,τ,υ,reduceIte,reduceCtorEq,pF,pG,pH,pI,mP,n64,n46,n214,n421,n216,n621]
  refine aI (.inr rfl) Ev ?_
  simp[aT,mB,h1,h2,mC,stV]
 simp only[go_sem,γ,δ,ε,ζ,η,θ,ι,κ,μ,ν,ξ,ο,ρ,σ,τ,υ,reduceIte,reduceCtorEq,q1,q2,q3,q4,pF,pG,pH,pI,mP,n64,n46,n214,n421,n216,n621]
 refine aI (.inr rfl) Ev ?_
 have q3':¬ (p=3∧e=3∧w=IntKind.i64.wrap (n-1)):=fun h=>q3 ⟨h.1,h.2.1⟩
 simp only[aT,mB,h1,h2,q1,q2,q3,q3',q4,mC,stV,or_self,if_false]
def zZ (len:Nat) (p w:Int):Nat:=if w<len then (if p=3∨p=4 then w.toNat+1 else w.toNat) else len
def NS (ws:List (List Int)) (p w:Int):List Int:=if p<1∨p>5∨w<0 then [] else RO.sH [] (ws.take (zZ ws.length p w)).flatten
structure AR (C:Ctx):Prop where
 concat:∀ ws:List (List Int),ws.length≤1000000→ws.flatten.length≤1000000→aE C 178 [lists ws] .nil (aSM ws.flatten)
 sort:∀ (o:Nat) (xs:List Int),xs≠[]→xs.length<4611686018427387904→aE C 180 [.osl o 1 0 xs.length] (PH.nil.set o (.rows 1 (bT xs))) (fun r H'=>r=.tup []∧H'=PH.nil.set o (.rows 1 (bT (sorted xs))))
 sort0:aE C 180 [.buJ] .nil (fun r H'=>r=.tup []∧H'=.nil)
 compact:∀ (o:Nat) (xs:List Int),xs≠[]→xs.length<4611686018427387904→aE C 177 [.osl o 1 0 xs.length] (PH.nil.set o (.rows 1 (bT xs))) (fun r H'=>r=.osl o 1 0 (Lib.compact xs).length∧H'=PH.nil.set o (.rows 1 (bT (Lib.compact xs++bwP (xs.length-(Lib.compact xs).length) 0))))
 compact0:aE C 177 [.buJ] .nil (fun r H'=>r=.buJ∧H'=.nil)
theorem aYV (xs:List Int):(bT xs).length=xs.length:=by simp[bT]
theorem sO {C:Ctx} (L:AR C) (ws:List (List Int)) (h1:ws.length≤1000000) (h2:ws.flatten.length≤1000000) (n:Nat) (hn:n≤ws.length) (F:PF) (f0:F 0=some (lists ws)) (f5:F 5=some (.int .i64 n)) :
  aB.wp C (.seq (.region aiO) (.seq (.region QB) (.seq (.region QC) .ret))) (aS [.tmp 4] (bV (ints (RO.sH [] (ws.take n).flatten)))) F .nil:=by
 have hr:(ws.map fun w=>[ints w]).take n=(ws.take n).map fun w=>[ints w]:=by rw[List.map_take]
 have hc1:(n:Int)≤(ws.length:Nat):=by omega
 simp only[go_sem,γ,δ,ε,ζ,η,θ,ι,κ,μ,ν,ξ,ο,ρ,σ,τ,υ,reduceIte,reduceCtorEq,aiO,f0,f5,hr,hc1]
 have hfl:=agP ws n
 refine fA (L.concat (ws.take n) (by rw[bxE]; omega) Om) Ev PH.nil_le ?_
 rw[← RO.aHO]
 generalize (ws.take n).flatten=xs at hfl
 intro r H' hr ha
 rcases hr with ⟨h0,rfl,rfl⟩ | ⟨h0,o,rfl,rfl⟩
 ·subst h0
  rw[PH.kZ]
  simp only[go_sem,γ,δ,ε,ζ,η,θ,ι,κ,μ,ν,ξ,ο,ρ,σ,τ,υ,reduceIte,reduceCtorEq,QB]
  refine fA L.sort0 Ev PH.nil_le ?_
  rintro r H' ⟨rfl,rfl⟩ -
  rw[PH.kZ]
  simp only[go_sem,γ,δ,ε,ζ,η,θ,ι,κ,μ,ν,ξ,ο,ρ,σ,τ,υ,reduceIte,reduceCtorEq,QC]
  refine fA L.compact0 Ev PH.nil_le ?_
  rintro r H' ⟨rfl,rfl⟩ -
  rw[PH.kZ]
  simp only[go_sem,γ,δ,ε,ζ,η,θ,ι,κ,μ,ν,ξ,ο,ρ,σ,τ,υ,reduceIte,reduceCtorEq]
  have e:Lib.compact (RO.srt [])=[]:=by simp[RO.srt,Lib.compact,Lib.compactUpTo]
  rw[e]
  exact aU (vs:=[.buJ]) (.inr rfl) .nil Ev PH.nil_le ⟨.nil 1,rfl⟩
 ·rw[PH.kO]
  simp only[go_sem,γ,δ,ε,ζ,η,θ,ι,κ,μ,ν,ξ,ο,ρ,σ,τ,υ,reduceIte,reduceCtorEq,QB]
  refine fA (L.sort o xs h0 Om) Ev PH.le_refl ?_
  rintro r H' ⟨rfl,rfl⟩ -
  rw[PH.kP,PH.set_set]
  simp only[go_sem,γ,δ,ε,ζ,η,θ,ι,κ,μ,ν,ξ,ο,ρ,σ,τ,υ,reduceIte,reduceCtorEq,QC]
  have hsl:(sorted xs).length=xs.length:=by simp[sorted]
  have hs0:sorted xs≠[]:=by
   intro e; rw[e] at hsl; exact h0 (bzY hsl.symm)
  refine fA (L.compact o (sorted xs) hs0 Om) (by rw[hsl]; simp only[go_sem,γ,δ,ε,ζ,η,θ,ι,κ,μ,ν,ξ,ο,ρ,σ,τ,υ,reduceIte,reduceCtorEq]) PH.le_refl ?_
  rintro r H' ⟨rfl,rfl⟩ -
  rw[PH.kP,PH.set_set]
  simp only[go_sem,γ,δ,ε,ζ,η,θ,ι,κ,μ,ν,ξ,ο,ρ,σ,τ,υ,reduceIte,reduceCtorEq]
  refine aCI (o:=o) (s:=1) (k:=(Lib.compact (sorted xs)).length) (rs:=bT (Lib.compact (sorted xs)++bwP ((sorted xs).length-(Lib.compact (sorted xs)).length) 0)) (.inr rfl) Sq Sq (by rw[aYV,bwW]; omega) ⟨?_,rfl⟩
  have e:(bT (Lib.compact (sorted xs)++bwP ((sorted xs).length-(Lib.compact (sorted xs)).length) 0)).take (Lib.compact (sorted xs)).length=bT (Lib.compact (sorted xs)):=by
   unfold bT
   rw[bzD,List.take_append_of_le_length (by rw[bwN]; exact bwR _),bxC (by rw[bwN]; exact bwR _)]
  rw[e]
  exact .refl _
theorem bdO {C:Ctx} (L:AR C) (ws:List (List Int)) (h1:ws.length≤1000000) (h2:ws.flatten.length≤1000000) (p w:Int) :
  NR.wp C (aS aFC.res (bV (ints (NS ws p w)))) (PF.args [lists ws,.agg [.int .i64 p,.int .i64 w]]) .nil:=by
 simp only[go_sem,γ,δ,ε,ζ,η,θ,ι,κ,μ,ν,ξ,ο,ρ,σ,τ,υ,reduceIte,reduceCtorEq,NR,aQM,aQN,aFC]
 by_cases c1:p<1
 ·simp only[go_sem,γ,δ,ε,ζ,η,θ,ι,κ,μ,ν,ξ,ο,ρ,σ,τ,υ,reduceIte,reduceCtorEq,c1,PY]
  refine aU (.inr rfl) .nil Ev PH.nil_le ⟨?_,rfl⟩
  simp only[NS,c1,true_or,if_true]; exact .nil 1
 simp only[go_sem,γ,δ,ε,ζ,η,θ,ι,κ,μ,ν,ξ,ο,ρ,σ,τ,υ,reduceIte,reduceCtorEq,c1]
 by_cases c2:p>5
 ·simp only[go_sem,γ,δ,ε,ζ,η,θ,ι,κ,μ,ν,ξ,ο,ρ,σ,τ,υ,reduceIte,reduceCtorEq,c2,PY]
  refine aU (.inr rfl) .nil Ev PH.nil_le ⟨?_,rfl⟩
  simp only[NS,c2,true_or,or_true,if_true]; exact .nil 1
 simp only[go_sem,γ,δ,ε,ζ,η,θ,ι,κ,μ,ν,ξ,ο,ρ,σ,τ,υ,reduceIte,reduceCtorEq,c2]
 by_cases c3:w<0
 ·simp only[go_sem,γ,δ,ε,ζ,η,θ,ι,κ,μ,ν,ξ,ο,ρ,σ,τ,υ,reduceIte,reduceCtorEq,c3,PY]
  refine aU (.inr rfl) .nil Ev PH.nil_le ⟨?_,rfl⟩
  simp only[NS,c3,or_true,if_true]; exact .nil 1
 simp only[go_sem,γ,δ,ε,ζ,η,θ,ι,κ,μ,ν,ξ,ο,ρ,σ,τ,υ,reduceIte,reduceCtorEq,c3]
 have hu:NS ws p w=RO.sH [] (ws.take (zZ ws.length p w)).flatten:=by
  simp only[NS,c1,c2,c3,or_self,if_false]
 rw[hu]
 by_cases c4:w<ws.length
 ·have c5:¬ (ws.length:Int)<w:=by omega
  simp only[go_sem,γ,δ,ε,ζ,η,θ,ι,κ,μ,ν,ξ,ο,ρ,σ,τ,υ,reduceIte,reduceCtorEq,PZ,c5,QA,c4]
  by_cases c6:p=3
  ·subst c6
   have e:zZ ws.length 3 w=w.toNat+1:=by simp[zZ,c4]
   rw[e]
   simp only[go_sem,γ,δ,ε,ζ,η,θ,ι,κ,μ,ν,ξ,ο,ρ,σ,τ,υ,reduceIte,reduceCtorEq,aiN]
   refine sO L ws h1 h2 _ Om _ Sq (by simp only[go_sem,γ,δ,ε,ζ,η,θ,ι,κ,μ,ν,ξ,ο,ρ,σ,τ,υ,reduceIte,reduceCtorEq]; rw[wrap_i64 Om Om]; omega)
  simp only[go_sem,γ,δ,ε,ζ,η,θ,ι,κ,μ,ν,ξ,ο,ρ,σ,τ,υ,reduceIte,reduceCtorEq,bD c6]
  by_cases c7:p=4
  ·subst c7
   have e:zZ ws.length 4 w=w.toNat+1:=by simp[zZ,c4]
   rw[e]
   simp only[go_sem,γ,δ,ε,ζ,η,θ,ι,κ,μ,ν,ξ,ο,ρ,σ,τ,υ,reduceIte,reduceCtorEq,aiN]
   refine sO L ws h1 h2 _ Om _ Sq (by simp only[go_sem,γ,δ,ε,ζ,η,θ,ι,κ,μ,ν,ξ,ο,ρ,σ,τ,υ,reduceIte,reduceCtorEq]; rw[wrap_i64 Om Om]; omega)
  have e:zZ ws.length p w=w.toNat:=by simp[zZ,c4,c6,c7]
  rw[e]
  simp only[go_sem,γ,δ,ε,ζ,η,θ,ι,κ,μ,ν,ξ,ο,ρ,σ,τ,υ,reduceIte,reduceCtorEq,bD c7]
  refine sO L ws h1 h2 _ Om _ Sq (by simp only[go_sem,γ,δ,ε,ζ,η,θ,ι,κ,μ,ν,ξ,ο,ρ,σ,τ,υ,reduceIte,reduceCtorEq]; omega)
 ·have e:zZ ws.length p w=ws.length:=by simp[zZ,c4]
  rw[e]
  by_cases c5:(ws.length:Int)<w
  ·simp only[go_sem,γ,δ,ε,ζ,η,θ,ι,κ,μ,ν,ξ,ο,ρ,σ,τ,υ,reduceIte,reduceCtorEq,PZ,c5,QA]
   refine sO L ws h1 h2 _ (bwR _) _ Sq Sq
  ·have c6:w=(ws.length:Nat):=by omega
   subst c6
   simp only[go_sem,γ,δ,ε,ζ,η,θ,ι,κ,μ,ν,ξ,ο,ρ,σ,τ,υ,reduceIte,reduceCtorEq,PZ,QA]
   refine sO L ws h1 h2 _ (bwR _) _ Sq Sq


def aqU (xs ys:List Int) (i:Nat):PF:=(((PF.nil.set 0 (ints xs)).set 1 (ints ys)).set 4 (.bool false)).set 5 (.int .i64 i)
theorem bcQ {C:Ctx} (xs ys:List Int) (bwE:xs.length≤9223372036854775806):MT.wp C (aS same.res (aC (.bool (xs==ys)))) (PF.args [ints xs,ints ys]) .nil:=by
 simp only[go_sem,γ,δ,ε,ζ,η,θ,ι,κ,μ,ν,ξ,ο,ρ,σ,τ,υ,reduceIte,reduceCtorEq,MT,aOG,aOH,ints,same,bwN]
 refine kB (fun h=>?_) (fun h=>?_)
 ·simp only[go_sem,γ,δ,ε,ζ,η,θ,ι,κ,μ,ν,ξ,ο,ρ,σ,τ,υ,reduceIte,reduceCtorEq,aOI]
  refine aI (.inr rfl) Ev ?_
  have:¬ xs=ys:=by rintro rfl; simp at h
  simp[aT,this]
 ·have hl:xs.length=ys.length:=by simp at h; omega
  simp only[go_sem,γ,δ,ε,ζ,η,θ,ι,κ,μ,ν,ξ,ο,ρ,σ,τ,υ,reduceIte,reduceCtorEq,aOJ]
  refine wp_loop (α:=Nat) (aqU xs ys) (fun _=>.nil) (fun i=>i≤xs.length∧xs.take i=ys.take i) (fun i=>xs.length-i) 0 ⟨by omega,by simp⟩ ?_ PH.nil_le ?_
  ·unfold aqU
   refine PF.aH (PF.aH (PF.aH (PF.aH PF.nil_le ?_) ?_) ?_) ?_<;>simp only[go_sem,γ,δ,ε,ζ,η,θ,ι,κ,μ,ν,ξ,ο,ρ,σ,τ,υ,reduceIte,reduceCtorEq,ints]<;>rfl
  ·rintro i ⟨hi,htake⟩
   simp only[go_sem,γ,δ,ε,ζ,η,θ,ι,κ,μ,ν,ξ,ο,ρ,σ,τ,υ,reduceIte,reduceCtorEq,aOF,aOK,aqU,ints,bwN]
   refine kB (fun h=>?_) (fun h=>?_)
   ·have hlt:i<xs.length:=by simpa using h
    simp only[go_sem,γ,δ,ε,ζ,η,θ,ι,κ,μ,ν,ξ,ο,ρ,σ,τ,υ,reduceIte,reduceCtorEq]
    refine bM .nil dV PH.nil_le ?_
    have hx:(xs.map fun n=>[PV.int .i64 n])[i]?=some [.int .i64 xs[i]]:=by simp[hlt]
    have hy:(ys.map fun n=>[PV.int .i64 n])[i]?=some [.int .i64 ys[i]]:=by simp[show i<ys.length by omega]
    simp only[go_sem,γ,δ,ε,ζ,η,θ,ι,κ,μ,ν,ξ,ο,ρ,σ,τ,υ,reduceIte,reduceCtorEq,aOL,bzO,Int.natCast_nonneg,hx,hy,loadCells,bxD,bwR]
    refine kB (fun h2=>?_) (fun h2=>?_)
    ·simp only[go_sem,γ,δ,ε,ζ,η,θ,ι,κ,μ,ν,ξ,ο,ρ,σ,τ,υ,reduceIte,reduceCtorEq,aOM]
     refine aI (.inr rfl) Ev ?_
     have hne:xs[i]≠ys[i]:=by simpa using h2
     have:¬ xs=ys:=by rintro rfl; simp at hne
     simp[aT,this]
    ·have he:xs[i]=ys[i]:=by simpa using h2
     simp only[go_sem,γ,δ,ε,ζ,η,θ,ι,κ,μ,ν,ξ,ο,ρ,σ,τ,υ,reduceIte,reduceCtorEq,aON]
     refine aJ (i+1) ⟨by omega,?_⟩ Om ?_ PH.nil_le
     ·rw[byH hlt,byH (by omega:i<ys.length),htake,he]
     ·unfold aqU
      have hw:IntKind.i64.wrap ((i:Int)+1)=((i+1:Nat):Int):=by
       exact cY Om
      refine PF.aH (PF.aH (PF.aH (PF.aH PF.nil_le ?_) ?_) ?_) ?_<;>simp only[go_sem,γ,δ,ε,ζ,η,θ,ι,κ,μ,ν,ξ,ο,ρ,σ,τ,υ,reduceIte,reduceCtorEq,ints,hw]
   ·have hge:i=xs.length:=by simp at h; omega
    simp only[go_sem,γ,δ,ε,ζ,η,θ,ι,κ,μ,ν,ξ,ο,ρ,σ,τ,υ,reduceIte,reduceCtorEq,aOO]
    refine aI (.inr rfl) Ev ?_
    subst hge
    have:xs=ys:=by
     rw[bxM] at htake
     rw[htake,hl,bxM]
    simp[aT,this]
def asN:PV→List Int
 | .sl _ rows=>rows.map fun r=>match r with | [.int _ n]=>n | _=>0
 | _=>[]
theorem JF (xs:List Int):asN (ints xs)=xs:=by
 simp[asN,List.map_map,Function.comp_def]
open Go Go.Na
structure a2X (C:Ctx):Prop where
 within:∀ x n:Int,InK .i64 n→aE C 24 [.int .i64 x,.int .i64 n] .nil (aC (.int .i64 (wi x n)))
 awak:aE C 26 [] .nil (aC (.bool true))
 made:∀ l:List Int,TpM l→aE C 249 [ints l] .nil (aSL l)
 fits:∀ (f:aL) (now:List (List Int)) (r:Int) (down:List Int),f.Ok→jU now→down.length≤1000000000000000→aE C 252 [.agg f.cells,lay now,.int .i64 r,ints down] .nil (aC (.bool (kW f now r down)))
 rfits:∀ (f:aL) (now:List (List Int)) (r:Int) (down:List Int),f.Ok→jU now→down.length≤1000000000000000→aE C 256 [.agg f.cells,lay now,.int .i64 r,ints down] .nil (aC (.bool (kW f now r down)))
def lfS (f:aL) (L:List (List Int)):Spec:=fun name vs=>match name,vs with
 | 24,[.int .i64 x,.int .i64 n]=>some ([],fun _=>aC (.int .i64 (wi x n)))
 | 26,[]=>some ([],fun _=>aC (.bool true))
 | 252,[.agg (_::.buJ::_),_,_,_]=>some ([],fun _=>aC (.bool false))
 | 252,[_,_,.int .i64 r,d]=>some ([],fun _=>aC (.bool (kW f L r (asN d))))
 | 256,[_,_,.int .i64 r,d]=>some ([],fun _=>aC (.bool (kW f L r (asN d))))
 | _,_=>none
theorem aAD (L:List (List Int)) (r:Int) (d:List Int):kW BI L r d=false:=rfl
def xG (l:List Int) (n:Int):List Int:=l.map fun x=>wi x n
theorem aUZ {l:List Int} {k:Nat} {n:Int} (h:k<l.length):xG (l.take (k+1)) n=xG (l.take k) n++[wi l[k] n]:=by
 unfold xG
 rw[byH h,bzD]
 rfl
def lfF (down:List Int) (r:Int) (o:Nat) (w:PV) (k:Int):PF:=(((((PF.nil.set 1 (ints down)).set 2 (.int .i64 r)).set 7 (.ptr o 9 0 0)).set 9 (w)).set 10 (.int .i64 k))
theorem a5D {C:Ctx} (Lb:a2X C) (l down:List Int) (T:TpM l) (r:Int) :
  ES.wp C (aS aaF.res (aC (.bool true))) (PF.args [ints l,ints down,.int .i64 r]) .nil:=by
 have hv:dH (fM l)=true:=JV l (buK:=3) (by decide) 0
 have hOk:(fM l).Ok:=(wV l (buK:=3) (by decide) 0).1.ok
 have hV:=VF.of hv
 have hL:jU (aVH l):=(bfR l 3 0 (cZ l 3 0).2 (by decide)).ok hV
 simp only[go_sem,γ,δ,ε,ζ,η,θ,ι,κ,μ,ν,ξ,ο,ρ,σ,τ,υ,reduceIte,reduceCtorEq,ES,axK,axL,aaF,bwN]
 by_cases c:((down.length:Nat):Int)>20
 ·simp only[go_sem,γ,δ,ε,ζ,η,θ,ι,κ,μ,ν,ξ,ο,ρ,σ,τ,υ,reduceIte,reduceCtorEq,c,axM]
  refine aA Lb.awak Ev ?_
  simp only[go_sem,γ,δ,ε,ζ,η,θ,ι,κ,μ,ν,ξ,ο,ρ,σ,τ,υ,reduceIte,reduceCtorEq]
  refine aI (.inr rfl) Ev ?_
  rfl
 simp only[go_sem,γ,δ,ε,ζ,η,θ,ι,κ,μ,ν,ξ,ο,ρ,σ,τ,υ,reduceIte,reduceCtorEq,c,axN]
 refine fA (Lb.made l T) Sq PH.nil_le ?_
 rintro _ _ ⟨o,rfl,rfl⟩ hap
 obtain⟨R,hR⟩:∃ R,aCL l=R:=⟨_,rfl⟩
 rw[hR]
 have hd24:=hV.small.buH
 generalize aVH l=L at *
 generalize fM l=f at *
 generalize PH.eM PH.nil PH.nil _=H0
 simp only[go_sem,γ,δ,ε,ζ,η,θ,ι,κ,μ,ν,ξ,ο,ρ,σ,τ,υ,reduceIte,reduceCtorEq]
 refine aP fun o7 ho7=>?_
 have h2:=(bA.nil.new ho7 (.rows 9 [f.cells++[lay L,ints R]])).sY 1
 have hn:InK .i64 (f.buH.length:Nat):=by unfold InK; rw[show IntKind.i64.min=-9223372036854775808 by decide,show IntKind.i64.max=9223372036854775807 by decide]; omega
 have hdl:down.length≤20:=by omega
 have hd:down.length≤1000000000000000:=by omega
 simp only[go_sem,γ,δ,ε,ζ,η,θ,ι,κ,μ,ν,ξ,ο,ρ,σ,τ,υ,reduceIte,reduceCtorEq,axO,axP,bzP,byW,bxF,byC,or_false,forall_eq,forall_eq_or_imp]
 refine wp_loop (α:=Nat × PV × PH) (fun s=>lfF down r o7 s.2.1 s.1) (fun s=>s.2.2) (fun s=>s.1≤down.length∧bA s.2.2 [(o7,.rows 9 [f.cells++[lay L,ints R]])] [(s.2.1,1,bT (xG (down.take s.1) f.buH.length))]) (fun s=>down.length-s.1) (0,.buJ,H0.set o7 (.rows 9 [f.cells++[lay L,ints R]])) ⟨bwZ _,?_⟩ ?_ PH.le_refl ?_
 ·exact h2
 ·unfold lfF
  exact Lq
 rintro⟨k,w,H⟩ ⟨hk,hH⟩
 simp only at hk hH ⊢
 have b:=hH.at 0 rfl
 simp only[go_sem,γ,δ,ε,ζ,η,θ,ι,κ,μ,ν,ξ,ο,ρ,σ,τ,υ,reduceIte,reduceCtorEq,axJ,axQ,lfF,bwN]
 by_cases hlt:k<down.length
 ·have buP:(k:Int)<(down.length:Nat):=by omega
  have hat:(down.map fun n=>[PV.int .i64 n])[k]?=some [.int .i64 down[k]]:=by simp[hlt]
  simp only[go_sem,γ,δ,ε,ζ,η,θ,ι,κ,μ,ν,ξ,ο,ρ,σ,τ,υ,reduceIte,reduceCtorEq,buP]
  refine bM (PH.nil.set o7 (.rows 9 [f.cells++[lay L,ints R]])) (lfS f L) (PH.aH PH.nil_le b) ?_
  simp only[go_sem,γ,δ,ε,ζ,η,θ,ι,κ,μ,ν,ξ,ο,ρ,σ,τ,υ,reduceIte,reduceCtorEq,axR,buP,hat,b,bzP,byW,bwN]
  refine bF rfl (Lb.within down[k] f.buH.length hn) Ev (PH.aH PH.nil_le b) ?_
  have h11:(1:Nat)*1≤16777216:=by decide
  simp only[go_sem,γ,δ,ε,ζ,η,θ,ι,κ,μ,ν,ξ,ο,ρ,σ,τ,υ,reduceIte,reduceCtorEq,h11]
  refine hH.append 0 (src:=[[.int .i64 (wi down[k] f.buH.length)]]) rfl Sq (by unfold roomFor bT xG; rw[bwN,bwN,bxE]; simp only[bxD,maxLen]; omega) fun w' H' h3 hw=>?_
  have b3:=h3.at 0 rfl
  refine⟨PH.aH PH.nil_le b3,?_⟩
  simp only[go_sem,γ,δ,ε,ζ,η,θ,ι,κ,μ,ν,ξ,ο,ρ,σ,τ,υ,reduceIte,reduceCtorEq,axS,wZz k]
  refine aJ (k+1,w',H') ⟨hlt,?_⟩ (by simp only; omega) ?_ PH.le_refl
  ·simp only
   rw[aUZ hlt]
   unfold bT at h3 ⊢
   rw[bzD]
   exact h3
  ·exact Lq
 ·have buP:¬ (k:Int)<(down.length:Nat):=by omega
  have:k=down.length:=by omega
  subst this
  rw[bxM] at hH
  have hn3:InK .i64 3:=⟨by decide,by decide⟩
  have hdn:(xG down f.buH.length).length≤1000000000000000:=by unfold xG; rw[bwN]; omega
  generalize xG down f.buH.length=near at *
  simp only[go_sem,γ,δ,ε,ζ,η,θ,ι,κ,μ,ν,ξ,ο,ρ,σ,τ,υ,reduceIte,reduceCtorEq,buP,alE]
  have tail:∀ (nv:PV) (F':PF) (H':PH),Co nv (ints near)→asN nv=near→((((((PF.nil.set 1 (ints down)).set 2 (.int .i64 r)).set 7 (.ptr o7 9 0 0)).set 9 (nv)).set 11 (.int .i64 (wi r 3)))).le F'→H' o7=some (.rows 9 [f.cells++[lay L,ints R]]) →
    aB.wp C (.draw KP) (gW C (aB.wp C .ret) (aS [.tmp 6] (aC (.bool true)))) F' H':=by
   intro nv F' H' hco hdec hF' b'
   have f1:F' 1=some (ints down):=hF' 1 _ Sq
   have f2:F' 2=some (.int .i64 r):=hF' 2 _ Sq
   have f7:F' 7=some (.ptr o7 9 0 0):=hF' 7 _ Sq
   have f9:F' 9=some nv:=hF' 9 _ Sq
   have f11:F' 11=some (.int .i64 (wi r 3)):=hF' 11 _ Sq
   have c1:=Lb.fits f L r down hOk hL hd
   have c2:=Lb.rfits f L r down hOk hL hd
   have c3:=(Lb.fits f L (wi r 3) near hOk hL hdn).args (.gZ (.refl (.agg f.cells)) (.gZ (.refl (lay L)) (.gZ (.refl (.int .i64 (wi r 3))) (.gZ hco .azQ))))
   have c4:=(Lb.rfits f L (wi r 3) near hOk hL hdn).args (.gZ (.refl (.agg f.cells)) (.gZ (.refl (lay L)) (.gZ (.refl (.int .i64 (wi r 3))) (.gZ hco .azQ))))
   have c5:=(Lb.fits BI L (wi r 3) near aVG hL hdn).args (.gZ aVF (.gZ (.refl (lay L)) (.gZ (.refl (.int .i64 (wi r 3))) (.gZ hco .azQ))))
   rw[aAD] at c5
   have s1:lfS f L 252 [.agg f.cells,lay L,.int .i64 r,ints down]=some ([],fun _=>aC (.bool (kW f L r down))):=by
    show some _=_; rw[JF]
   have s2:lfS f L 256 [.agg f.cells,lay L,.int .i64 r,ints down]=some ([],fun _=>aC (.bool (kW f L r down))):=by
    show some _=_; rw[JF]
   have s3:lfS f L 252 [.agg f.cells,lay L,.int .i64 (wi r 3),nv]=some ([],fun _=>aC (.bool (kW f L (wi r 3) near))):=by
    show some _=_; rw[hdec]
   have s4:lfS f L 256 [.agg f.cells,lay L,.int .i64 (wi r 3),nv]=some ([],fun _=>aC (.bool (kW f L (wi r 3) near))):=by
    show some _=_; rw[hdec]
   have hle:=PH.aH (H:=PH.nil) (PH.nil_le (H:=H')) b'
   refine bM (PH.nil.set o7 (.rows 9 [f.cells++[lay L,ints R]])) (lfS f L) hle ?_
   simp only[go_sem,γ,δ,ε,ζ,η,θ,ι,κ,μ,ν,ξ,ο,ρ,σ,τ,υ,reduceIte,reduceCtorEq,KP]
   refine bF rfl Lb.awak Ev hle ?_
   simp only[go_sem,γ,δ,ε,ζ,η,θ,ι,κ,μ,ν,ξ,ο,ρ,σ,τ,υ,reduceIte,reduceCtorEq,f1,f2,f7,f9,f11,b',bzP,byW]
   refine bF s1 c1 Ev hle ?_
   simp only[go_sem,γ,δ,ε,ζ,η,θ,ι,κ,μ,ν,ξ,ο,ρ,σ,τ,υ,reduceIte,reduceCtorEq,f1,f2,f7,f9,f11,b',bzP,byW]
   refine bF s2 c2 Ev hle ?_
   simp only[go_sem,γ,δ,ε,ζ,η,θ,ι,κ,μ,ν,ξ,ο,ρ,σ,τ,υ,reduceIte,reduceCtorEq,f1,f2,f7,f9,f11,b',bzP,byW,beq_self_eq_true]
   refine bF s3 c3 Ev hle ?_
   simp only[go_sem,γ,δ,ε,ζ,η,θ,ι,κ,μ,ν,ξ,ο,ρ,σ,τ,υ,reduceIte,reduceCtorEq,f1,f2,f7,f9,f11,b',bzP,byW]
   refine bF s4 c4 Ev hle ?_
   simp only[go_sem,γ,δ,ε,ζ,η,θ,ι,κ,μ,ν,ξ,ο,ρ,σ,τ,υ,reduceIte,reduceCtorEq,f1,f2,f7,f9,f11,b',bzP,byW,beq_self_eq_true]
   refine bF rfl c5 Ev hle ?_
   simp only[go_sem,γ,δ,ε,ζ,η,θ,ι,κ,μ,ν,ξ,ο,ρ,σ,τ,υ,reduceIte,reduceCtorEq,f1,f2,f7,f9,f11,b',bzP,byW]
   refine aI (.inr rfl) Ev ?_
   rfl
  rcases hH.own 0 rfl with ⟨h1',rfl⟩ | ⟨q,rs,rfl,h2',h3',h4'⟩
  ·have hne:near=[]:=by
    unfold bT at h1'
    exact List.map_eq_nil_iff.1 h1'
   subst hne
   refine aA (Lb.within r 3 hn3) Ev ?_
   simp only[go_sem,γ,δ,ε,ζ,η,θ,ι,κ,μ,ν,ξ,ο,ρ,σ,τ,υ,reduceIte,reduceCtorEq]
   refine tail .buJ _ H (.nil 1) rfl ?_ b
   exact Lq
  ·obtain⟨rs',z1,z2,z3,z4,z5⟩:=hH.frz 0 rfl
   have b5:=z5.at 0 rfl
   refine lM (o:=q) (s:=1) (rs:=rs') (Lb.within r 3 hn3) z1 Sq ?_
   simp only[go_sem,γ,δ,ε,ζ,η,θ,ι,κ,μ,ν,ξ,ο,ρ,σ,τ,υ,reduceIte,reduceCtorEq,z3]
   refine tail (ints near) _ _ (.refl _) (JF _) ?_ b5
   (repeat' (first|exact PF.nil_le|refine PF.aH ?_ ?_))<;>first|(simp only[go_sem,γ,δ,ε,ζ,η,θ,ι,κ,μ,ν,ξ,ο,ρ,σ,τ,υ,reduceIte,reduceCtorEq,z3]<;>rfl)|rfl
theorem a0X (f:aL) (l:List (List Int)) (v:Nat):(lG f l v).isNone=(decide (((l.getD v []).length:Int)=eW f v)&&!decide (CH f (l.getD v [])≥0)):=by
 unfold lG CH
 split
 ·rename_i c
  rw[decide_eq_true c]
  cases fI (jH f) (l.getD v []) 0 with
  | none=>rfl
  | some i=>simp
 ·rename_i c
  rw[decide_eq_false c]; rfl
def ssS (f:aL) (row:List Int):Spec:=fun name vs=>match name,vs with
 | 89,_=>some ([],fun _=>aC (.int .i64 (CH f row)))
 | 82,[_,.int _ v]=>some ([],fun _=>aC (.int .i64 (eW f v.toNat)))
 | _,_=>none
theorem a6S (f:aL) (row:List Int) (v:Nat):ssS f row 82 [.agg f.cells,.int .i64 v]=some ([],fun _=>aC (.int .i64 (eW f v))):=rfl
structure a9A (C:Ctx):Prop where
 TS:∀ (f:aL) (v:Nat),VF f→v<f.buK.length→aE C 156 [.agg f.cells,.int .i64 v] .nil (aC (.int .i64 (eW f v)))
structure a9D (C:Ctx):Prop where
 valid:∀ f:aL,f.Ok→aE C 161 [.agg f.cells] .nil (aC (.bool (dH f)))
 shape:∀ (f:aL) (l:List (List Int)) (v:Nat),VF f→jU l→v<l.length→v<f.buK.length→aE C 160 [.agg f.cells,lay l,.int .i64 v] .nil (aC (shV (lG f l v)))
structure a9B (C:Ctx):Prop where
 valid:∀ f:aL,f.Ok→aE C 67 [.agg f.cells] .nil (aC (.bool (dH f)))
structure a9C (C:Ctx):Prop where
 valid:∀ f:aL,f.Ok→aE C 67 [.agg f.cells] .nil (aC (.bool (dH f)))
 TS:∀ (f:aL) (v:Nat),VF f→v<f.buK.length→aE C 82 [.agg f.cells,.int .i64 v] .nil (aC (.int .i64 (eW f v)))
 bad:∀ (f:aL) (row:List Int),row.length≤16777216→aE C 89 [.agg f.cells,ints row] .nil (aC (.int .i64 (CH f row)))
theorem aWJ {C:Ctx} (L:a9A C) (f:aL) (hV:VF f) (l:List (List Int)) (hl:jU l) (v:Nat) (hv:v<l.length) (hvf:v<f.buK.length) :
  zJ.wp C (aS wC.res (bV (shV (lG f l v)))) (PF.args [.agg f.cells,lay l,.int .i64 v]) .nil:=by
 have hr:(l.map fun r=>[ints r])[v]?=some [ints l[v]]:=by simp[hv]
 have hg:l.getD v []=l[v]:=by simp[bxI,hv]
 have hrl:(l[v]).length≤16777216:=by
  have h1:=atT l (v+1)
  have:=hl.all
  rw[JU l hv,bwW] at h1
  omega
 unfold lG
 rw[hg]
 simp only[go_sem,γ,δ,ε,ζ,η,θ,ι,κ,μ,ν,ξ,ο,ρ,σ,τ,υ,reduceIte,reduceCtorEq,zJ,anK]
 refine aP fun o ho=>?_
 simp only[go_sem,γ,δ,ε,ζ,η,θ,ι,κ,μ,ν,ξ,ο,ρ,σ,τ,υ,reduceIte,reduceCtorEq]
 refine bM .nil (toS f) PH.nil_le ?_
 generalize l[v]=row at *
 have fin:∀ (x:arN) (F:PF) (H:PH),F 6=some (.ptr o 3 0 0)→F 7=some (.bool true)→H o=some (.rows 3 [x.cells])→aS wC.res (bV (shV (some x))) .ret F H:=by
  intro x F H h6 h7 hH
  refine aU (.inr rfl) .nil (vs:=[.agg x.cells,.bool true]) ?_ PH.nil_le ⟨.refl _,rfl⟩
  simp only[go_sem,γ,δ,ε,ζ,η,θ,ι,κ,μ,ν,ξ,ο,ρ,σ,τ,υ,reduceIte,reduceCtorEq,wC,h6,h7,hH]
 simp only[go_sem,γ,δ,ε,ζ,η,θ,ι,κ,μ,ν,ξ,ο,ρ,σ,τ,υ,reduceIte,reduceCtorEq,anL,hr,bwN]
 refine bF (a6V f v) (L.TS f v hV hvf) Ev PH.nil_le ?_
 by_cases c:((row.length:Nat):Int)=eW f v
 ·rw[if_pos c]
  simp only[go_sem,γ,δ,ε,ζ,η,θ,ι,κ,μ,ν,ξ,ο,ρ,σ,τ,υ,reduceIte,reduceCtorEq,cO c,anN,hr,bwN]
  refine wp_loop (α:=Nat) (fun k=>a6X f o v row k) (fun k=>PH.nil.set o (.rows 3 [[.int .i64 0,.int .i64 0,.int .i64 0]])) (fun k=>k≤row.length∧fI (jH f) row 0=fI (jH f) (row.drop k) k) (fun k=>row.length-k) 0 ⟨bwZ _,rfl⟩ ?_ PH.le_refl ?_
  ·unfold a6X
   (repeat' (first|exact PF.nil_le|refine PF.aH ?_ ?_))<;>first|(simp only[go_sem,γ,δ,ε,ζ,η,θ,ι,κ,μ,ν,ξ,ο,ρ,σ,τ,υ,reduceIte,reduceCtorEq,bwN]<;>rfl)|rfl
  rintro k ⟨hk,hb⟩
  simp only[go_sem,γ,δ,ε,ζ,η,θ,ι,κ,μ,ν,ξ,ο,ρ,σ,τ,υ,reduceIte,reduceCtorEq,anJ,anO,a6X]
  by_cases hlt:k<row.length
  ·have buP:(k:Int)<(row.length:Nat):=by omega
   have hrk:(row.map fun n=>[PV.int .i64 n])[k]?=some [.int .i64 row[k]]:=by simp[hlt]
   have hdr:fI (jH f) (row.drop k) k=if jH f row[k] then some k else fI (jH f) (row.drop (k+1)) (k+1):=by
    rw[byG hlt,fI]
   rw[hdr] at hb
   by_cases c1:row[k] < -1
   ·have hbd:jH f row[k]=true:=by simp[jH,c1]
    rw[hbd] at hb
    simp only[go_sem,γ,δ,ε,ζ,η,θ,ι,κ,μ,ν,ξ,ο,ρ,σ,τ,υ,reduceIte,reduceCtorEq,buP,xO,hrk,xP,c1,NE]
    rw[hb]
    exact fin ⟨1,v,k⟩ _ _ Sq Sq Sq
   ·by_cases c2:row[k]≥(f.buH.length:Nat)
    ·have hbd:jH f row[k]=true:=by simp[jH,c2]
     rw[hbd] at hb
     simp only[go_sem,γ,δ,ε,ζ,η,θ,ι,κ,μ,ν,ξ,ο,ρ,σ,τ,υ,reduceIte,reduceCtorEq,buP,xO,hrk,xP,c1,bwN,c2,NE]
     rw[hb]
     exact fin ⟨1,v,k⟩ _ _ Sq Sq Sq
    ·have hbd:jH f row[k]=false:=by simp[jH]; omega
     rw[hbd] at hb
     simp only[go_sem,γ,δ,ε,ζ,η,θ,ι,κ,μ,ν,ξ,ο,ρ,σ,τ,υ,reduceIte,reduceCtorEq,buP,xO,hrk,xP,c1,bwN,c2,anP,wZz k]
     refine aJ (k+1) ⟨hlt,hb⟩ Om ?_ PH.le_refl
     exact Lq
  ·have buP:¬ (k:Int)<(row.length:Nat):=by omega
   have:k=row.length:=by omega
   subst this
   rw[List.drop_length,fI] at hb
   simp only[go_sem,γ,δ,ε,ζ,η,θ,ι,κ,μ,ν,ξ,ο,ρ,σ,τ,υ,reduceIte,reduceCtorEq,buP,acU]
   rw[hb]
   refine aU (.inr rfl) .nil (vs:=[.agg [.int .i64 0,.int .i64 0,.int .i64 0],.bool false]) ?_ PH.nil_le ⟨.refl _,rfl⟩
   simp only[go_sem,γ,δ,ε,ζ,η,θ,ι,κ,μ,ν,ξ,ο,ρ,σ,τ,υ,reduceIte,reduceCtorEq,wC]
 ·rw[if_neg c]
  simp only[go_sem,γ,δ,ε,ζ,η,θ,ι,κ,μ,ν,ξ,ο,ρ,σ,τ,υ,reduceIte,reduceCtorEq,dA c,anM,hr,bwN]
  exact fin ⟨1,v,(row.length:Nat)⟩ _ _ Sq Sq Sq
theorem aIE {C:Ctx} (L:a9D C) (f:aL) (hf:f.Ok) (l:List (List Int)) (hl:jU l) :
  wB.wp C (aS BS.res (bV (.bool (iU f l)))) (PF.args [.agg f.cells,lay l]) .nil:=by
 simp only[go_sem,γ,δ,ε,ζ,η,θ,ι,κ,μ,ν,ξ,ο,ρ,σ,τ,υ,reduceIte,reduceCtorEq,wB,acK,acL,BS]
 refine aA (L.valid f hf) Ev ?_
 unfold iU
 have hlr:=hl.rows
 cases hv:dH f with
 | false =>
  simp only[go_sem,γ,δ,ε,ζ,η,θ,ι,κ,μ,ν,ξ,ο,ρ,σ,τ,υ,reduceIte,reduceCtorEq,bxB,GJ]
  exact aY Ev (by simp only[bwT])
 | true =>
  have hV:=VF.of hv
  by_cases c:l.length=f.buK.length
  ·have c':(((l.length:Nat):Int) != ((f.buK.length:Nat):Int))=false:=cO Om
   rw[decide_eq_true c]
   simp only[go_sem,γ,δ,ε,ζ,η,θ,ι,κ,μ,ν,ξ,ο,ρ,σ,τ,υ,reduceIte,reduceCtorEq,bwU,bwN,c',acM]
   generalize hq:(fun v=>(lG f l v).isNone)=q
   refine wp_loop (α:=Nat) (fun k=>tSF f l k) (fun _=>.nil) (fun k=>k≤l.length∧lP q k) (fun k=>l.length-k) 0 ⟨bwZ _,.zero⟩ ?_ PH.nil_le ?_
   ·unfold tSF
    (repeat' (first|exact PF.nil_le|refine PF.aH ?_ ?_))<;>first|(simp only[go_sem,γ,δ,ε,ζ,η,θ,ι,κ,μ,ν,ξ,ο,ρ,σ,τ,υ,reduceIte,reduceCtorEq,bwN]<;>rfl)|rfl
   rintro k ⟨hk,ha⟩
   simp only[go_sem,γ,δ,ε,ζ,η,θ,ι,κ,μ,ν,ξ,ο,ρ,σ,τ,υ,reduceIte,reduceCtorEq,SB,acN,tSF]
   by_cases hlt:k<l.length
   ·have buP:(k:Int)<(l.length:Nat):=by omega
    have hqk:q k=(lG f l k).isNone:=by rw[← hq]
    simp only[go_sem,γ,δ,ε,ζ,η,θ,ι,κ,μ,ν,ξ,ο,ρ,σ,τ,υ,reduceIte,reduceCtorEq,buP,acO,acP]
    refine aA (L.shape f l k hV hl hlt Om) Ev ?_
    cases hs:lG f l k with
    | some x =>
     rw[hs] at hqk
     simp only[go_sem,γ,δ,ε,ζ,η,θ,ι,κ,μ,ν,ξ,ο,ρ,σ,τ,υ,reduceIte,reduceCtorEq,shV]
     refine aP fun o ho=>?_
     simp only[go_sem,γ,δ,ε,ζ,η,θ,ι,κ,μ,ν,ξ,ο,ρ,σ,τ,υ,reduceIte,reduceCtorEq,GK,acQ]
     exact aY (b:=false) Ev (by rw[show (bwO l.length).all q=false from dJ hlt hqk])
    | none =>
     rw[hs] at hqk
     simp only[go_sem,γ,δ,ε,ζ,η,θ,ι,κ,μ,ν,ξ,ο,ρ,σ,τ,υ,reduceIte,reduceCtorEq,shV]
     refine aP fun o ho=>?_
     simp only[go_sem,γ,δ,ε,ζ,η,θ,ι,κ,μ,ν,ξ,ο,ρ,σ,τ,υ,reduceIte,reduceCtorEq,GK,acR,wZz k]
     refine aJ (k+1) ⟨hlt,ha.step hqk⟩ Om ?_ PH.nil_le
     exact Lq
   ·have buP:¬ (k:Int)<(l.length:Nat):=by omega
    have:k=l.length:=by omega
    subst this
    simp only[go_sem,γ,δ,ε,ζ,η,θ,ι,κ,μ,ν,ξ,ο,ρ,σ,τ,υ,reduceIte,reduceCtorEq,buP,SC]
    exact aY (b:=true) Ev (by rw[show (bwO l.length).all q=true from ha])
  ·have c':(((l.length:Nat):Int) != ((f.buK.length:Nat):Int))=true:=dA Om
   simp only[go_sem,γ,δ,ε,ζ,η,θ,ι,κ,μ,ν,ξ,ο,ρ,σ,τ,υ,reduceIte,reduceCtorEq,bwU,bwN,c',GJ]
   exact aY Ev (by rw[decide_eq_false c]; simp only[bwT])
theorem aIC {C:Ctx} (L:a9C C) (f:aL) (hf:f.Ok) (l:List (List Int)) (hl:jU l) :
  vZ.wp C (aS BR.res (aC (.bool (iU f l)))) (PF.args [.agg f.cells,lay l]) .nil:=by
 simp only[go_sem,γ,δ,ε,ζ,η,θ,ι,κ,μ,ν,ξ,ο,ρ,σ,τ,υ,reduceIte,reduceCtorEq,vZ,acC,acD,BR]
 refine aA (L.valid f hf) Sq ?_
 unfold iU
 have hlr:=hl.rows
 cases hv:dH f with
 | false =>
  simp only[go_sem,γ,δ,ε,ζ,η,θ,ι,κ,μ,ν,ξ,ο,ρ,σ,τ,υ,reduceIte,reduceCtorEq,bxB,GG]
  refine aI (.inr rfl) Ev ?_
  simp[aT]
 | true =>
  have hV:=VF.of hv
  by_cases c:l.length=f.buK.length
  ·have c':(((l.length:Nat):Int) != ((f.buK.length:Nat):Int))=false:=cO Om
   rw[decide_eq_true c]
   simp only[go_sem,γ,δ,ε,ζ,η,θ,ι,κ,μ,ν,ξ,ο,ρ,σ,τ,υ,reduceIte,reduceCtorEq,bwU,bwN,c',acE]
   generalize hq:(fun v=>(lG f l v).isNone)=q
   refine wp_loop (α:=Nat) (fun k=>(((PF.nil.set 1 (lay l)).set 2 (.buR f.cells)).set 5 (.int .i64 k))) (fun _=>.nil) (fun k=>k≤l.length∧lP q k) (fun k=>l.length-k) 0 ⟨bwZ _,.zero⟩ Lq PH.nil_le ?_
   rintro k ⟨hk,ha⟩
   simp only[go_sem,γ,δ,ε,ζ,η,θ,ι,κ,μ,ν,ξ,ο,ρ,σ,τ,υ,reduceIte,reduceCtorEq,acB,acF,bwN]
   by_cases hlt:k<l.length
   ·have buP:(k:Int)<(l.length:Nat):=by omega
    have hqk:q k=(decide (((l[k]).length:Int)=eW f k)&&!decide (CH f l[k]≥0)):=by
     rw[← hq,← show l.getD k []=l[k] by simp[bxI,hlt]]; exact a0X f l k
    have hrl:(l[k]).length≤16777216:=by
     have h1:=atT l (k+1)
     have:=hl.all
     rw[JU l hlt,bwW] at h1
     omega
    have hat:(l.map fun r=>[ints r])[k]?=some [ints l[k]]:=by simp[hlt]
    generalize l[k]=row at *
    simp only[go_sem,γ,δ,ε,ζ,η,θ,ι,κ,μ,ν,ξ,ο,ρ,σ,τ,υ,reduceIte,reduceCtorEq,buP]
    refine bM .nil (ssS f row) PH.nil_le ?_
    simp only[go_sem,γ,δ,ε,ζ,η,θ,ι,κ,μ,ν,ξ,ο,ρ,σ,τ,υ,reduceIte,reduceCtorEq,acG,hat,bwN]
    refine bF (a6S f row k) (L.TS f k hV Om) Sq PH.nil_le ?_
    by_cases c1:((row.length:Nat):Int)=eW f k
    ·rw[decide_eq_true c1,bwY] at hqk
     simp only[go_sem,γ,δ,ε,ζ,η,θ,ι,κ,μ,ν,ξ,ο,ρ,σ,τ,υ,reduceIte,reduceCtorEq,cO c1,hat]
     refine bF (show ssS f row 89 [.agg f.cells,ints row]=some ([],fun _=>aC (.int .i64 (CH f row))) from rfl) (L.bad f row hrl) Sq PH.nil_le ?_
     by_cases c2:CH f row≥0
     ·rw[decide_eq_true c2] at hqk
      simp only[go_sem,γ,δ,ε,ζ,η,θ,ι,κ,μ,ν,ξ,ο,ρ,σ,τ,υ,reduceIte,reduceCtorEq,c2,GH]
      refine aI (.inr rfl) Ev ?_
      rw[aT,show (bwO l.length).all q=false from dJ hlt hqk]
     ·rw[decide_eq_false c2] at hqk
      simp only[go_sem,γ,δ,ε,ζ,η,θ,ι,κ,μ,ν,ξ,ο,ρ,σ,τ,υ,reduceIte,reduceCtorEq,c2,acH,wZz k]
      exact aJ (k+1) ⟨hlt,ha.step hqk⟩ Om Lq PH.nil_le
    ·rw[decide_eq_false c1,bwT] at hqk
     simp only[go_sem,γ,δ,ε,ζ,η,θ,ι,κ,μ,ν,ξ,ο,ρ,σ,τ,υ,reduceIte,reduceCtorEq,dA c1,GH]
     refine aI (.inr rfl) Ev ?_
     rw[aT,show (bwO l.length).all q=false from dJ hlt hqk]
   ·have buP:¬ (k:Int)<(l.length:Nat):=by omega
    have:k=l.length:=by omega
    subst this
    simp only[go_sem,γ,δ,ε,ζ,η,θ,ι,κ,μ,ν,ξ,ο,ρ,σ,τ,υ,reduceIte,reduceCtorEq,buP,acI]
    refine aI (.inr rfl) Ev ?_
    rw[aT,show (bwO l.length).all q=true from ha]
  ·have c':(((l.length:Nat):Int) != ((f.buK.length:Nat):Int))=true:=dA Om
   simp only[go_sem,γ,δ,ε,ζ,η,θ,ι,κ,μ,ν,ξ,ο,ρ,σ,τ,υ,reduceIte,reduceCtorEq,bwU,bwN,c',GG]
   refine aI (.inr rfl) Ev ?_
   rw[aT,decide_eq_false c]; simp
theorem aDB {C:Ctx} (L:a9B C) (f:aL) (hf:f.Ok) (room:List Int) :
  GF.wp C (aS acA.res (jV 1 (bT (abW f room)))) (PF.args [.agg f.cells,ints room]) .nil:=by
 simp only[go_sem,γ,δ,ε,ζ,η,θ,ι,κ,μ,ν,ξ,ο,ρ,σ,τ,υ,reduceIte,reduceCtorEq,GF,aDC,aDD,acA]
 refine aA (L.valid f hf) Sq ?_
 unfold abW
 cases hv:dH f with
 | false =>
  simp only[go_sem,γ,δ,ε,ζ,η,θ,ι,κ,μ,ν,ξ,ο,ρ,σ,τ,υ,reduceIte,reduceCtorEq,bxB,aDE]
  exact BM (.inr rfl) Ev
 | true =>
  have hV:=VF.of hv
  have hd24:=hV.small.buH
  have hRl:=MP f room
  simp only[go_sem,γ,δ,ε,ζ,η,θ,ι,κ,μ,ν,ξ,ο,ρ,σ,τ,υ,reduceIte,reduceCtorEq,bwU,aDF,aDG]
  refine wp_loop (α:=Nat × PV × PH) (fun t=>((((PF.nil.set 1 (ints room)).set 2 (.buR f.cells)).set 5 (t.2.1)).set 6 (.int .i64 t.1))) (fun t=>t.2.2) (fun t=>t.1≤f.buH.length∧bR t.2.2 1 t.2.1 (bT ((fB f room).take t.1))) (fun t=>f.buH.length-t.1) (0,.buJ,.nil) ⟨bwZ _,.nil⟩ Lq PH.nil_le ?_
  rintro⟨k,v,H0⟩ ⟨hk,hO⟩
  simp only at hk hO ⊢
  simp only[go_sem,γ,δ,ε,ζ,η,θ,ι,κ,μ,ν,ξ,ο,ρ,σ,τ,υ,reduceIte,reduceCtorEq,anI,aDH,bwN]
  by_cases hlt:k<f.buH.length
  ·have buP:(k:Int)<(f.buH.length:Nat):=by omega
   obtain⟨hm,he⟩:=hV.aYE hlt
   have hmo:=hV.model _ (bwS hm)
   rw[he] at hmo
   have h11:(1:Nat)*1≤16777216:=by decide
   have bvF:=aVW f room hlt
   have rest:∀ (x:Int) (F:PF),x=qH f room k→((((((PF.nil.set 1 (ints room)).set 2 (.buR f.cells)).set 5 (v)).set 6 (.int .i64 k)).set 7 (.int .i64 x)):PF).le F →
     aB.wp C (.region VQ) (dR 1 (gW C (aB.wp C (.region NA)) (eA (fun t:Nat × PV × PH=>((((PF.nil.set 1 (ints room)).set 2 (.buR f.cells)).set 5 (t.2.1)).set 6 (.int .i64 t.1))) (fun t=>t.2.2) (fun t=>t.1≤f.buH.length∧bR t.2.2 1 t.2.1 (bT ((fB f room).take t.1))) (fun t=>f.buH.length-t.1) (f.buH.length-k) (dR 0 (gW C (aB.wp C (.seq (.region NB) .ret)) (aS [.tmp 4] (bV (ints (fB f room))))))))) F H0:=by
    intro x F hx hF
    refine rX _ (fun _ _ _ _ a b=>Up.up a b) hF ?_
    simp only[go_sem,γ,δ,ε,ζ,η,θ,ι,κ,μ,ν,ξ,ο,ρ,σ,τ,υ,reduceIte,reduceCtorEq,VQ,h11]
    refine fN (src:=[[.int .i64 x]]) hO Sq (by unfold roomFor; rw[pV,bxE]; simp only[bxD,maxLen]; omega) fun v' H' hO' _=>?_
    rw[aUM,hx,← bvF] at hO'
    simp only[go_sem,γ,δ,ε,ζ,η,θ,ι,κ,μ,ν,ξ,ο,ρ,σ,τ,υ,reduceIte,reduceCtorEq,NA,wZz k]
    exact aJ (k+1,v',H') ⟨hlt,hO'⟩ (by simp only; omega) Lq PH.le_refl
   simp only[aB.wp,go_sem] at rest
   simp only[go_sem,γ,δ,ε,ζ,η,θ,ι,κ,μ,ν,ξ,ο,ρ,σ,τ,υ,reduceIte,reduceCtorEq,buP]
   refine bM .nil dV PH.nil_le ?_
   simp only[go_sem,γ,δ,ε,ζ,η,θ,ι,κ,μ,ν,ξ,ο,ρ,σ,τ,υ,reduceIte,reduceCtorEq,aDI,ajS hlt,hV.bfY hlt,aZG hm,he]
   by_cases c:room.length=f.buH.length
   ·have hrk:k<room.length:=by omega
    have hrr:(room.map fun n=>[PV.int .i64 n])[k]?=some [.int .i64 room[k]]:=by simp[hrk]
    simp only[go_sem,γ,δ,ε,ζ,η,θ,ι,κ,μ,ν,ξ,ο,ρ,σ,τ,υ,reduceIte,reduceCtorEq,VP,bwN,bX (Om:((room.length:Nat):Int)=(f.buH.length:Nat)),aDJ,hrr,max_eq,bbQ]
    refine rest _ _ ?_ Lq
    rw[qH,if_pos c,bbP Om,bxI,bxA hrk,bzG]
   ·simp only[go_sem,γ,δ,ε,ζ,η,θ,ι,κ,μ,ν,ξ,ο,ρ,σ,τ,υ,reduceIte,reduceCtorEq,VP,bwN,bD (Om:((room.length:Nat):Int)≠(f.buH.length:Nat))]
    refine rest _ _ ?_ Lq
    rw[qH,if_neg c]
  ·have buP:¬ (k:Int)<(f.buH.length:Nat):=by omega
   have:k=f.buH.length:=by omega
   subst this
   rw[← hRl,bxM] at hO
   simp only[go_sem,γ,δ,ε,ζ,η,θ,ι,κ,μ,ν,ξ,ο,ρ,σ,τ,υ,reduceIte,reduceCtorEq,buP,NB]
   exact FY (.inr rfl) hO Sq
structure a8H (C:Ctx):Prop where
 begin:∀ n:Int,aE C 144 [.int .i64 n] .nil (aC (AV n))
 step:∀ n p w e:Int,aE C 145 [.int .i64 n,.agg [.int .i64 p,.int .i64 w],.int .i64 e] .nil (aC (mC (mB n p w e)))
 same:∀ xs ys:List Int,xs.length≤9223372036854775806→aE C 91 [ints xs,ints ys] .nil (aC (.bool (xs==ys)))
 upd:∀ (ws:List (List Int)) (p w:Int),ws.length≤1000000→ws.flatten.length≤1000000→aE C 146 [lists ws,.agg [.int .i64 p,.int .i64 w]] .nil (aC (ints (NS ws p w)))
theorem aXL {C:Ctx} (L:a8H C):CG.wp C (aS WW.res (aC (.bool true))) (PF.args []) .nil:=by
 simp only[go_sem,γ,δ,ε,ζ,η,θ,ι,κ,μ,ν,ξ,ο,ρ,σ,τ,υ,reduceIte,reduceCtorEq,CG,arV,arW,WW]
 refine aA (L.begin 1) Ev ?_
 simp only[go_sem,γ,δ,ε,ζ,η,θ,ι,κ,μ,ν,ξ,ο,ρ,σ,τ,υ,reduceIte,reduceCtorEq,AV]
 refine aP fun o1 k1=>?_
 simp only[go_sem,γ,δ,ε,ζ,η,θ,ι,κ,μ,ν,ξ,ο,ρ,σ,τ,υ,reduceIte,reduceCtorEq,arX]
 refine aA (L.step 1 1 0 1) Ev ?_
 rw[show mB 1 1 0 1=((2,0),0) by decide]
 simp only[go_sem,γ,δ,ε,ζ,η,θ,ι,κ,μ,ν,ξ,ο,ρ,σ,τ,υ,reduceIte,reduceCtorEq,mC,stV]
 refine aP fun o2 k2=>?_
 have n21:¬ o2=o1:=(cS.1 k2).1
 have n12:¬ o1=o2:=fun h=>n21 h.symm
 simp only[go_sem,γ,δ,ε,ζ,η,θ,ι,κ,μ,ν,ξ,ο,ρ,σ,τ,υ,reduceIte,reduceCtorEq,arY,n21,n12]
 refine aA (L.step 1 2 0 2) Ev ?_
 rw[show mB 1 2 0 2=((3,0),0) by decide]
 simp only[go_sem,γ,δ,ε,ζ,η,θ,ι,κ,μ,ν,ξ,ο,ρ,σ,τ,υ,reduceIte,reduceCtorEq,mC,stV,n21,n12]
 refine aP fun o4 k4=>?_
 have n42:¬ o4=o2:=(cS.1 k4).1
 have n41:¬ o4=o1:=(cS.1 (cS.1 k4).2).1
 have n24:¬ o2=o4:=fun h=>n42 h.symm
 have n14:¬ o1=o4:=fun h=>n41 h.symm
 simp only[go_sem,γ,δ,ε,ζ,η,θ,ι,κ,μ,ν,ξ,ο,ρ,σ,τ,υ,reduceIte,reduceCtorEq,arZ,n21,n12,n42,n41,n24,n14]
 refine aA (L.step 1 3 0 3) Ev ?_
 rw[show mB 1 3 0 3=((4,0),0) by decide]
 simp only[go_sem,γ,δ,ε,ζ,η,θ,ι,κ,μ,ν,ξ,ο,ρ,σ,τ,υ,reduceIte,reduceCtorEq,mC,stV,n21,n12,n42,n41,n24,n14]
 refine aP fun o6 k6=>?_
 have n64:¬ o6=o4:=(cS.1 k6).1
 have n62:¬ o6=o2:=(cS.1 (cS.1 k6).2).1
 have n61:¬ o6=o1:=(cS.1 (cS.1 (cS.1 k6).2).2).1
 have n46:¬ o4=o6:=fun h=>n64 h.symm
 have n26:¬ o2=o6:=fun h=>n62 h.symm
 have n16:¬ o1=o6:=fun h=>n61 h.symm
 simp only[go_sem,γ,δ,ε,ζ,η,θ,ι,κ,μ,ν,ξ,ο,ρ,σ,τ,υ,reduceIte,reduceCtorEq,asA,n21,n12,n42,n41,n24,n14,n64,n62,n61,n46,n26,n16]
 refine aA (L.step 1 4 0 1) Ev ?_
 rw[show mB 1 4 0 1=((0,0),110) by decide]
 simp only[go_sem,γ,δ,ε,ζ,η,θ,ι,κ,μ,ν,ξ,ο,ρ,σ,τ,υ,reduceIte,reduceCtorEq,mC,stV]
 refine aP fun o8 k8=>?_
 have n86:¬ o8=o6:=(cS.1 k8).1
 have n81:¬ o8=o1:=(cS.1 (cS.1 (cS.1 (cS.1 k8).2).2).2).1
 have n68:¬ o6=o8:=fun h=>n86 h.symm
 have n18:¬ o1=o8:=fun h=>n81 h.symm
 simp only[go_sem,γ,δ,ε,ζ,η,θ,ι,κ,μ,ν,ξ,ο,ρ,σ,τ,υ,reduceIte,reduceCtorEq,asB,n21,n12,n42,n41,n24,n14,n64,n62,n61,n46,n26,n16,n86,n81,n68,n18]
 refine aA (L.upd [[2,1]] 4 0 (by decide) (by decide)) Ev ?_
 rw[show NS [[2,1]] 4 0=[1,2] by decide]
 simp only[go_sem,γ,δ,ε,ζ,η,θ,ι,κ,μ,ν,ξ,ο,ρ,σ,τ,υ,reduceIte,reduceCtorEq]
 refine aA (L.same [1,2] [1,2] (by decide)) Ev ?_
 simp only[go_sem,γ,δ,ε,ζ,η,θ,ι,κ,μ,ν,ξ,ο,ρ,σ,τ,υ,reduceIte,reduceCtorEq,show (([1,2]:List Int)==[1,2])=true from rfl]
 refine aA (L.begin 0) Ev ?_
 simp only[go_sem,γ,δ,ε,ζ,η,θ,ι,κ,μ,ν,ξ,ο,ρ,σ,τ,υ,reduceIte,reduceCtorEq,AV]
 refine aI (.inr rfl) Ev ?_
 rfl
def anX:Rg:=[iZ 4]
def anY:Rg:=[iZ 5]
def anZ:Rg:=[iA 6 (.mv (.const (.int .u64 0)))]
def aoA:Rg:=[iI 7 0]
def aoB:Rg:=[iM 10 7,iM 11 0,iN 12 11,iB 13 .lss 10 12]
def aoC:Rg:=[iM 16 6,iM 8 16]
def aoD:Rg:=[iM 17 7,iM 18 1,iN 19 18,iB 20 .lss 17 19]
def aoE:Rg:=[iM 21 8,iM 22 1,iM 23 7,iX 24 1 22 23,iL 25 24,iA 26 (.conv .u64 (Tm 25)),iB 27 .add 21 26,iM 8 27]
def NO:Rg:=[iM 28 0,iM 29 7,iX 30 1 28 29,iL 31 30,iA 32 (.conv .u64 (Tm 31)),iM 9 32]
def NP:Rg:=[iA 6 (.mv (.const (.int .u64 0)))]
def GU:Rg:=[iM 33 9,iM 34 8,iB 35 .lss 33 34]
def GW:Rg:=[iM 36 9,iA 37 (.bin .add (Tm 36) (.const (.int .u64 4294967296))),iM 9 37]
def GX:Rg:=[iA 6 (.mv (.const (.int .u64 1)))]
def tV:Rg:=[iM 38 5,iM 39 9,iM 40 8,iB 41 .sub 39 40,iA 42 (.conv .u32 (Tm 41)),iA 43 (.buO true 1 1 [(.int .u32 0)] [(0,(Tm 42))]),iA 44 (.append 1 4 (Tm 38) (Tm 43)),iM 5 44]
def tW:Rg:=[iM 14 7,iC 15 .add 14 1,iM 7 15]
def adF:aB:=(.seq (sq aoB (.cond (Tm 13) .skip (.exit 0))) (.seq (.block 1 (sq aoC (.seq (sq aoD (.cond (Tm 20) (.region aoE) .skip)) (sq NO (sq NP (.seq (sq GU (.cond (Tm 35) (sq GW (.region GX)) .skip)) (.region tV))))))) (.region tW)))
def adG:Rg:=[iM 45 5,iK 46 38 45,iM 4 46]
def zY:aB:=(sq anX (sq anY (sq anZ (.seq (sq aoA (.block 0 (.loop adF))) (sq adG .ret)))))
def a1K:List Nat:=[43]
def NN:aW:=⟨2,47,zY,[.tmp 4]⟩
def aFD:Rg:=[iZ 4]
def aFE:Rg:=[iZ 5]
def aFF:Rg:=[iA 6 (.mv (.const (.int .u64 0)))]
def aFG:Rg:=[iI 7 0]
def aFH:Rg:=[iM 9 7,iM 10 0,iN 11 10,iB 12 .lss 9 11,iM 13 12,gM 14 7 13 false,gM 15 1 13 false,gN 16 15 13 false,gB 17 .lss 14 16 13 false,iQ 18 13 17,iM 19 18,gM 20 6 19 false,iG 21 (.bin .gtr (Tm 20) (.const (.int .u64 0))) 19 false,iQ 22 19 21]
def VV:Rg:=[iM 25 6,iM 8 25]
def VW:Rg:=[iM 26 7,iM 27 0,iN 28 27,iB 29 .lss 26 28]
def VX:Rg:=[iM 30 8,iM 31 0,iM 32 7,iX 33 1 31 32,iL 34 33,iA 35 (.conv .u64 (Tm 34)),iB 36 .add 30 35,iM 8 36]
def GZ:Rg:=[iM 37 7,iM 38 1,iN 39 38,iB 40 .lss 37 39]
def HA:Rg:=[iM 41 8,iM 42 1,iM 43 7,iX 44 1 42 43,iL 45 44,iA 46 (.conv .u64 (Tm 45)),iB 47 .add 41 46,iM 8 47]
def xS:Rg:=[iM 48 5,iM 49 8,iA 50 (.conv .u32 (Tm 49)),iA 51 (.buO true 1 1 [(.int .u32 0)] [(0,(Tm 50))]),iA 52 (.append 1 4 (Tm 48) (Tm 51)),iM 5 52]
def xT:Rg:=[iM 53 8,iA 54 (.bin .shr (Tm 53) (.const (.int .u64 32))),iM 6 54]
def xU:Rg:=[iM 23 7,iC 24 .add 23 1,iM 7 24]
def aoF:aB:=(.seq (sq aFH (.cond (Tm 22) .skip (.exit 0))) (.seq (.block 1 (sq VV (.seq (sq VW (.cond (Tm 29) (.region VX) .skip)) (.seq (sq GZ (.cond (Tm 40) (.region HA) .skip)) (sq xS (.region xT)))))) (.region xU)))
def NU:Rg:=[iM 55 5,iK 56 38 55,iM 4 56]
def GY:aB:=(sq aFD (sq aFE (sq aFF (.seq (sq aFG (.block 0 (.loop aoF))) (sq NU .ret)))))
def a7L:List Nat:=[51]
def adH:aW:=⟨2,57,GY,[.tmp 4]⟩
def aoH:Rg:=[iZ 4]
def aoI:Rg:=[iM 10 0,iN 11 10,iM 12 1,iN 13 12,iB 14 .add 11 13,iA 15 (.buT 1 4 [(.int .u32 0)] (Tm 14) (Tm 14)),iM 5 15]
def aoJ:Rg:=[iI 6 0]
def aoK:Rg:=[iM 16 6,iM 17 0,iN 18 17,iB 19 .lss 16 18]
def NX:Rg:=[iA 7 (.mv (.const (.int .u64 0)))]
def NY:Rg:=[iI 8 0]
def aoL:Rg:=[iM 22 8,iM 23 1,iN 24 23,iB 25 .lss 22 24]
def aoM:Rd:=[(iM 28 0,false),(iM 29 6,false),(iX 30 1 28 29,false),(iL 31 30,false),(iA 32 (.conv .u64 (Tm 31)),false),(iM 33 1,false),(iM 34 8,false),(iX 35 1 33 34,false),(iL 36 35,false),(iA 37 (.conv .u64 (Tm 36)),false),(iB 38 .mul 32 37,false),(iM 39 5,false),(iM 40 6,false),(iM 41 8,false),(iB 42 .add 40 41,false),(iX 43 1 39 42,false),(iL 44 43,false),(iA 45 (.conv .u64 (Tm 44)),false),(iB 46 .add 38 45,false),(iM 47 7,false),(iB 48 .add 46 47,false),(iM 9 48,false)]
def aoN:Rg:=[iM 49 5,iM 50 6,iM 51 8,iB 52 .add 50 51,iM 53 9,iA 54 (.conv .u32 (Tm 53)),iX 55 1 49 52,iS 1 55 54]
def aoO:Rg:=[iM 56 9,iA 57 (.bin .shr (Tm 56) (.const (.int .u64 32))),iM 7 57]
def adJ:Rg:=[iM 26 8,iC 27 .add 26 1,iM 8 27]
def HB:aB:=(.seq (sq aoL (.cond (Tm 25) .skip (.exit 2))) (.seq (.block 3 (dq aoM (sq aoN (.region aoO)))) (.region adJ)))
def HC:Rg:=[iM 58 5,iM 59 6,iM 60 1,iN 61 60,iB 62 .add 59 61,iM 63 7,iA 64 (.conv .u32 (Tm 63)),iX 65 1 58 62,iS 1 65 64]
def adK:Rg:=[iM 20 6,iC 21 .add 20 1,iM 6 21]
def adI:aB:=(.seq (sq aoK (.cond (Tm 19) .skip (.exit 0))) (.seq (.block 1 (sq NX (.seq (sq NY (.block 2 (.loop HB))) (.region HC)))) (.region adK)))
def adL:Rg:=[iM 66 5,iK 67 38 66,iM 4 67]
def AA:aB:=(sq aoH (sq aoI (.seq (sq aoJ (.block 0 (.loop adI))) (sq adL .ret))))
def a1M:List Nat:=[]
def NW:aW:=⟨2,68,AA,[.tmp 4]⟩
def aPC:Rg:=[iZ 4,iI 5 0]
def aPD:Rg:=[iM 7 0,iK 8 41 7,iM 9 8,gM 10 1 9 false,gK 11 41 10 9 false,iQ 12 9 11]
def aiJ:Rg:=[iZ 4,iI 5 2]
def aPE:Rg:=[iM 13 0,iK 14 38 13,iM 15 1,iK 16 38 15,iK2 17 43 14 16,iM 6 17]
def aPF:Rg:=[iM 18 6,iK 19 41 18]
def aPG:Rg:=[iZ 4,iI 5 2]
def aPH:Rg:=[iM 20 6,iM 4 20,iI 5 0]
def NG:aB:=(sq aPC (.seq (sq aPD (.cond (Tm 12) (sq aiJ .ret) .skip)) (sq aPE (.seq (sq aPF (.cond (Tm 19) (sq aPG .ret) .skip)) (sq aPH .ret)))))
def bdD:List Nat:=[]
def aDW:aW:=⟨2,21,NG,[.tmp 4,.tmp 5]⟩
def aQO:Rg:=[iZ 4,iI 5 0]
def aQP:Rg:=[iM 6 0,iK 7 41 6,iM 8 7,gM 9 1 8 false,gK 10 41 9 8 false,iQ 11 8 10]
def aiP:Rg:=[iZ 4,iI 5 2]
def aQQ:Rg:=[iM 12 0,iM 13 1,iK2 14 32 12 13,iC 15 .lss 14 0]
def aQR:Rg:=[iZ 4,iI 5 4]
def aQS:Rg:=[iM 16 0,iK 17 38 16,iM 18 1,iK 19 38 18,iK2 20 42 17 19,iM 4 20,iI 5 0]
def NV:aB:=(sq aQO (.seq (sq aQP (.cond (Tm 11) (sq aiP .ret) .skip)) (.seq (sq aQQ (.cond (Tm 15) (sq aQR .ret) .skip)) (sq aQS .ret))))
def bdR:List Nat:=[]
def aFI:aW:=⟨2,21,NV,[.tmp 4,.tmp 5]⟩
def aQG:Rg:=[iZ 4,iI 5 0]
def aQH:Rg:=[iM 7 0,iK 8 41 7,iM 9 8,gM 10 1 9 false,gK 11 41 10 9 false,iQ 12 9 11]
def aiM:Rg:=[iZ 4,iI 5 2]
def aQI:Rg:=[iM 13 0,iK 14 38 13,iM 15 1,iK 16 38 15,iK2 17 44 14 16,iM 6 17]
def aQJ:Rg:=[iM 18 6,iK 19 41 18]
def aQK:Rg:=[iZ 4,iI 5 2]
def aQL:Rg:=[iM 20 6,iM 4 20,iI 5 0]
def NQ:aB:=(sq aQG (.seq (sq aQH (.cond (Tm 12) (sq aiM .ret) .skip)) (sq aQI (.seq (sq aQJ (.cond (Tm 19) (sq aQK .ret) .skip)) (sq aQL .ret)))))
def bdL:List Nat:=[]
def aFA:aW:=⟨2,21,NQ,[.tmp 4,.tmp 5]⟩
def aDZ:Rg:=[iI 2 0]
def aEA:Rg:=[iM 5 0,iK 6 38 5,iM 0 6]
def aEB:Rg:=[iM 7 0,iN 8 7,iC 9 .eql 8 0]
def aEC:Rg:=[iI 2 0]
def aED:Rg:=[iM 10 0,iN 11 10,iC 12 .sub 11 1,iA 13 (.bin .mul (Ci 32) (Tm 12)),iM 3 13]
def aEE:Rg:=[iM 14 0,iM 15 0,iN 16 15,iC 17 .sub 16 1,iX 18 1 14 17,iL 19 18,iM 4 19]
def aEF:Rg:=[iM 20 4,iA 21 (.bin .gtr (Tm 20) (.const (.int .u32 0)))]
def aEG:Rg:=[iM 24 3,iC 25 .add 24 1,iM 3 25]
def aEH:Rg:=[iM 22 4,iA 23 (.bin .quo (Tm 22) (.const (.int .u32 2))),iM 4 23]
def aDY:aB:=(.seq (sq aEF (.cond (Tm 21) .skip (.exit 0))) (.seq (.block 1 (.region aEG)) (.region aEH)))
def anS:Rg:=[iM 26 3,iM 2 26]
def GN:aB:=(sq aDZ (sq aEA (.seq (sq aEB (.cond (Tm 9) (sq aEC .ret) .skip)) (sq aED (.seq (sq aEE (.block 0 (.loop aDY))) (sq anS .ret))))))
def a6Z:List Nat:=[]
def acV:aW:=⟨1,27,GN,[.tmp 2]⟩
def a1N:Rg:=[iZ 4]
def a1O:Rg:=[iM 9 0,iN 10 9,iC 11 .eql 10 0]
def a1P:Rg:=[iZ 4]
def a1Q:Rg:=[iM 12 1,iC 13 .quo 12 32,iA 14 (.buT 1 4 [(.int .u32 0)] (Tm 13) (Tm 13)),iM 5 14]
def a1R:Rg:=[iA 6 (.mv (.const (.int .u64 0)))]
def a1S:Rg:=[iI 7 0]
def a1T:Rg:=[iM 15 7,iM 16 0,iN 17 16,iB 18 .lss 15 17]
def a1U:Rg:=[iM 21 0,iM 22 7,iX 23 1 21 22,iL 24 23,iA 25 (.conv .u64 (Tm 24)),iM 26 1,iC 27 .rem 26 32,iA 28 (.conv .u64 (Tm 27)),iB 29 .shl 25 28,iM 30 6,iB 31 .or 29 30,iM 8 31]
def a1V:Rg:=[iM 32 5,iM 33 8,iA 34 (.conv .u32 (Tm 33)),iA 35 (.buO true 1 1 [(.int .u32 0)] [(0,(Tm 34))]),iA 36 (.append 1 4 (Tm 32) (Tm 35)),iM 5 36]
def a1W:Rg:=[iM 37 8,iA 38 (.bin .shr (Tm 37) (.const (.int .u64 32))),iM 6 38]
def aQU:Rg:=[iM 19 7,iC 20 .add 19 1,iM 7 20]
def aQT:aB:=(.seq (sq a1T (.cond (Tm 18) .skip (.exit 0))) (.seq (.block 1 (sq a1U (sq a1V (.region a1W)))) (.region aQU)))
def aQV:Rg:=[iM 39 5,iM 40 6,iA 41 (.conv .u32 (Tm 40)),iA 42 (.buO true 1 1 [(.int .u32 0)] [(0,(Tm 41))]),iA 43 (.append 1 4 (Tm 39) (Tm 42)),iK 44 38 43,iM 4 44]
def VZ:aB:=(sq a1N (.seq (sq a1O (.cond (Tm 11) (sq a1P .ret) .skip)) (sq a1Q (sq a1R (.seq (sq a1S (.block 0 (.loop aQT))) (sq aQV .ret))))))
def bgW:List Nat:=[35,42]
def uup:aW:=⟨2,45,VZ,[.tmp 4]⟩
def aEO:Rg:=[iZ 4]
def aEP:Rg:=[iM 8 1,iC 9 .quo 8 32,iM 10 0,iN 11 10,iB 12 .geq 9 11]
def aEQ:Rg:=[iZ 4]
def aER:Rg:=[iZ 5]
def aES:Rg:=[iM 13 1,iC 14 .quo 13 32,iM 6 14]
def aET:Rg:=[iM 15 6,iM 16 0,iN 17 16,iB 18 .lss 15 17]
def aEU:Rg:=[iM 21 0,iM 22 6,iX 23 1 21 22,iL 24 23,iA 25 (.conv .u64 (Tm 24)),iM 7 25]
def aEV:Rg:=[iM 26 6,iC 27 .add 26 1,iM 28 0,iN 29 28,iB 30 .lss 27 29]
def aEW:Rg:=[iM 31 7,iM 32 0,iM 33 6,iC 34 .add 33 1,iX 35 1 32 34,iL 36 35,iA 37 (.conv .u64 (Tm 36)),iA 38 (.bin .shl (Tm 37) (.const (.int .u64 32))),iB 39 .or 31 38,iM 7 39]
def VT:Rg:=[iM 40 5,iM 41 7,iM 42 1,iC 43 .rem 42 32,iA 44 (.conv .u64 (Tm 43)),iB 45 .shr 41 44,iA 46 (.conv .u32 (Tm 45)),iA 47 (.buO true 1 1 [(.int .u32 0)] [(0,(Tm 46))]),iA 48 (.append 1 4 (Tm 40) (Tm 47)),iM 5 48]
def NK:Rg:=[iM 19 6,iC 20 .add 19 1,iM 6 20]
def anT:aB:=(.seq (sq aET (.cond (Tm 18) .skip (.exit 0))) (.seq (.block 1 (sq aEU (.seq (sq aEV (.cond (Tm 30) (.region aEW) .skip)) (.region VT)))) (.region NK)))
def anU:Rg:=[iM 49 5,iK 50 38 49,iM 4 50]
def GR:aB:=(sq aEO (.seq (sq aEP (.cond (Tm 12) (sq aEQ .ret) .skip)) (sq aER (.seq (sq aES (.block 0 (.loop anT))) (sq anU .ret)))))
def a7D:List Nat:=[47]
def adD:aW:=⟨2,51,GR,[.tmp 4]⟩
def apG:Rg:=[iA 1 (.box true (Tm 0)),iT 2 false]
def apH:Rg:=[iF 3 2 1,iL 4 3,iK 5 38 4,iN 6 5,iC 7 .gtr 6 0,iM 8 7,gF 9 2 1 8 true,gL 10 9 8 true,gK 11 38 10 8 true,gN 12 11 8 true,gC 13 .leq 12 128 8 true,iP 14 8 13,iM 15 14,gF 16 1 1 15 true,gL 17 16 15 true,gK 18 38 17 15 true,gN 19 18 15 true,gC 20 .leq 19 128 15 true,iP 21 15 20,iM 2 21]
def AE:aB:=(sq apG (sq apH .ret))
def a2G:List Nat:=[1]
def OG:aW:=⟨1,22,AE,[.tmp 2]⟩
def aoR:Rg:=[iA 1 (.box true (Tm 0)),iT 2 false]
def aoS:Rg:=[iF 3 1 1,iL 4 3,iN 5 4,iC 6 .gtr 5 128,iM 7 6,gF 8 2 1 7 false,gL 9 8 7 false,gN 10 9 7 false,gC 11 .gtr 10 128 7 false,iQ 12 7 11,iM 2 12]
def AB:aB:=(sq aoR (sq aoS .ret))
def a2A:List Nat:=[1]
def OC:aW:=⟨1,13,AB,[.tmp 2]⟩
def aFR:Rg:=[iA 1 (.box true (Tm 0)),iA 2 (.alloc [(.bool false),.buJ,.buJ]),iI 3 0]
def aFS:Rg:=[iO 4 3 1,iK 5 48 4]
def aFT:Rg:=[iA 6 (.build [(.bool false),.buJ,.buJ] []),iS 3 2 6,iI 3 2]
def aFU:Rg:=[iO 7 3 1,iS 3 2 7,iI 3 0]
def HE:aB:=(sq aFR (.seq (sq aFS (.cond (Tm 5) (sq aFT .ret) .skip)) (sq aFU .ret)))
def a7Q:List Nat:=[1]
def adN:aW:=⟨1,8,HE,[.cell 2 (some 3),.tmp 3]⟩
def adW:Rg:=[iA 1 (.box true (Tm 0)),iA 2 (.alloc [(.bool false),.buJ,.buJ]),iI 3 0]
def adX:Rg:=[iO 4 3 1,iK 5 56 4,iA 6 (.un .not (Tm 5))]
def adY:Rg:=[iA 7 (.build [(.bool false),.buJ,.buJ] []),iS 3 2 7,iI 3 1]
def adZ:Rg:=[iF 8 0 1,iL 9 8,iF 10 1 1,iL 11 10,iF 12 2 1,iL 13 12,iA 14 (.call 58 [(Tm 9),(Tm 11),(Tm 13)]),iS 3 2 14,iI 3 0]
def wG:aB:=(sq adW (.seq (sq adX (.cond (Tm 6) (sq adY .ret) .skip)) (sq adZ .ret)))
def aWX:List Nat:=[1]
def BY:aW:=⟨1,15,wG,[.cell 2 (some 3),.tmp 3]⟩
def apD:Rg:=[iZ 4]
def apE:Rg:=[iM 8 0,iM 9 1,iK2 10 36 8 9,iM 7 10,iE 11 7 0,iE 12 7 1,iM 5 11,iM 6 12]
def apF:Rg:=[iM 13 5,iM 4 13]
def AD:aB:=(sq apD (sq apE (sq apF .ret)))
def a2E:List Nat:=[]
def OF:aW:=⟨2,14,AD,[.tmp 4]⟩
def aoT:Rg:=[iA 2 (.box true (Tm 0)),iA 3 (.box true (Tm 1)),iI 4 0]
def aoU:Rd:=[(iF 9 1 2,false),(iL 10 9,false),(iF 11 2 3,false),(iL 12 11,false),(iK2 13 60 10 12,true),(iF 14 1 3,true),(iL 15 14,true),(iF 16 2 2,true),(iL 17 16,true),(iK2 18 60 15 17,true),(iM 5 13,false),(iM 6 18,false)]
def aoV:Rg:=[iF 19 0 2,iL 20 19,iM 21 20,gM 22 5 21 true,gN 23 22 21 true,gC 24 .gtr 23 0 21 true,iP 25 21 24,iF 26 0 3,iL 27 26,iM 28 27,gM 29 6 28 true,gN 30 29 28 true,gC 31 .gtr 30 0 28 true,iP 32 28 31,iM 7 25,iM 8 32]
def aoW:Rg:=[iM 34 7,iM 35 34,gM 36 8 35 true,iG 37 (.un .not (Tm 36)) 35 true,iP 38 35 37,iM 33 38]
def aoX:Rg:=[iI 4 (-1)]
def aoY:Rg:=[iM 40 8,iM 41 40,gM 42 7 41 true,iG 43 (.un .not (Tm 42)) 41 true,iP 44 41 43,iM 39 44]
def aoZ:Rg:=[iI 4 1]
def apA:Rg:=[iM 46 7,iM 45 46]
def apB:Rg:=[iM 47 6,iM 48 5,iK2 49 32 47 48,iM 4 49]
def apC:Rg:=[iM 50 5,iM 51 6,iK2 52 32 50 51,iM 4 52]
def AC:aB:=(sq aoT (dq aoU (sq aoV (.seq (.block 0 (sq aoW (.cond (Tm 33) (sq aoX .ret) (sq aoY (.cond (Tm 39) (sq aoZ .ret) (sq apA (.cond (Tm 45) (sq apB .ret) .skip))))))) (sq apC .ret)))))
def a2C:List Nat:=[2,3]
def OD:aW:=⟨2,53,AC,[.tmp 4]⟩
def aFW:Rg:=[iA 2 (.box true (Tm 0)),iA 3 (.box true (Tm 1)),iT 4 false]
def aFX:Rg:=[iO 5 3 2,iO 6 3 3,iK2 7 51 5 6,iC 8 .lss 7 0,iM 4 8]
def HF:aB:=(sq aFW (sq aFX .ret))
def a7T:List Nat:=[2,3]
def adP:aW:=⟨2,9,HF,[.tmp 4]⟩
def aGG:Rg:=[iA 2 (.box true (Tm 0)),iA 3 (.box true (Tm 1)),iT 4 false]
def aGH:Rg:=[iO 5 3 2,iO 6 3 3,iK2 7 51 5 6,iC 8 .eql 7 0,iM 4 8]
def HJ:aB:=(sq aGG (sq aGH .ret))
def a7X:List Nat:=[2,3]
def aeA:aW:=⟨2,9,HJ,[.tmp 4]⟩
def aGI:Rg:=[iA 1 (.box true (Tm 0)),iI 2 0]
def aGJ:Rd:=[(iO 3 3 1,true),(iA 4 (.call 47 [(Ci 0)]),true),(iK2 5 51 3 4,true),(iM 2 5,false)]
def HK:aB:=(sq aGI (dq aGJ .ret))
def a7Z:List Nat:=[1]
def aeB:aW:=⟨1,6,HK,[.tmp 2]⟩
def aQW:Rg:=[iA 2 (.box true (Tm 0)),iA 3 (.box true (Tm 1)),iA 4 (.alloc [(.bool false),.buJ,.buJ]),iI 5 0]
def aQX:Rg:=[iO 15 3 2,iK 16 56 15,iA 17 (.un .not (Tm 16)),iM 18 17,gO 19 3 3 18 false,gK 20 56 19 18 false,iG 21 (.un .not (Tm 20)) 18 false,iQ 22 18 21]
def aiR:Rg:=[iA 23 (.build [(.bool false),.buJ,.buJ] []),iS 3 4 23,iI 5 1]
def aQY:Rd:=[(iF 24 1 2,false),(iL 25 24,false),(iF 26 2 3,false),(iL 27 26,false),(iK2 28 60 25 27,true),(iF 29 1 3,true),(iL 30 29,true),(iF 31 2 2,true),(iL 32 31,true),(iK2 33 60 30 32,true),(iF 34 2 2,true),(iL 35 34,true),(iF 36 2 3,true),(iL 37 36,true),(iK2 38 60 35 37,true),(iM 6 28,false),(iM 7 33,false),(iM 8 38,false)]
def aQZ:Rg:=[iF 39 0 2,iL 40 39,iF 41 0 3,iL 42 41,iA 43 (.eqb false (Tm 40) (Tm 42))]
def aRA:Rg:=[iM 45 6,iM 46 7,iK2 47 30 45 46,iM 44 47,iE 48 44 0,iE 49 44 1,iM 9 48,iM 10 49]
def aRB:Rg:=[iF 50 0 2,iL 51 50,iM 52 9,iM 53 8,iA 54 (.call 58 [(Tm 51),(Tm 52),(Tm 53)]),iK 55 57 54,iE 56 55 0,iE 57 55 1,iS 3 4 56,iM 5 57]
def aRC:Rg:=[iM 58 6,iM 59 7,iK2 60 32 58 59,iC 61 .geq 60 0]
def aRD:Rg:=[iM 63 6,iM 64 7,iK2 65 37 63 64,iM 62 65,iE 66 62 0,iE 67 62 1,iM 11 66,iM 12 67]
def aRE:Rg:=[iF 68 0 2,iL 69 68,iM 70 11,iM 71 8,iA 72 (.call 58 [(Tm 69),(Tm 70),(Tm 71)]),iK 73 57 72,iE 74 73 0,iE 75 73 1,iS 3 4 74,iM 5 75]
def aFO:Rg:=[iM 77 7,iM 78 6,iK2 79 37 77 78,iM 76 79,iE 80 76 0,iE 81 76 1,iM 13 80,iM 14 81]
def aFP:Rg:=[iF 82 0 3,iL 83 82,iM 84 13,iM 85 8,iA 86 (.call 58 [(Tm 83),(Tm 84),(Tm 85)]),iK 87 57 86,iE 88 87 0,iE 89 87 1,iS 3 4 88,iM 5 89]
def xV:aB:=(sq aQW (.seq (sq aQX (.cond (Tm 22) (sq aiR .ret) .skip)) (dq aQY (.seq (sq aQZ (.cond (Tm 43) (sq aRA (sq aRB .ret)) .skip)) (.seq (sq aRC (.cond (Tm 61) (sq aRD (sq aRE .ret)) .skip)) (sq aFO (sq aFP .ret)))))))
def bdT:List Nat:=[2,3]
def aiQ:aW:=⟨2,90,xV,[.cell 4 (some 3),.tmp 5]⟩
def aRJ:Rg:=[iA 2 (.alloc [(.bool false),.buJ,.buJ]),iI 3 0]
def aRK:Rg:=[iA 8 (.call 47 [(Ci 0)]),iA 4 (.alloc [(.bool false),.buJ,.buJ]),iS 3 4 8]
def aRL:Rg:=[iI 5 0]
def aRM:Rg:=[iM 9 5,iM 10 0,iN 11 10,iB 12 .lss 9 11]
def aRN:Rd:=[(iO 16 3 4,false),(iM 17 0,false),(iM 18 5,false),(iX 19 3 17 18,false),(iO 20 3 19,false),(iK2 21 46 16 20,true),(iM 15 21,false),(iE 22 15 0,false),(iE 23 15 1,true),(iA 6 (.alloc [(.bool false),.buJ,.buJ]),true),(iS 3 6 22,true),(iM 7 23,false)]
def aiT:Rg:=[iM 24 7,iC 25 .neq 24 0]
def aRO:Rg:=[iA 26 (.build [(.bool false),.buJ,.buJ] []),iM 27 7,iS 3 2 26,iM 3 27]
def aRP:Rg:=[iO 28 3 6,iS 3 4 28]
def aRQ:Rg:=[iM 13 5,iC 14 .add 13 1,iM 5 14]
def aRI:aB:=(.seq (sq aRM (.cond (Tm 12) .skip (.exit 0))) (.seq (.block 1 (dq aRN (.seq (sq aiT (.cond (Tm 25) (sq aRO .ret) .skip)) (.region aRP)))) (.region aRQ)))
def aGP:Rg:=[iO 29 3 4,iS 3 2 29,iI 3 0]
def OE:aB:=(sq aRJ (sq aRK (.seq (sq aRL (.block 0 (.loop aRI))) (sq aGP .ret))))
def bdY:List Nat:=[]
def aGO:aW:=⟨1,30,OE,[.cell 2 (some 3),.tmp 3]⟩
def rH:Rg:=[iT 4 false]
def rI:Rg:=[iM 5 0,iC 6 .geq 5 1,iM 7 6,gM 8 0 7 true,gC 9 .leq 8 6 7 true,iP 10 7 9,iM 11 10,gM 12 1 11 true,gC 13 .geq 12 0 11 true,iP 14 11 13,iM 15 14,gM 16 1 15 true,gC 17 .leq 16 4 15 true,iP 18 15 17,iM 19 18,gM 20 0 19 true,gM 21 1 19 true,gB 22 .add 20 21 19 true,gC 23 .leq 22 8 19 true,iP 24 19 23,iM 4 24]
def lD:aB:=(sq rH (sq rI .ret))
def a6O:List Nat:=[]
def tT:aW:=⟨2,25,lD,[.tmp 4]⟩
def aeO:Rg:=[iT 2 false]
def aeP:Rg:=[iM 3 0,iA 4 (.bin .geq (Tm 3) (.const (.int .u8 97))),iM 5 4,gM 6 0 5 true,iG 7 (.bin .leq (Tm 6) (.const (.int .u8 122))) 5 true,iP 8 5 7,iM 9 8,gM 10 0 9 false,iG 11 (.bin .geq (Tm 10) (.const (.int .u8 65))) 9 false,gM 12 11 9 false,gM 13 0 12 true,iG 14 (.bin .leq (Tm 13) (.const (.int .u8 90))) 12 true,iG 15 (.pick (Tm 12) (Tm 14) (.const (.bool false))) 9 false,iQ 16 9 15,iM 2 16]
def wJ:aB:=(sq aeO (sq aeP .ret))
def aXD:List Nat:=[]
def CB:aW:=⟨1,17,wJ,[.tmp 2]⟩
def apI:Rg:=[iT 2 false]
def apJ:Rg:=[iM 3 0,iA 4 (.bin .geq (Tm 3) (.const (.int .u8 48))),iM 5 4,gM 6 0 5 true,iG 7 (.bin .leq (Tm 6) (.const (.int .u8 57))) 5 true,iP 8 5 7,iM 2 8]
def AG:aB:=(sq apI (sq apJ .ret))
def a2I:List Nat:=[]
def OH:aW:=⟨1,9,AG,[.tmp 2]⟩
def aeD:Rg:=[iT 2 false]
def aeE:Rg:=[iM 3 0,iK 4 65 3,iM 5 4,gM 6 0 5 false,gK 7 63 6 5 false,iQ 8 5 7,iM 9 8,gM 10 0 9 false,iG 11 (.bin .eql (Tm 10) (.const (.int .u8 45))) 9 false,iQ 12 9 11,iM 13 12,gM 14 0 13 false,iG 15 (.bin .eql (Tm 14) (.const (.int .u8 46))) 13 false,iQ 16 13 15,iM 2 16]
def wH:aB:=(sq aeD (sq aeE .ret))
def aWZ:List Nat:=[]
def BZ:aW:=⟨1,17,wH,[.tmp 2]⟩
def aeG:Rg:=[iT 2 false]
def aeH:Rg:=[iM 4 0,iA 5 (.bvR (Tm 4)),iC 6 .lss 5 1,iM 7 6,gM 8 0 7 false,iG 9 (.bvR (Tm 8)) 7 false,gC 10 .gtr 9 16 7 false,iQ 11 7 10,iM 12 11,gM 13 0 12 false,iG 14 (.bvS (Tm 13) (Ci 0)) 12 false,gK 15 65 14 12 false,iG 16 (.un .not (Tm 15)) 12 false,iQ 17 12 16]
def tZ:Rg:=[iT 2 false]
def aeI:Rg:=[iI 3 0]
def aeJ:Rg:=[iM 18 3,iM 19 0,iA 20 (.bvR (Tm 19)),iB 21 .lss 18 20]
def aeK:Rg:=[iM 24 0,iM 25 3,iA 26 (.bvS (Tm 24) (Tm 25)),iK 27 64 26,iA 28 (.un .not (Tm 27))]
def aeL:Rg:=[iT 2 false]
def aeM:Rg:=[iM 22 3,iC 23 .add 22 1,iM 3 23]
def aeF:aB:=(.seq (sq aeJ (.cond (Tm 21) .skip (.exit 0))) (.seq (.block 1 (sq aeK (.cond (Tm 28) (sq aeL .ret) .skip))) (.region aeM)))
def aeN:Rg:=[iT 2 true]
def wI:aB:=(sq aeG (.seq (sq aeH (.cond (Tm 17) (sq tZ .ret) .skip)) (.seq (sq aeI (.block 0 (.loop aeF))) (sq aeN .ret))))
def aXB:List Nat:=[]
def CA:aW:=⟨1,29,wI,[.tmp 2]⟩
theorem nD (P:List Nat) (v:Nat):aG P++[[.int .u32 (v:Int)]]=aG (P++[v]):=by simp[aG]
theorem nC {P:List Nat} (h:P.length≤35184372087808):roomFor (aG P).length 1 4:=by
 unfold roomFor
 rw[bO]
 simp only[maxLen]; omega
def PX (a b:List Nat) (v:PV) (c i:Nat):PF:=(((((PF.nil.set 0 (aD a)).set 1 (aD b)).set 5 (v)).set 6 (.int .u64 c)).set 7 (.int .i64 i))
theorem a1J {C:Ctx} (L:mT C) (a b:List Nat) (ha:Lim a) (hb:Lim b) (hle:val b≤val a) (hl:b.length≤a.length) (h1:a.length≤35184372087808) :
  zY.wp C (aS NN.res (bV (aD (aF (val a-val b))))) (PF.args [aD a,aD b]) .nil:=by
 simp only[go_sem,zY,anX,anY,anZ,aoA,NN]
 refine wp_loop (α:=List Nat × Nat × PV × PH) (fun s=>PX a b s.2.2.1 s.2.1 s.1.length) (fun s=>s.2.2.2)
  (fun s=>s.1.length≤a.length∧Lim s.1∧s.2.1≤1∧val (a.take s.1.length)+4294967296 ^ s.1.length*s.2.1=val s.1+val (b.take s.1.length)∧bR s.2.2.2 1 s.2.2.1 (aG s.1)) (fun s=>a.length-s.1.length) ([],0,.buJ,.nil) ⟨by simp,by simp[Lim],by simp,by simp[val],.nil⟩ ?_ PH.nil_le ?_
 ·unfold PX
  exact Lq
 rintro⟨P,c,v,H0⟩ ⟨hP,bvG,hc,bvC,hO⟩
 simp only at hP bvG hc bvC hO ⊢
 simp only[go_sem,γ,reduceCtorEq,adF,aoB,PX]
 by_cases c1:P.length<a.length
 ·have c1':(P.length:Int)<(a.length:Nat):=by omega
  have hai:=ha _ (bwS c1)
  have hta:=bS a c1
  have hac:(aG a)[P.length]?=some [.int .u32 ((a[P.length]:Nat):Int)]:=bG a c1
  generalize hx:a[P.length]=x at *
  have ex:IntKind.u64.wrap ((x:Nat):Int)=((x:Nat):Int):=bB Om
  have fin:∀ (t:Nat) (F':PF),t<4294967296→val (b.take (P.length+1))=val (b.take P.length)+4294967296 ^ P.length*t →
    F' 0=some (aD a)→F' 1=some (aD b)→F' 5=some v→F' 8=some (.int .u64 (c+t:Nat))→F' 7=some (.int .i64 P.length) →
    ∀ K:cI,(∀ P' c' v' F2 H2,P'.length=P.length+1→Lim P'→c'≤1→val (a.take (P.length+1))+4294967296 ^ P'.length*c'=val P'+val (b.take (P.length+1))→(PX a b v' c' P'.length).le F2→bR H2 1 v' (aG P')→K .normal F2 H2) →
    aB.wp C (.seq (.region NO) (.seq (.region NP) (.seq (.seq (.region GU) (.cond (.tmp 35) (.seq (.region GW) (.region GX)) .skip)) (.region tV)))) (dR 1 (gW C (aB.wp C (.region tW)) K)) F' H0:=by
   intro t F' ht htb g0 g1 g5 g8 g7 K hK
   have step:∀ (d c':Nat),d<4294967296→c'≤1→x+4294967296*c'=d+(c+t)→val (a.take (P.length+1))+4294967296 ^ (P.length+1)*c'=val (P++[d])+val (b.take (P.length+1)):=by
    intro d c' hd hc' he
    have h2:4294967296 ^ P.length*(x+4294967296*c')=4294967296 ^ P.length*(d+(c+t)):=by rw[he]
    rw[bwX,bwX,bwX] at h2
    rw[gR,byE,bxH,hta,htb]
    omega
   simp only[go_sem,γ,NO,g0,g7,hac,ex,NP,GU,g8]
   by_cases c2:x<c+t
   ·have c2':((x:Nat):Int)<((c+t:Nat):Int):=by omega
    have e1:IntKind.u64.wrap ((x:Int)+4294967296)=((x+4294967296:Nat):Int):=by
     rw[show (x:Int)+4294967296=((x+4294967296:Nat):Int) by omega]
     exact bB Om
    have e2:IntKind.u64.wrap (((x+4294967296:Nat):Int)-((c+t:Nat):Int))=((x+4294967296-(c+t):Nat):Int):=by
     rw[show ((x+4294967296:Nat):Int)-((c+t:Nat):Int)=((x+4294967296-(c+t):Nat):Int) by omega]
     exact bB Om
    have e3:IntKind.u32.wrap ((x+4294967296-(c+t):Nat):Int)=((x+4294967296-(c+t):Nat):Int):=by
     rw[bY,bxR Om]
    have hb1:(1:Nat)*1≤16777216:=by decide
    simp only[go_sem,υ,γ,η,ζ,c2',GW,e1,GX,tV,g5,g8,e2,e3,hb1]
    refine fN (src:=[[.int .u32 ((x+4294967296-(c+t):Nat):Int)]]) hO rfl (nC Om) fun v' H' hO' _=>?_
    rw[nD] at hO'
    simp only[go_sem,γ,tW,g7,cY (Om:P.length<9223372036854775807)]
    refine hK _ 1 v' _ H' (by simp) (bvG.app fun y hy=>by simp at hy; subst hy; omega) (bwR _) ?_ ?_ hO'
    ·rw[bwW,bxD]
     exact step _ 1 Om (bwR _) Om
    ·unfold PX
     rw[bwW,bxD]
     exact Lq
   ·have c2':¬ ((x:Nat):Int)<((c+t:Nat):Int):=by omega
    have e2:IntKind.u64.wrap (((x:Nat):Int)-((c+t:Nat):Int))=((x-(c+t):Nat):Int):=by
     rw[show ((x:Nat):Int)-((c+t:Nat):Int)=((x-(c+t):Nat):Int) by omega]
     exact bB Om
    have e3:IntKind.u32.wrap ((x-(c+t):Nat):Int)=((x-(c+t):Nat):Int):=by
     rw[bY,bxR Om]
    have hb1:(1:Nat)*1≤16777216:=by decide
    simp only[go_sem,υ,γ,η,ζ,c2',tV,g5,g8,e2,e3,hb1]
    refine fN (src:=[[.int .u32 ((x-(c+t):Nat):Int)]]) hO rfl (nC Om) fun v' H' hO' _=>?_
    rw[nD] at hO'
    simp only[go_sem,γ,tW,g7,cY (Om:P.length<9223372036854775807)]
    refine hK _ 0 v' _ H' (by simp) (bvG.app fun y hy=>by simp at hy; subst hy; omega) (by decide) ?_ ?_ hO'
    ·rw[bwW,bxD]
     exact step _ 0 Om (by decide) Om
    ·unfold PX
     rw[bwW,bxD]
     exact Lq
  simp only[aB.wp,go_sem] at fin
  simp only[go_sem,γ,reduceCtorEq,c1',aoC,aoD]
  by_cases c3:P.length<b.length
  ·have c3':(P.length:Int)<(b.length:Nat):=by omega
   have hbi:=hb _ (bwS c3)
   have htb:=bS b c3
   have eb:IntKind.u64.wrap ((b[P.length]:Nat):Int)=((b[P.length]:Nat):Int):=bB Om
   have es:IntKind.u64.wrap ((c:Int)+(b[P.length]:Int))=((c+b[P.length]:Nat):Int):=eG Om
   simp only[go_sem,γ,reduceCtorEq,c3',aoE,bG b c3,eb,es]
   refine fin b[P.length] _ hbi htb rfl rfl rfl rfl rfl _ ?_
   intro P' c' v' F2 H2 e1 e2 e3 e4 e5 e6
   rw[← e1] at e4
   exact aJ (α:=List Nat × Nat × PV × PH) (P',c',v',H2) ⟨by simp only; omega,e2,e3,e4,e6⟩ (by simp only; omega) e5 PH.le_refl
  ·have c3':¬ (P.length:Int)<(b.length:Nat):=by omega
   have htb:val (b.take (P.length+1))=val (b.take P.length)+4294967296 ^ P.length*0:=by rw[bxC Om,bxC Om]; simp
   simp only[go_sem,c3']
   refine fin 0 _ (by decide) htb rfl rfl rfl rfl rfl _ ?_
   intro P' c' v' F2 H2 e1 e2 e3 e4 e5 e6
   rw[← e1] at e4
   exact aJ (α:=List Nat × Nat × PV × PH) (P',c',v',H2) ⟨by simp only; omega,e2,e3,e4,e6⟩ (by simp only; omega) e5 PH.le_refl
 ·have e:P.length=a.length:=by omega
  have c1':¬ (P.length:Int)<(a.length:Nat):=by omega
  have hV:val P=val a-val b:=by
   rw[e,bxM,bxC hl] at bvC
   have hlt:=eE bvG
   rw[e] at hlt
   rcases bzK c with h | h
   ·subst h; omega
   ·have:c=1:=by omega
    subst this; omega
  simp only[go_sem,γ,reduceCtorEq,c1',adG]
  have hs:=L.trim _ bvG Om
  rw[hV] at hs
  refine qM hs hO rfl fun F1 H1 _=>?_
  simp only[go_sem]
  exact aU (.inr rfl) .nil rfl PH.nil_le ⟨.refl _,rfl⟩
def oR (a b:List Nat) (o i:Nat):PF:=((((PF.nil.set 0 (aD a)).set 1 (aD b)).set 5 (.osl o 1 0 (a.length+b.length))).set 6 (.int .i64 i))
def utG (a b:List Nat) (o i c j:Nat):PF:=((((((PF.nil.set 0 (aD a)).set 1 (aD b)).set 5 (.osl o 1 0 (a.length+b.length))).set 6 (.int .i64 i)).set 7 (.int .u64 c)).set 8 (.int .i64 j))
theorem aWQ {C:Ctx} (a b:List Nat) (ha:Lim a) (hb:Lim b) (h1:a.length≤35184372087808) (h2:b.length≤35184372087808) (L:List Nat) (i:Nat) (hi:i<a.length) (hI:AQ a b L i) (q:Nat) (K:cI) (F:PF) (H:PH) (hF:(oR a b q i).le F) (hH:H q=some (.rows 1 (aG L)))
  (hK:∀ L' F' H',AQ a b L' (i+1)→(oR a b q i).le F'→H' q=some (.rows 1 (aG L'))→K .normal F' H') :
  aB.wp C (.block 1 (.seq (.region NX) (.seq (.seq (.region NY) (.block 2 (.loop HB))) (.region HC)))) K F H:=by
 have f0:=hF 0 _ (by unfold oR; simp only[go_sem,reduceCtorEq]; rfl)
 have f1:=hF 1 _ (by unfold oR; simp only[go_sem,γ,reduceCtorEq]; rfl)
 have f5:=hF 5 _ (by unfold oR; simp only[go_sem,γ,reduceCtorEq]; rfl)
 have f6:=hF 6 _ (by unfold oR; simp only[go_sem,γ,reduceCtorEq]; rfl)
 have hx:=ha _ (bwS hi)
 have hta:=bS a hi
 generalize hxe:a[i]=x at *
 have hax:(aG a)[i]?=some [.int .u32 ((x:Nat):Int)]:=by rw[bG a hi,hxe]
 simp only[go_sem,NX,NY]
 refine wp_loop (α:=List Nat × Nat × Nat) (fun t=>utG a b q i t.2.1 t.2.2) (fun t=>PH.nil.set q (.rows 1 (aG t.1)))
  (fun t=>t.2.2≤b.length∧t.1.length=a.length+b.length∧Lim t.1∧t.2.1<4294967296∧val t.1+4294967296 ^ (i+t.2.2)*t.2.1=val (a.take i)*val b+4294967296 ^ i*(x*val (b.take t.2.2))∧∀ j y,i+b.length≤j→t.1[j]?=some y→y=0) (fun t=>b.length-t.2.2) (L,0,0)
  ⟨by simp,hI.len,hI.lim,by simp,by simp[val,hI.v],hI.z⟩ ?_ (PH.aH PH.nil_le hH) ?_
 ·unfold utG
  exact Lq
 rintro⟨M,c,j⟩ ⟨hj,hM,bvG,hc,bvC,hz⟩
 simp only at hj hM bvG hc bvC hz
 simp only[go_sem,γ,reduceCtorEq,HB,aoL,utG]
 by_cases c1:j<b.length
 ·have c1':(j:Int)<(b.length:Nat):=by omega
  have hy:=hb _ (bwS c1)
  have htb:=bS b c1
  generalize hye:b[j]=y at *
  have hby:(aG b)[j]?=some [.int .u32 ((y:Nat):Int)]:=by rw[bG b c1,hye]
  have hij:i+j<M.length:=by omega
  have hz0:=bvG _ (bwS hij)
  have bwG:=BU hij
  generalize hze:M[i+j]=z at *
  have hMz:(aG M)[i+j]?=some [.int .u32 ((z:Nat):Int)]:=by rw[bG M hij,hze]
  have ex:IntKind.u64.wrap ((x:Nat):Int)=((x:Nat):Int):=bB Om
  have ey:IntKind.u64.wrap ((y:Nat):Int)=((y:Nat):Int):=bB Om
  have ez:IntKind.u64.wrap ((z:Nat):Int)=((z:Nat):Int):=bB Om
  have em:=aLV hx hy
  have hxy:x*y≤4294967295*4294967295:=Nat.mul_le_mul Om Om
  have e1:IntKind.u64.wrap (((x*y:Nat):Int)+(z:Int))=((x*y+z:Nat):Int):=eG Om
  have e2:IntKind.u64.wrap (((x*y+z:Nat):Int)+(c:Int))=((x*y+z+c:Nat):Int):=eG Om
  have eij:IntKind.i64.wrap ((i:Int)+(j:Int))=((i+j:Nat):Int):=fD Om
  have hlt:((i+j:Nat):Int)<((a.length+b.length:Nat):Int):=by omega
  generalize ht:x*y+z+c=t at *
  have htt:t<4294967296*4294967296:=by omega
  have buW:(aG M).set (i+j) [.int .u32 ((t%4294967296:Nat):Int)]=aG (M.set (i+j) (t%4294967296)):=eO M (i+j) _
  simp only[go_sem,c1']
  refine bM .nil dV PH.nil_le ?_
  simp only[go_sem,γ,reduceCtorEq,aoM,hax,hby,ex,ey,em,eij,hlt,hMz,ez,e1,e2,aoN,bY,buW,aoO,tU,adJ,wZz j]
  refine aJ (M.set (i+j) (t%4294967296),t/4294967296,j+1) ⟨by simp only; omega,by simp only[byR]; exact hM,bvG.set _ (bxX _ (by decide)),by simp only; omega,?_,aeS hz _ _ Om⟩ (by simp only; omega) ?_ (PH.aH PH.nil_le Sq)
  ·simp only
   have h3:=bwG (t%4294967296)
   have h4:4294967296 ^ (i+(j+1))*(t/4294967296)+4294967296 ^ (i+j)*(t%4294967296)=4294967296 ^ (i+j)*t:=by
    rw[← byS,byE,bxH,← bwX,bzR]
   have h5:4294967296 ^ (i+j)*t=4294967296 ^ (i+j)*(x*y)+4294967296 ^ (i+j)*z+4294967296 ^ (i+j)*c:=by rw[← ht,bwX,bwX]
   have h6:4294967296 ^ i*(x*val (b.take (j+1)))=4294967296 ^ i*(x*val (b.take j))+4294967296 ^ (i+j)*(x*y):=by
    rw[htb,bwX,bwX,Nat.pow_add]
    congr 1
    rw[Nat.mul_left_comm x,bxH]
   omega
  ·exact Lq
 ·have he:j=b.length:=by omega
  have c1':¬ (j:Int)<(b.length:Nat):=by omega
  subst he
  have hij:i+b.length<M.length:=by omega
  have hz0:M[i+b.length]=0:=hz _ _ (bwR _) (bxA hij)
  have bwG:=BU hij
  have hMz:(aG M)[i+b.length]?=some [.int .u32 ((0:Nat):Int)]:=by rw[bG M hij,hz0]
  have eij:IntKind.i64.wrap ((i:Int)+((b.length:Nat):Int))=((i+b.length:Nat):Int):=fD Om
  have hlt:((i+b.length:Nat):Int)<((a.length+b.length:Nat):Int):=by omega
  have buW:(aG M).set (i+b.length) [.int .u32 ((c%4294967296:Nat):Int)]=aG (M.set (i+b.length) c):=by
   rw[bxR hc]; exact eO M _ _
  simp only[go_sem,γ,reduceCtorEq,c1',HC,eij,bY,hlt,hMz,buW]
  refine hK (M.set (i+b.length) c) _ _ ⟨by rw[byR]; exact hM,bvG.set _ hc,?_,fun j y hj hy=>?_⟩ (by unfold oR; exact Lq) Sq
  ·have h3:=bwG c
   rw[hz0,Nat.mul_zero,byB] at h3
   rw[h3,bvC,bxM,hta,bxN,bxH]
  ·rw[List.getElem?_set_ne Om] at hy
   exact hz j y Om hy
theorem a1L {C:Ctx} (L:mT C) (a b:List Nat) (ha:Lim a) (hb:Lim b) (h1:a.length≤8388608) (h2:b.length≤8388608) :
  AA.wp C (aS NW.res (bV (aD (aF (val a*val b))))) (PF.args [aD a,aD b]) .nil:=by
 have hlen:IntKind.i64.wrap (((a.length:Nat):Int)+((b.length:Nat):Int))=((a.length+b.length:Nat):Int):=fD Om
 have hm1:((a.length+b.length:Nat):Int)*((4:Nat):Int)≤140737488355328:=by omega
 have hm2:((a.length+b.length:Nat):Int)≤9223372036854775807:=by omega
 have hz:bwP (a.length+b.length) [PV.int .u32 0]=aG (bwP (a.length+b.length) 0):=by
  simp[aG]
 simp only[go_sem,γ,reduceCtorEq,AA,aoH,aoI,NW,bwN,hlen,hm1,hm2,hz]
 refine aP fun o ho=>?_
 simp only[go_sem,γ,aoJ]
 refine wp_loop (α:=List Nat × Nat) (fun t=>oR a b o t.2) (fun t=>PH.nil.set o (.rows 1 (aG t.1))) (fun t=>t.2≤a.length∧AQ a b t.1 t.2) (fun t=>a.length-t.2) (bwP (a.length+b.length) 0,0)
  ⟨by simp,by simp,sI _,by simp[val,pK],fun j x _ hx=>by rw[List.getElem?_replicate] at hx; split at hx<;>simp_all⟩ ?_ (PH.aH PH.nil_le Sq) ?_
 ·unfold oR
  exact Lq
 rintro⟨M,i⟩ ⟨hi,hI⟩
 simp only at hi hI
 simp only[go_sem,γ,reduceCtorEq,adI,aoK,oR]
 by_cases c1:i<a.length
 ·have c1':(i:Int)<(a.length:Nat):=by omega
  have key:=aWQ (C:=C) a b ha hb Om Om M i c1 hI o
  simp only[go_sem] at key
  simp only[go_sem,c1']
  refine key _ _ _ (by unfold oR; exact Lq) Sq ?_
  intro L' F' H' hI' hF' hH'
  have g6:=hF' 6 _ (by unfold oR; simp only[go_sem,γ,reduceCtorEq]; rfl)
  have g0:=hF' 0 _ (by unfold oR; simp only[go_sem,reduceCtorEq]; rfl)
  have g1:=hF' 1 _ (by unfold oR; simp only[go_sem,γ,reduceCtorEq]; rfl)
  have g5:=hF' 5 _ (by unfold oR; simp only[go_sem,γ,reduceCtorEq]; rfl)
  simp only[go_sem,γ,adK,g6,wZz i]
  refine aJ (L',i+1) ⟨by simp only; omega,hI'⟩ (by simp only; omega) ?_ (PH.aH PH.nil_le hH')
  exact Lq
 ·have he:i=a.length:=by omega
  subst he
  have c1':¬ ((a.length:Nat):Int)<(a.length:Nat):=by omega
  have hV:val M=val a*val b:=by rw[hI.v,bxM]
  simp only[go_sem,γ,reduceCtorEq,adL]
  have hs:=L.trim _ hI.lim (by rw[hI.len]; omega)
  rw[hV] at hs
  refine nJ (o:=o) (s:=1) (k:=a.length+b.length) (rs:=aG M) (v:=aD (aF (val a*val b))) ?_ rfl Sq (by rw[bO,hI.len]; exact bwR _) ?_
  ·rw[bxC (by rw[bO,hI.len]; exact bwR _)]; exact hs
  ·simp only[go_sem,γ,reduceCtorEq]
   exact aU (.inr rfl) .nil rfl PH.nil_le ⟨.refl _,rfl⟩
structure arK (C:Ctx):Prop extends arH C where
 minus:∀ a b,Lim a→Lim b→val b≤val a→b.length≤a.length→a.length≤35184372087808→aE C 42 [aD a,aD b] .nil (aC (aD (aF (val a-val b))))
 times:∀ a b,Lim a→Lim b→a.length≤8388608→b.length≤8388608→aE C 44 [aD a,aD b] .nil (aC (aD (aF (val a*val b))))
theorem bdK {C:Ctx} (L:arK C) (a b:List Nat) (ha:Lim a) (hb:Lim b) (la:a.length≤35184372087808) (lb:b.length≤35184372087808) :
  NQ.wp C (aS aFA.res (bV (opV (dK (val a) (val b)) (val a*val b)))) (PF.args [aD a,aD b]) .nil:=by
 unfold opV
 simp only[go_sem,reduceCtorEq,NQ,aQG,aQH,aFA]
 refine aA (L.large a ha la) rfl ?_
 by_cases c1:nl (val a)>512
 ·simp only[go_sem,γ,c1,aiM]
  rw[if_pos (by simp[dK,c1])]
  exact dU rfl
 simp only[go_sem,γ,c1]
 refine aA (L.large b hb lb) rfl ?_
 by_cases c2:nl (val b)>512
 ·simp only[go_sem,γ,reduceCtorEq,c2,aiM]
  rw[if_pos (by simp[dK,c2])]
  exact dU rfl
 rw[if_neg (by simp[dK,c1,c2])]
 simp only[go_sem,γ,reduceCtorEq,c2,aQI]
 refine aA (L.trim a ha la) rfl ?_
 simp only[go_sem,γ]
 refine aA (L.trim b hb lb) rfl ?_
 simp only[go_sem]
 have ht:=L.times (aF (val a)) (aF (val b)) (aR _) (aR _) (by rw[aV]; omega) (by rw[aV]; omega)
 rw[aQ,aQ] at ht
 refine aA ht rfl ?_
 have n1:=jQ (a:=val a) (b:=val b) (m:=512) (n:=512) Om Om
 have hl:=L.large (aF (val a*val b)) (aR _) (by rw[aV]; omega)
 rw[aQ] at hl
 simp only[go_sem,γ,aQJ]
 refine aA hl rfl ?_
 unfold szV szL szE
 by_cases c3:nl (val a*val b)>512
 ·rw[if_pos c3,if_pos c3]
  simp only[go_sem,γ,c3,aQK]
  exact dU rfl
 ·rw[if_neg c3,if_neg c3]
  simp only[go_sem,γ,c3,aQL]
  exact aU (.inr rfl) .nil rfl PH.nil_le ⟨.refl _,rfl⟩
def tH (a:List Nat) (i:Nat):Nat:=a.getD i 0
theorem asS {a:List Nat} (h:Lim a) (i:Nat):tH a i<4294967296:=by
 unfold tH
 rw[bxI]
 rcases bxG i a.length with h1 | h1
 ·rw[bxA h1]; exact h _ (bwS h1)
 ·rw[bxY h1]; decide
theorem TI {a:List Nat} {i:Nat} (h:i<a.length):tH a i=a[i]:=by simp[tH,bxI,h]
theorem JH {a:List Nat} {i:Nat} (h:¬ i<a.length):tH a i=0:=by simp[tH,bxI,h]
theorem NZ (a:List Nat) (i:Nat):val (a.take (i+1))=val (a.take i)+4294967296 ^ i*tH a i:=by
 rcases bxG i a.length with h | h
 ·rw[TI h]; exact bS a h
 ·rw[JH Om,bxC Om,bxC Om]; simp
def qK (a b:List Nat) (v:PV) (c i:Nat):PF:=(((((PF.nil.set 0 (aD a)).set 1 (aD b)).set 5 (v)).set 6 (.int .u64 c)).set 7 (.int .i64 i))
theorem a7K {C:Ctx} (L:mT C) (a b:List Nat) (ha:Lim a) (hb:Lim b) (h1:a.length≤8388608) (h2:b.length≤8388608) :
  GY.wp C (aS adH.res (bV (aD (aF (val a+val b))))) (PF.args [aD a,aD b]) .nil:=by
 simp only[go_sem,GY,aFD,aFE,aFF,aFG,adH]
 refine wp_loop (α:=List Nat × Nat × PV × PH) (fun s=>qK a b s.2.2.1 s.2.1 s.1.length) (fun s=>s.2.2.2)
  (fun s=>s.1.length≤max a.length b.length+1∧(s.1.length≤max a.length b.length∨s.2.1=0)∧Lim s.1∧s.2.1≤1∧val s.1+4294967296 ^ s.1.length*s.2.1=val (a.take s.1.length)+val (b.take s.1.length)∧bR s.2.2.2 1 s.2.2.1 (aG s.1)) (fun s=>max a.length b.length+1-s.1.length) ([],0,.buJ,.nil)
  ⟨by simp,by simp,by simp[Lim],by simp,by simp[val],.nil⟩ ?_ PH.nil_le ?_
 ·unfold qK
  exact Lq
 rintro⟨P,c,v,H0⟩ ⟨hP,hPc,bvG,hc,bvC,hO⟩
 simp only at hP hPc bvG hc bvC hO ⊢
 have hda:=asS ha P.length
 have hdb:=asS hb P.length
 have hta:=NZ a P.length
 have htb:=NZ b P.length
 generalize hx:tH a P.length=x at *
 generalize hy:tH b P.length=y at *
 have ex:IntKind.u64.wrap ((x:Nat):Int)=((x:Nat):Int):=bB Om
 have ey:IntKind.u64.wrap ((y:Nat):Int)=((y:Nat):Int):=bB Om
 have e1:IntKind.u64.wrap ((c:Int)+(x:Int))=((c+x:Nat):Int):=eG Om
 have e2:IntKind.u64.wrap (((c+x:Nat):Int)+(y:Int))=((c+x+y:Nat):Int):=eG Om
 have hra:P.length<a.length→(aG a)[P.length]?=some [.int .u32 ((x:Nat):Int)]:=fun h=>by rw[bG a h,← hx,TI h]
 have hrb:P.length<b.length→(aG b)[P.length]?=some [.int .u32 ((y:Nat):Int)]:=fun h=>by rw[bG b h,← hy,TI h]
 have hxa:¬ P.length<a.length→x=0:=fun h=>by rw[← hx,JH h]
 have hyb:¬ P.length<b.length→y=0:=fun h=>by rw[← hy,JH h]
 have body:(P.length≤max a.length b.length)→∀ K:cI,(∀ P' c' v' F2 H2,P'.length=P.length+1→Lim P'→c'≤1→(P.length+1≤max a.length b.length∨c'=0)→val P'+4294967296 ^ P'.length*c'=val (a.take (P.length+1))+val (b.take (P.length+1))→(qK a b v' c' P'.length).le F2→bR H2 1 v' (aG P')→K .normal F2 H2) →
   ∀ F:PF,(qK a b v c P.length).le F→aB.wp C (.seq (.block 1 (.seq (.region VV) (.seq (.seq (.region VW) (.cond (.tmp 29) (.region VX) .skip)) (.seq (.seq (.region GZ) (.cond (.tmp 40) (.region HA) .skip)) (.seq (.region xS) (.region xT)))))) (.region xU)) K F H0:=by
  intro hle K hK F hF
  have g0:F 0=some (aD a):=hF 0 _ (by unfold qK; simp only[go_sem,reduceCtorEq])
  have g1:F 1=some (aD b):=hF 1 _ (by unfold qK; simp only[go_sem,γ,reduceCtorEq])
  have g5:F 5=some v:=hF 5 _ (by unfold qK; simp only[go_sem,γ,reduceCtorEq])
  have g6:F 6=some (.int .u64 c):=hF 6 _ (by unfold qK; simp only[go_sem,γ,reduceCtorEq])
  have g7:F 7=some (.int .i64 P.length):=hF 7 _ (by unfold qK; simp only[go_sem,γ,reduceCtorEq])
  have fin:∀ F':PF,F' 0=some (aD a)→F' 1=some (aD b)→F' 5=some v→F' 7=some (.int .i64 P.length)→F' 8=some (.int .u64 (c+x+y:Nat)) →
    aB.wp C (.seq (.region xS) (.region xT)) (dR 1 (gW C (aB.wp C (.region xU)) K)) F' H0:=by
   intro F' q0 q1 q5 q7 q8
   have hb1:(1:Nat)*1≤16777216:=by decide
   generalize ht:c+x+y=t at *
   have htt:t<2*4294967296:=by omega
   simp only[go_sem,υ,γ,η,ζ,xS,q5,q8,hb1,bY]
   refine fN (src:=[[.int .u32 ((t%4294967296:Nat):Int)]]) hO rfl (nC Om) fun v' H' hO' _=>?_
   rw[nD] at hO'
   simp only[go_sem,γ,xT,q8,tU,xU,q7,cY (Om:P.length<9223372036854775807)]
   refine hK (P++[t%4294967296]) (t/4294967296) v' _ H' (by simp) (bvG.app fun y hy=>by simp at hy; subst hy; omega) Om ?_ ?_ ?_ hO'
   ·rcases bxG P.length (max a.length b.length) with h | h
    ·exact .inl h
    ·right
     have h1:=hxa Om
     have h2:=hyb Om
     omega
   ·rw[gR,bwW,bxD,hta,htb,byE,bxH,byS,← bwX]
    rw[show t%4294967296+4294967296*(t/4294967296)=t from Nat.mod_add_div t 4294967296]
    have h3:4294967296 ^ P.length*t=4294967296 ^ P.length*c+4294967296 ^ P.length*x+4294967296 ^ P.length*y:=by rw[← ht,bwX,bwX]
    omega
   ·unfold qK
    rw[bwW,bxD]
    exact Lq
  simp only[aB.wp,go_sem] at fin
  simp only[go_sem,γ,reduceCtorEq,VV,g6,VW,g7,g0]
  by_cases c1:P.length<a.length
  ·have c1':(P.length:Int)<(a.length:Nat):=by omega
   simp only[go_sem,γ,reduceCtorEq,c1',VX,g0,g7,hra c1,ex,e1,GZ,g1]
   by_cases c2:P.length<b.length
   ·have c2':(P.length:Int)<(b.length:Nat):=by omega
    simp only[go_sem,γ,c2',HA,g1,g7,hrb c2,ey,e2]
    exact fin _ (by simp only[go_sem,reduceCtorEq,g0]) (by simp only[go_sem,γ,g1]) (by simp only[go_sem,γ,g5]) (by simp only[go_sem,γ,g7]) rfl
   ·have c2':¬ (P.length:Int)<(b.length:Nat):=by omega
    have h0:=hyb c2
    simp only[go_sem,c2']
    exact fin _ (by simp only[go_sem,reduceCtorEq,g0]) (by simp only[go_sem,γ,g1]) (by simp only[go_sem,γ,g5]) (by simp only[go_sem,γ,g7]) (by simp only[go_sem,γ,h0])
  ·have c1':¬ (P.length:Int)<(a.length:Nat):=by omega
   have h0:=hxa c1
   simp only[go_sem,γ,c1',GZ,g1,g7]
   by_cases c2:P.length<b.length
   ·have c2':(P.length:Int)<(b.length:Nat):=by omega
    have e2':IntKind.u64.wrap ((c:Int)+(y:Int))=((c+x+y:Nat):Int):=by rw[h0]; exact eG Om
    simp only[go_sem,γ,c2',HA,g1,g7,hrb c2,ey,e2']
    exact fin _ (by simp only[go_sem,reduceCtorEq,g0]) (by simp only[go_sem,γ,g1]) (by simp only[go_sem,γ,g5]) (by simp only[go_sem,γ,g7]) rfl
   ·have c2':¬ (P.length:Int)<(b.length:Nat):=by omega
    have h0':=hyb c2
    simp only[go_sem,c2']
    exact fin _ (by simp only[go_sem,reduceCtorEq,g0]) (by simp only[go_sem,γ,g1]) (by simp only[go_sem,γ,g5]) (by simp only[go_sem,γ,g7]) (by simp only[go_sem,γ,h0,h0'])
 simp only[aB.wp,go_sem] at body
 have hexit:¬ P.length<a.length→¬ P.length<b.length→c=0→∀ F:PF,F 5=some v→aB.wp C (.seq (.region NU) .ret) (aS [.tmp 4] (bV (aD (aF (val a+val b))))) F H0:=by
  intro n1 n2 n3 F f5
  have hV:val P=val a+val b:=by
   rw[n3,bxC Om,bxC Om] at bvC
   omega
  have hs:=L.trim _ bvG Om
  rw[hV] at hs
  simp only[go_sem,NU,f5]
  refine qM hs hO rfl fun F1 H1 _=>?_
  simp only[go_sem]
  exact aU (.inr rfl) .nil rfl PH.nil_le ⟨.refl _,rfl⟩
 simp only[aB.wp,go_sem] at hexit
 simp only[go_sem,γ,reduceCtorEq,aoF,aFH,qK]
 by_cases c1:P.length<a.length
 ·have c1':(P.length:Int)<(a.length:Nat):=by omega
  simp only[go_sem,γ,reduceCtorEq,c1']
  refine body Om _ ?_ _ (by unfold qK; exact Lq)
  intro P' c' v' F2 H2 e1 e2 e3 e4 e5 e6 e7
  rw[← e1] at e5 e4
  exact aJ (α:=List Nat × Nat × PV × PH) (P',c',v',H2) ⟨by simp only; omega,e4,e2,e3,e5,e7⟩ (by simp only; omega) e6 PH.le_refl
 ·have c1':¬ (P.length:Int)<(a.length:Nat):=by omega
  simp only[go_sem,γ,reduceCtorEq,c1']
  by_cases c2:P.length<b.length
  ·have c2':(P.length:Int)<(b.length:Nat):=by omega
   simp only[go_sem,γ,reduceCtorEq,c2']
   refine body Om _ ?_ _ (by unfold qK; exact Lq)
   intro P' c' v' F2 H2 e1 e2 e3 e4 e5 e6 e7
   rw[← e1] at e5 e4
   exact aJ (α:=List Nat × Nat × PV × PH) (P',c',v',H2) ⟨by simp only; omega,e4,e2,e3,e5,e7⟩ (by simp only; omega) e6 PH.le_refl
  ·have c2':¬ (P.length:Int)<(b.length:Nat):=by omega
   simp only[go_sem,γ,reduceCtorEq,c2']
   by_cases c3:c=0
   ·have c3':¬ (c:Int)>0:=by omega
    simp only[go_sem,c3']
    exact hexit c1 c2 c3 _ rfl
   ·have c3':(c:Int)>0:=by omega
    simp only[go_sem,c3']
    refine body Om _ ?_ _ (by unfold qK; exact Lq)
    intro P' c' v' F2 H2 e1 e2 e3 e4 e5 e6 e7
    rw[← e1] at e5 e4
    exact aJ (α:=List Nat × Nat × PV × PH) (P',c',v',H2) ⟨by simp only; omega,e4,e2,e3,e5,e7⟩ (by simp only; omega) e6 PH.le_refl
structure WS (C:Ctx):Prop extends arK C where
 plus:∀ a b,Lim a→Lim b→a.length≤8388608→b.length≤8388608→aE C 43 [aD a,aD b] .nil (aC (aD (aF (val a+val b))))
theorem bdC {C:Ctx} (L:WS C) (a b:List Nat) (ha:Lim a) (hb:Lim b) (la:a.length≤35184372087808) (lb:b.length≤35184372087808) :
  NG.wp C (aS aDW.res (bV (opV (dK (val a) (val b)) (val a+val b)))) (PF.args [aD a,aD b]) .nil:=by
 unfold opV
 simp only[go_sem,reduceCtorEq,NG,aPC,aPD,aDW]
 refine aA (L.large a ha la) rfl ?_
 by_cases c1:nl (val a)>512
 ·simp only[go_sem,γ,c1,aiJ]
  rw[if_pos (by simp[dK,c1])]
  exact dU rfl
 simp only[go_sem,γ,c1]
 refine aA (L.large b hb lb) rfl ?_
 by_cases c2:nl (val b)>512
 ·simp only[go_sem,γ,reduceCtorEq,c2,aiJ]
  rw[if_pos (by simp[dK,c2])]
  exact dU rfl
 rw[if_neg (by simp[dK,c1,c2])]
 simp only[go_sem,γ,reduceCtorEq,c2,aPE]
 refine aA (L.trim a ha la) rfl ?_
 simp only[go_sem,γ]
 refine aA (L.trim b hb lb) rfl ?_
 simp only[go_sem]
 have ht:=L.plus (aF (val a)) (aF (val b)) (aR _) (aR _) (by rw[aV]; omega) (by rw[aV]; omega)
 rw[aQ,aQ] at ht
 refine aA ht rfl ?_
 have n1:=azR (a:=val a) (b:=val b) (m:=512) Om Om
 have hl:=L.large (aF (val a+val b)) (aR _) (by rw[aV]; omega)
 rw[aQ] at hl
 simp only[go_sem,γ,aPF]
 refine aA hl rfl ?_
 unfold szV szL szE
 by_cases c3:nl (val a+val b)>512
 ·rw[if_pos c3,if_pos c3]
  simp only[go_sem,γ,c3,aPG]
  exact dU rfl
 ·rw[if_neg c3,if_neg c3]
  simp only[go_sem,γ,c3,aPH]
  exact aU (.inr rfl) .nil rfl PH.nil_le ⟨.refl _,rfl⟩
theorem bdQ {C:Ctx} (L:WS C) (a b:List Nat) (ha:Lim a) (hb:Lim b) (la:a.length≤35184372087808) (lb:b.length≤35184372087808) :
  NV.wp C (aS aFI.res (bV (oQ (val a) (val b)))) (PF.args [aD a,aD b]) .nil:=by
 unfold oQ
 simp only[go_sem,reduceCtorEq,NV,aQO,aQP,aFI]
 refine aA (L.large a ha la) rfl ?_
 by_cases c1:nl (val a)>512
 ·simp only[go_sem,γ,c1,aiP]
  rw[if_pos (by simp[dK,c1])]
  exact dU rfl
 simp only[go_sem,γ,c1]
 refine aA (L.large b hb lb) rfl ?_
 by_cases c2:nl (val b)>512
 ·simp only[go_sem,γ,reduceCtorEq,c2,aiP]
  rw[if_pos (by simp[dK,c2])]
  exact dU rfl
 rw[if_neg (by simp[dK,c1,c2])]
 simp only[go_sem,γ,reduceCtorEq,c2,aQQ]
 refine aA (L.cmp a b ha hb la lb) rfl ?_
 by_cases c3:val a<val b
 ·have:cW (val a) (val b)=-1:=by simp[cW,c3]
  rw[if_pos c3]
  simp only[go_sem,ο,γ,this,show ((-1:Int)<0) by decide,aQR]
  exact dU rfl
 ·have:¬ cW (val a) (val b)<0:=by
   unfold cW
   rw[if_neg c3]
   split<;>decide
  rw[if_neg c3]
  have n1:=eU (Nat.sub_le (val a) (val b))
  have n2:=eU (Om:val b≤val a)
  simp only[go_sem,γ,reduceCtorEq,this,aQS]
  refine aA (L.trim a ha la) rfl ?_
  simp only[go_sem,γ]
  refine aA (L.trim b hb lb) rfl ?_
  simp only[go_sem]
  have ht:=L.minus (aF (val a)) (aF (val b)) (aR _) (aR _) (by rw[aQ,aQ]; omega) (by rw[aV,aV]; exact n2) (by rw[aV]; omega)
  rw[aQ,aQ] at ht
  refine aA ht rfl ?_
  rw[wA Om]
  simp only[go_sem,γ]
  exact aU (.inr rfl) .nil rfl PH.nil_le ⟨.refl _,rfl⟩
end Go.PM
