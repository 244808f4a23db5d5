/-
  Texts of ours, joined: R2W4 R2W5 R2W6 R2W7 R2W8 R3W1 R3W2 R3W3 R8W1 R10W1 R10W2 R10W3 R10W4 R10P1 R10W5 R10W6 R10W7 R10W8 R10W9 R10W10 R10W11 R10W12 Jf1. No condition.
-/
import Derived.Test.YtiikgogbaninlaaGreatRq1
import Derived.Test.YtiikgogbaninlaaGreatRq2
import Derived.Test.YtiikgogbaninlaaGreatRq3
import Derived.Test.YtiikgogbaninlaaGreatRq4

set_option linter.unusedSimpArgs false
set_option linter.unusedVariables false
open Nat renaming reduceEqDiff → γ, reduceAdd → δ, reduceSub → ε, reduceMul → ζ, reduceLT → η, reduceLeDiff → θ, reduceBEq → τ
open Int renaming reduceLT → ι, reduceLE → κ, reduceEq → μ, reduceToNat → ν, reduceAdd → ξ, reduceNeg → ο, reduceBEq → ρ, reduceBNe → σ
open List renaming reduceReplicate → υ
open List renaming length_map → bwN, range → bwO, replicate → bwP, getElem_mem → bwS, length_append → bwW, getElem?_eq_getElem → bxA, take_of_length_le → bxC, length_singleton → bxD, length_take → bxE, mem_cons → bxF, getD_eq_getElem?_getD → bxI, all_eq_true → bxL, take_length → bxM, drop_zero → bxP, append_assoc → bxU, mem_map → bxV, getElem?_map → bxW, getElem?_eq_none → bxY, getElem?_eq_some_iff → bxZ, mem_append → byA, not_mem_nil → byC, mem_range → byD, drop_eq_getElem_cons → byG, take_succ_eq_append_getElem → byH, length_drop → byI, mem_singleton → byJ, getElem_map → byO, getElem_of_mem → byP, length_cons → byQ, length_set → byR, Sublist → byT, append_nil → byU, length_nil → byV, nil_append → byW, take_append_drop → byX, getElem?_append_right → bzA, map_cons → bzB, mem_of_getElem? → bzC, map_append → bzD, nodup_append → bzE, getElem?_append_left → bzJ, cons_append → bzP, getElem?_take → bzQ, drop_of_length_le → bzU, getElem?_drop → bzV, length_replicate → bzW, eq_nil_of_length_eq_zero → bzY, set_append_right → bzZ
open Nat renaming gcd → bwQ, le_refl → bwR, mul_add → bwX, zero_le → bwZ, lt_or_ge → bxG, mul_assoc → bxH, mul_comm → bxK, add_mul → bxN, zero_add → bxO, mul_le_mul_right → bxQ, mod_eq_of_lt → bxR, mod_lt → bxX, add_zero → byB, pow_succ → byE, min_eq_left → byK, mul_le_mul_left → byM, pos_of_ne_zero → byN, add_assoc → byS, pow_pos → byY, div_lt_iff_lt_mul → bzF, eq_zero_or_pos → bzK, div_add_mod → bzR, div_eq_of_lt → bzS
open Bool renaming false_and → bwT, not_true → bwU, true_and → bwY, not_false → bxB, and_eq_true → bxJ, and_false → bxT, and_true → byL, and_assoc → bzI, false_eq_true → bzN
open Option renaming map_eq_some_iff → bwV, map_some → bxS, some → byZ, getD_some → bzG, bind_eq_some_iff → bzL, bind_some → bzX
open Array renaming replicate → byF, length_toList → bzH, getElem?_eq_getElem → bzM, getElem?_eq_some_iff → bzT
open Int renaming toNat_natCast → bzO
namespace Go.PM
open Go Go.Na
def aDX (k:Nat) (v:Nat):PF:=((PF.nil.set 3 (.int .i64 k)).set 4 (.int .u32 v))
theorem a6Y {C:Ctx} (L:mT C) (xs:List Nat) (hx:Lim xs) (lx:xs.length≤35184372087808) :
  GN.wp C (aS acV.res (aC (.int .i64 (bZ (val xs):Nat)))) (PF.args [aD xs]) .nil:=by
 simp only[go_sem,reduceCtorEq,GN,aDZ,aEA,acV]
 refine aA (L.trim xs hx lx) rfl ?_
 have bx:=eN hx
 simp only[go_sem,γ,reduceCtorEq,aEB,bwN,aV,xR]
 by_cases c1:nl (val xs)=0
 ·simp only[go_sem,decide_eq_true c1,aEC]
  refine aI (.inr rfl) rfl ?_
  have:val xs=0:=fT.1 c1
  simp[aT,this,gU]
 obtain⟨n,hn⟩:∃ n,nl (val xs)=n+1:=⟨nl (val xs)-1,by omega⟩
 obtain⟨t,ht,ht0⟩:=aDV (xs:=aF (val xs)) (aR _) (by rw[aQ]; exact hn)
 have htl:t<4294967296:=aR _ t (bzC ht)
 have hv:val xs=val ((aF (val xs)).take n)+4294967296 ^ n*t:=by
  have:=aQ (val xs)
  have hnl:n<(aF (val xs)).length:=by rw[aV]; omega
  have hg:(aF (val xs))[n]=t:=by rw[bxA hnl] at ht; exact byZ.inj ht
  conv=>lhs; rw[← this,← bxC (l:=aF (val xs)) (i:=n+1) (by rw[aV]; omega)]
  rw[bS _ hnl,hg]
 have hb:bZ (val xs)=32*n+bZ t:=by
  have h3:=eE ((aR (val xs)).take n)
  rw[bxE,aV,byK Om] at h3
  have hk:=asG (lo:=val ((aF (val xs)).take n)) (k:=32*n) (hi:=t) (by rw[Nat.pow_mul]; exact h3) ht0
  rw[← hk,Nat.pow_mul]
  exact congrArg bZ hv
 have buW:(aG (aF (val xs)))[n]?=some [.int .u32 (t:Nat)]:=by
  simp[aG,ht]
 have e1:IntKind.i64.wrap (((nl (val xs):Nat):Int)-1)=(n:Int):=by rw[wrap_i64 Om Om]; omega
 have e2:IntKind.i64.wrap (32*(n:Int))=((32*n:Nat):Int):=by rw[wrap_i64 Om Om]; omega
 simp only[go_sem,γ,reduceCtorEq,decide_eq_false c1,aED,aEE,bwN,aV,e1,e2,buW]
 refine wp_loop (α:=Nat × Nat) (fun a=>aDX a.1 a.2) (fun _=>.nil) (fun a=>a.1+bZ a.2=32*n+bZ t∧a.2<4294967296) (fun a=>a.2) (32*n,t) ⟨rfl,htl⟩ ?_ PH.nil_le ?_
 ·unfold aDX
  exact Lq
 rintro⟨k,v⟩ ⟨hk,hlt⟩
 simp only at hk hlt
 have hk32:bZ t≤32:=(jS t 32).2 htl
 simp only[go_sem,γ,aDY,aEF,aDX]
 by_cases c2:(v:Int)>0
 ·have hv0:v≠0:=by omega
  have hsh:IntKind.u32.wrap (Int.tdiv (v:Int) 2)=((v/2:Nat):Int):=by
   rw[show Int.tdiv (v:Int) 2=((v/2:Nat):Int) from Int.ofNat_tdiv v 2,bY,bxR Om]
  simp only[go_sem,μ,γ,c2,aEG,aEH,hsh,wZz k]
  refine aJ (k+1,v/2) ⟨?_,?_⟩ (Nat.div_lt_self Om (by decide)) ?_ PH.nil_le
  ·have:=mI hv0
   simp only; omega
  ·simp only; omega
  ·exact Lq
 ·have:v=0:=by omega
  subst this
  simp only[go_sem,γ,c2,anS]
  refine aI (.inr rfl) rfl ?_
  rw[gU] at hk
  simp only[aT,PV.int.injEq,true_and]
  omega
theorem amZ (n:Nat):4294967296 ^ (n/32)*2 ^ (n%32)=2 ^ n:=by
 rw[show (4294967296:Nat)=2 ^ 32 by decide,← Nat.pow_mul,← Nat.pow_add]
 congr 1
 omega
theorem a1A (n:Nat):IntKind.i64.wrap (Int.tdiv (n:Int) 32)=IntKind.i64.wrap ((n/32:Nat):Int):=by
 rw[show Int.tdiv (n:Int) 32=((n/32:Nat):Int) from Int.ofNat_tdiv n 32]
theorem a1B (n:Nat):Int.tmod (n:Int) 32=((n%32:Nat):Int):=Int.ofNat_tmod n 32
def a7O (a:List Nat) (n:Nat) (v:PV) (c i:Nat):PF:=(((((PF.nil.set 0 (aD a)).set 1 (.int .i64 n)).set 5 (v)).set 6 (.int .u64 c)).set 7 (.int .i64 i))
theorem bgV {C:Ctx} (L:mT C) (a:List Nat) (n:Nat) (ha:Lim a) (h1:a.length≤8388608) (hn:n≤8388608) (h0:a.length=0→val a=0) :
  VZ.wp C (aS uup.res (jV 1 (aG (aF (val a*2 ^ n))))) (PF.args [aD a,.int .i64 n]) .nil:=by
 simp only[go_sem,γ,reduceCtorEq,VZ,a1N,a1O,uup,bwN,xR]
 by_cases c0:a.length=0
 ·simp only[go_sem,decide_eq_true c0,a1P]
  rw[h0 c0,Nat.zero_mul,eQ]
  exact BM (.inr rfl) rfl
 have ez:IntKind.i64.wrap (Int.tdiv (n:Int) 32)=((n/32:Nat):Int):=by rw[a1A,wM Om]
 have em:=a1B n
 have eu:IntKind.u64.wrap ((n%32:Nat):Int)=((n%32:Nat):Int):=bB Om
 have hsp:=amZ n
 have hs:n%32<32:=bxX _ (by decide)
 have hz:n/32≤8388608:=by omega
 generalize hzz:n/32=z at *
 generalize hss:n%32=s at *
 have hm1:((z:Nat):Int)*((4:Nat):Int)≤140737488355328:=by omega
 have hm2:((z:Nat):Int)≤9223372036854775807:=by omega
 have hzr:bwP z [PV.int .u32 0]=aG (bwP z 0):=by
  simp[aG]
 have h2s:2 ^ s≤2147483648:=Nat.pow_le_pow_right (show 0<2 by decide) (Om:s≤31)
 have h2s0:0<2 ^ s:=byY (by decide)
 simp only[go_sem,μ,γ,decide_eq_false c0,a1Q,ez,hm1,hm2,hzr]
 refine aP fun o ho=>?_
 simp only[go_sem,γ,a1R,a1S]
 refine wp_loop (α:=List Nat × Nat × Nat × PV × PH) (fun t=>a7O a n t.2.2.2.1 t.2.1 t.2.2.1) (fun t=>t.2.2.2.2)
  (fun t=>t.2.2.1≤a.length∧t.1.length=z+t.2.2.1∧Lim t.1∧t.2.1<2 ^ s∧val t.1+4294967296 ^ t.1.length*t.2.1=val (a.take t.2.2.1)*2 ^ n∧bR t.2.2.2.2 1 t.2.2.2.1 (aG t.1)) (fun t=>a.length-t.2.2.1) (bwP z 0,0,0,.osl o 1 0 z,PH.nil.set o (.rows 1 (aG (bwP z 0))))
  ⟨by simp,by simp,sI _,h2s0,by simp[val,pK],.inr ⟨o,aG (bwP z 0),by rw[bO,bzW],by simp only[go_sem],by rw[bO]; exact bwR _,bxM⟩⟩ ?_ PH.le_refl ?_
 ·unfold a7O
  exact Lq
 rintro⟨P,c,i,v,H0⟩ ⟨hi,hP,bvG,hc,bvC,hO⟩
 simp only at hi hP bvG hc bvC hO ⊢
 simp only[go_sem,γ,reduceCtorEq,aQT,a1T,a7O]
 by_cases c1:i<a.length
 ·have c1':(i:Int)<(a.length:Nat):=by omega
  have hai:=ha _ (bwS c1)
  have hta:=bS a c1
  have hax:=bG a c1
  generalize hx:a[i]=x at *
  have hxs:x*2 ^ s≤4294967295*2147483648:=Nat.mul_le_mul Om h2s
  have ex:IntKind.u64.wrap ((x:Nat):Int)=((x:Nat):Int):=bB Om
  have hxs':2 ^ s*x=x*2 ^ s:=bxK _ _
  have esh:shift .shl .u64 (x:Int) (s:Int)=some (.int .u64 ((2 ^ s*x:Nat):Int)):=GC Om Om
  have eor:=orI (a:=2 ^ s*x) (b:=c) (n:=c+2 ^ s*x) Om Om (by rw[Nat.or_comm]; exact aAT hc Om) Om
  have hdig:(c+2 ^ s*x)/4294967296<2 ^ s:=by
   rw[bzF (by decide)]
   have:2 ^ s*(x+1)≤2 ^ s*4294967296:=byM _ Om
   rw[bwX,Nat.mul_one] at this
   omega
  have hb1:(1:Nat)*1≤16777216:=by decide
  simp only[go_sem,μ,υ,γ,η,ζ,reduceCtorEq,c1',a1U,hax,ex,em,eu,esh,eor,a1V,bY,hb1]
  refine fN (src:=[[.int .u32 (((c+2 ^ s*x)%4294967296:Nat):Int)]]) hO rfl (nC Om) fun v' H' hO' _=>?_
  rw[nD] at hO'
  simp only[go_sem,γ,reduceCtorEq,a1W,tU,aQU,wZz i]
  refine aJ (P++[(c+2 ^ s*x)%4294967296],(c+2 ^ s*x)/4294967296,i+1,v',H') ⟨by simp only; omega,by simp; omega,bvG.app fun y hy=>by simp at hy; subst hy; exact bxX _ (by decide),hdig,?_,hO'⟩ (by simp only; omega) ?_ PH.le_refl
  ·simp only
   have hp:4294967296 ^ P.length*(2 ^ s*x)=4294967296 ^ i*x*2 ^ n:=by
    rw[hP,Nat.pow_add,← hsp]
    rw[bxH,Nat.mul_left_comm (4294967296 ^ i),← bxH (4294967296 ^ z),bxK (4294967296 ^ z*2 ^ s),bxH,bxK x]
   rw[gR,bwW,bxD,byE,bxH,byS,← bwX,Nat.mod_add_div,hta,bwX,bxN,← byS,bvC,hp]
  ·exact Lq
 ·have e:i=a.length:=by omega
  subst e
  have c1':¬ ((a.length:Nat):Int)<(a.length:Nat):=by omega
  have hb1:(1:Nat)*1≤16777216:=by decide
  have hV:val (P++[c])=val a*2 ^ n:=by
   rw[gR,bvC,bxM]
  have hLc:Lim (P++[c]):=bvG.app fun x hx=>by simp at hx; omega
  have ec:IntKind.u32.wrap ((c:Nat):Int)=((c:Nat):Int):=by rw[bY,bxR Om]
  simp only[go_sem,υ,γ,η,ζ,reduceCtorEq,c1',aQV,ec,hb1]
  refine fN (src:=[[.int .u32 ((c:Nat):Int)]]) hO rfl (nC Om) fun v' H' hO' _=>?_
  rw[nD] at hO'
  have hs:=L.trimM _ hLc (by simp; omega)
  rw[hV] at hs
  refine aqP hs hO' rfl fun F1 H1 _ r H2 hr _=>?_
  simp only[go_sem]
  exact a0R (.inr rfl) hr rfl
def NJ (a:List Nat) (n:Nat) (v:PV) (i:Nat):PF:=((((PF.nil.set 0 (aD a)).set 1 (.int .i64 n)).set 5 (v)).set 6 (.int .i64 i))
theorem a7C {C:Ctx} (L:mT C) (a:List Nat) (n:Nat) (ha:Lim a) (h1:a.length≤8388608) (hn:n≤1000000000) :
  GR.wp C (aS adD.res (bV (aD (aF (val a/2 ^ n))))) (PF.args [aD a,.int .i64 n]) .nil:=by
 have ez:IntKind.i64.wrap (Int.tdiv (n:Int) 32)=((n/32:Nat):Int):=by rw[a1A,wM Om]
 have em:=a1B n
 have eu:IntKind.u64.wrap ((n%32:Nat):Int)=((n%32:Nat):Int):=bB Om
 have hsp:=amZ n
 have hs:n%32<32:=bxX _ (by decide)
 have hz:n/32≤1000000000:=by omega
 generalize hzz:n/32=z at *
 generalize hss:n%32=s at *
 simp only[go_sem,μ,γ,reduceCtorEq,GR,aEO,aEP,adD,bwN,ez]
 by_cases c0:a.length≤z
 ·have c0':((z:Nat):Int)≥(a.length:Nat):=by omega
  have hq:val a/2 ^ n=0:=by
   refine bzS (Nat.lt_of_lt_of_le (eE ha) ?_)
   rw[← hsp]
   exact Nat.le_trans (Nat.pow_le_pow_right (by decide) c0) (Nat.le_mul_of_pos_right _ (byY (by decide)))
  simp only[go_sem,c0',aEQ]
  rw[hq,eQ]
  exact aU (vs:=[.buJ]) (.inr rfl) .nil rfl PH.nil_le ⟨.nil 1,rfl⟩
 have c0':¬ ((z:Nat):Int)≥(a.length:Nat):=by omega
 have hR:val a/2 ^ n=val (a.drop z)/2 ^ s:=by
  rw[rK ha Om,← hsp,Nat.div_div_eq_div_mul]
 have hLd:Lim (a.drop z):=ha.drop z
 simp only[go_sem,μ,γ,c0',aER,aES,ez]
 refine wp_loop (α:=List Nat × PV × PH) (fun t=>NJ a n t.2.1 (z+t.1.length)) (fun t=>t.2.2)
  (fun t=>z+t.1.length≤a.length∧t.1=dE t.1.length (val (a.drop z)/2 ^ s)∧bR t.2.2 1 t.2.1 (aG t.1)) (fun t=>a.length-t.1.length) ([],.buJ,.nil)
  ⟨by simp; omega,rfl,.nil⟩ ?_ PH.nil_le ?_
 ·unfold NJ
  (repeat' (first|exact PF.nil_le|refine PF.aH ?_ ?_))<;>first|(simp only[go_sem,γ,reduceCtorEq,byV]<;>rfl)|rfl
 rintro⟨P,v,H0⟩ ⟨hP,hD,hO⟩
 simp only at hP hD hO ⊢
 simp only[go_sem,γ,reduceCtorEq,anT,aET,NJ]
 have hlimP:Lim P:=by rw[hD]; exact kC _ _
 by_cases c1:z+P.length<a.length
 ·have c1':((z+P.length:Nat):Int)<(a.length:Nat):=by omega
  have hai:=ha _ (bwS c1)
  have hax:=bG a c1
  have hkl:P.length≤(a.drop z).length:=by rw[byI]; omega
  have hvd:=rK hLd hkl
  have hdrop:(a.drop z).drop P.length=a[z+P.length]::a.drop (z+P.length+1):=by
   rw[List.drop_drop,byG c1]
  generalize hx:a[z+P.length]=x at *
  have ex:IntKind.u64.wrap ((x:Nat):Int)=((x:Nat):Int):=bB Om
  have hb1:(1:Nat)*1≤16777216:=by decide
  have ew:IntKind.i64.wrap (((z+P.length:Nat):Int)+1)=((z+P.length+1:Nat):Int):=cY Om
  have fin:∀ (t:Nat) (F:PF),t<18446744073709551616→val (a.drop z)/4294967296 ^ P.length%(4294967296*4294967296)=t→F 0=some (aD a)→F 1=some (.int .i64 n)→F 5=some v→F 6=some (.int .i64 (z+P.length:Nat))→F 7=some (.int .u64 t) →
    ∀ K:cI,(∀ v' F2 H2,(NJ a n v' (z+(P.length+1))).le F2→bR H2 1 v' (aG (P++[t/2 ^ s%4294967296]))→(P++[t/2 ^ s%4294967296])=dE (P.length+1) (val (a.drop z)/2 ^ s)→K .normal F2 H2) →
    aB.wp C (.region VT) (dR 1 (gW C (aB.wp C (.region NK)) K)) F H0:=by
   intro t F ht hte f0 f1 f5 f6 f7 K hK
   have esh:shift .shr .u64 (t:Int) (s:Int)=some (.int .u64 ((t/2 ^ s:Nat):Int)):=bgT Om
   simp only[go_sem,μ,υ,γ,η,ζ,VT,f5,f7,f1,em,eu,esh,bY,hb1]
   refine fN (src:=[[.int .u32 ((t/2 ^ s%4294967296:Nat):Int)]]) hO rfl (nC Om) fun v' H' hO' _=>?_
   rw[nD] at hO'
   simp only[go_sem,γ,NK,f6,ew]
   refine hK v' _ H' ?_ hO' ?_
   ·unfold NJ
    exact Lq
   ·rw[sC,← hD]
    congr 2
    have e:val (a.drop z)/4294967296 ^ P.length=t%4294967296+4294967296*(t/4294967296+4294967296*(val (a.drop z)/4294967296 ^ P.length/(4294967296*4294967296))):=by
     have:=Nat.mod_add_div (val (a.drop z)/4294967296 ^ P.length) (4294967296*4294967296)
     rw[hte] at this
     have h2:=Nat.mod_add_div t 4294967296
     rw[bwX,← byS,h2,← bxH]
     exact this.symm
    have:=SA hs e
    rw[this]
    congr 2
    have h2:=Nat.mod_add_div t 4294967296
    omega
  simp only[aB.wp,go_sem] at fin
  simp only[go_sem,γ,reduceCtorEq,c1',aEU,hax,ex,aEV,ew]
  by_cases c2:z+P.length+1<a.length
  ·have c2':((z+P.length+1:Nat):Int)<(a.length:Nat):=by omega
   have hai2:=ha _ (bwS c2)
   have hax2:=bG a c2
   rw[byG c2] at hdrop
   generalize hy:a[z+P.length+1]=y at *
   have ey:IntKind.u64.wrap ((y:Nat):Int)=((y:Nat):Int):=bB Om
   have esh:shift .shl .u64 (y:Int) ((32:Nat):Int)=some (.int .u64 ((2 ^ 32*y:Nat):Int)):=GC (by decide) Om
   have eor:=orI (a:=x) (b:=2 ^ 32*y) (n:=x+2 ^ 32*y) Om Om (aAT Om Om) Om
   simp only[go_sem,γ,reduceCtorEq,c2',aEW,ew,hax2,ey,show shift .shl .u64 (y:Int) 32=_ from esh,eor]
   refine fin (x+2 ^ 32*y) _ Om ?_ rfl rfl rfl rfl rfl _ ?_
   ·rw[← hvd,hdrop]
    simp only[val]
    omega
   ·intro v' F2 H2 e1 e2 e3
    refine aJ (α:=List Nat × PV × PH) (P++[(x+2 ^ 32*y)/2 ^ s%4294967296],v',H2) ⟨by simp; omega,by simpa using e3,e2⟩ (by simp; omega) ?_ PH.le_refl
    simp only[bwW,bxD]
    exact e1
  ·have c2':¬ ((z+P.length+1:Nat):Int)<(a.length:Nat):=by omega
   rw[bzU (l:=a) (i:=z+P.length+1) Om] at hdrop
   simp only[go_sem,c2']
   refine fin x _ Om ?_ rfl rfl rfl rfl rfl _ ?_
   ·rw[← hvd,hdrop]
    simp only[val]
    omega
   ·intro v' F2 H2 e1 e2 e3
    refine aJ (α:=List Nat × PV × PH) (P++[x/2 ^ s%4294967296],v',H2) ⟨by simp; omega,by simpa using e3,e2⟩ (by simp; omega) ?_ PH.le_refl
    simp only[bwW,bxD]
    exact e1
 ·have e:z+P.length=a.length:=by omega
  have c1':¬ ((z+P.length:Nat):Int)<(a.length:Nat):=by omega
  have hV:val P=val (a.drop z)/2 ^ s:=by
   rw[hD]
   refine lL (Nat.lt_of_le_of_lt (Nat.div_le_self _ _) ?_)
   have:=eE hLd
   rw[byI] at this
   rw[show P.length=a.length-z by omega]
   exact this
  have hs:=L.trim _ hlimP Om
  rw[hV,← hR] at hs
  simp only[go_sem,γ,reduceCtorEq,c1',anU]
  refine qM hs hO rfl fun F1 H1 _=>?_
  simp only[go_sem]
  exact aU (.inr rfl) .nil rfl PH.nil_le ⟨.refl _,rfl⟩
structure IV (C:Ctx):Prop extends WS C where
 bits:∀ xs,Lim xs→xs.length≤35184372087808→aE C 31 [aD xs] .nil (aC (.int .i64 (bZ (val xs):Nat)))
 upM:∀ (a:List Nat) (n:Nat),Lim a→a.length≤8388608→n≤8388608→(a.length=0→val a=0)→aE C 45 [aD a,.int .i64 n] .nil (jV 1 (aG (aF (val a*2 ^ n))))
 down:∀ (a:List Nat) (n:Nat),Lim a→a.length≤8388608→n≤1000000000→aE C 40 [aD a,.int .i64 n] .nil (aC (aD (aF (val a/2 ^ n))))
def udS:Spec:=fun name vs=>match name,vs with
 | 35,[.int _ v]=>some ([],fun _=>aC (aD (aF v.toNat)))
 | 44,[x,y]=>some ([],fun _=>aC (aD (aF (val (gG x)*val (gG y)))))
 | 32,[x,.osl q _ _ _]=>some ([q],fun H0 r H'=>H'=H0∧∀ xs,Lim xs→H0 q=some (.rows 1 (aG xs))→r=.int .i64 (cW (val (gG x)) (val xs)))
 | _,_=>none
theorem a7B (v:Nat):udS 35 [.int .u64 v]=some ([],fun _=>aC (aD (aF v))):=rfl
theorem a1F (x y:List Nat):udS 44 [aD x,aD y]=some ([],fun _=>aC (aD (aF (val x*val y)))):=by
 show some ([],fun _=>aC (aD (aF (val (gG (aD x))*val (gG (aD y))))))=_; rw[dP,dP]
theorem a3G (q:Nat) (x L:List Nat):(PH.nil.set q (.rows 1 (aG L)))=(PH.nil.set q (.rows 1 (aG L)))∧∀ xs,Lim xs→(PH.nil.set q (.rows 1 (aG L))) q=some (.rows 1 (aG xs))→(PV.int .i64 (cW (val x) (val L)))=.int .i64 (cW (val (gG (aD x))) (val xs)):=by
 refine⟨rfl,fun xs hx e=>?_⟩
 rw[fJ] at e
 have:aG L=aG xs:=(cM.rows.inj (byZ.inj e)).2
 rw[LD this,dP]
def duF (n o lx:Nat) (y:List Nat) (top oq lq:Nat) (k:Int):PF :=
 ((((((PF.nil.set 10 (.int .i64 n)).set 11 (.osl o 1 0 lx)).set 12 (aD y)).set 13 (.int .u64 top)).set 14 (.osl oq 1 0 lq)).set 15 (.int .i64 k))
abbrev dL (X:List Nat) (Z:List (List PV)):List (List PV):=aG X++Z
theorem HM {X:List Nat} {Z:List (List PV)} {i:Nat} (h:i<X.length):(dL X Z)[i]?=some [.int .u32 ((X[i]:Nat):Int)]:=by
 rw[dL,bzJ (by rw[bO]; exact h),bG X h]
theorem apL {X:List Nat} {Z:List (List PV)} {i:Nat} (h:i<X.length) (v:Nat):(dL X Z).set i [.int .u32 (v:Int)]=dL (X.set i v) Z:=by
 rw[dL,List.set_append_left _ _ (by rw[bO]; exact h),eO]
theorem apK {X:List Nat} {Z:List (List PV)} {j m:Nat} (h:j+m≤X.length):((dL X Z).drop j).take m=aG ((X.drop j).take m):=by
 rw[dL,List.drop_append_of_le_length (by rw[bO]; omega),List.take_append_of_le_length (by rw[byI,bO]; omega)]
 unfold aG
 rw[← List.map_drop,← List.map_take]
theorem bgU {C:Ctx} (L:IV C) (n o lx:Nat) (y:List Nat) (top oq lq j:Nat) (X:List Nat) (Z:List (List PV)) (hne:oq≠o) (hy:Lim y) (hX:Lim X) (hlx:X.length=lx) (hl:lx≤5000) (hj:j+(y.length+1)≤lx) (hy0:0<val y)
  (qv:cM) (g0:Nat) (hg:val ((X.drop j).take (y.length+1))/val y≤g0) (hg0:g0<4294967296) (K:cI) (F:PF) (H:PH) (hF:((duF n o lx y top oq lq j).set 17 (.int .u64 g0)).le F) (hH:((PH.nil.set o (.rows 1 (dL X Z))).set oq qv).le H)
  (hK:∀ F' H',((duF n o lx y top oq lq j).set 17 (.int .u64 (val ((X.drop j).take (y.length+1))/val y:Nat))).le F'→((PH.nil.set o (.rows 1 (dL X Z))).set oq qv).le H'→K .normal F' H') :
  aB.wp C (.block 4 (.loop rT)) K F H:=by
 have bvO:¬ o=oq:=fun h=>hne h.symm
 have hWl:((X.drop j).take (y.length+1)).length=y.length+1:=by rw[bxE,byI]; omega
 have hWL:Lim ((X.drop j).take (y.length+1)):=(hX.drop _).take _
 have hcut:=apK (X:=X) (Z:=Z) (j:=j) (m:=y.length+1) Om
 have bwJ:j+(y.length+1)≤(dL X Z).length:=by rw[dL,bwW,bO]; omega
 have hWn:aG ((X.drop j).take (y.length+1))≠[]:=fun h=>by
  have:=congrArg List.length h
  rw[bO,hWl] at this
  simp at this
 generalize hW:(X.drop j).take (y.length+1)=W at *
 generalize hqq:val W/val y=qq at *
 simp only[go_sem]
 refine wp_loop (α:=Nat) (fun g=>(duF n o lx y top oq lq j).set 17 (.int .u64 g)) (fun _=>(PH.nil.set o (.rows 1 (dL X Z))).set oq qv) (fun g=>qq≤g∧g<4294967296) (fun g=>g) g0 ⟨hg,hg0⟩ hF hH ?_
 rintro g ⟨hge,hlt⟩
 have e1:IntKind.i64.wrap ((j:Int)+((y.length:Nat):Int))=((j+y.length:Nat):Int):=fD Om
 have e2:IntKind.i64.wrap (((j+y.length:Nat):Int)+1)=((j+y.length+1:Nat):Int):=cY Om
 have b1:(j:Int)≤((j+y.length+1:Nat):Int):=by omega
 have b2:((j+y.length+1:Nat):Int)≤(lx:Nat):=by omega
 have b3:j+y.length+1-j=y.length+1:=by omega
 have mk:=L.make g Om
 have tm:=L.times y (aF g) hy (aR _) Om (by
  have h1:nl g≤1:=kY (by rw[Nat.pow_one]; exact hlt)
  rw[aV]; omega)
 rw[aQ] at tm
 have hnt:(aF (val y*g)).length≤35184372087808:=by
  have h1:nl g≤1:=kY (by rw[Nat.pow_one]; exact hlt)
  have h2:=jQ (a:=val y) (b:=g) (eN hy) h1
  rw[aV]; omega
 have cm:=L.cmp (aF (val y*g)) W (aR _) hWL hnt Om
 rw[aQ] at cm
 simp only[go_sem,rT]
 refine bM .nil udS PH.nil_le ?_
 simp only[go_sem,γ,SM,duF]
 refine bF (a7B g) mk Sq PH.nil_le ?_
 simp only[go_sem]
 have tS:=a1F y (aF g)
 rw[aQ] at tS
 refine bF tS tm Sq PH.nil_le ?_
 simp only[go_sem,γ,reduceCtorEq,bwN,e1,e2,b1,b2,b3]
 refine wK (src:=aG W) ?_ ?_ (fun h=>absurd h hWn) fun _ o' ho'=>?_
 ·simp only[go_sem,bvO,bwJ,hcut]
 ·unfold roomFor
  rw[bO,hWl]
  simp only[maxLen]; omega
 refine⟨PH.nil_le,?_⟩
 rw[bO,hWl]
 have n1:¬ o'=oq:=(cS.1 ho').1
 refine a3H (o:=o') (s:=1) (rs:=aG W) (vs:=[aD (aF (val y*g)),.osl o' 1 0 (y.length+1)]) (v:=.int .i64 (cW (val y*g) (val W))) rfl (.int _ _) Sq ?_ ?_ ?_ Sq PH.nil_le ?_
 ·rw[bzB,bzB,List.map_nil,qU (by rw[bO,hWl]; exact bwR _),bxC (by rw[bO,hWl]; exact bwR _)]
  exact cm
 ·have:=a3G o' (aF (val y*g)) W
  rw[aQ] at this
  exact this
 ·rintro r H' ⟨h1,h2⟩
  have:=h2 W hWL (by rw[fJ])
  rw[dP,aQ] at this
  exact⟨this,h1⟩
 simp only[go_sem,γ]
 by_cases c:val W<val y*g
 ·have hc:cW (val y*g) (val W)=1:=by
   unfold cW
   rw[if_neg Om,if_pos c]
  have hq:qq<g:=by rw[← hqq]; exact (bzF hy0).2 (by rw[bxK]; exact c)
  have ew:IntKind.u64.wrap ((g:Int)-1)=((g-1:Nat):Int):=by rw[wrap_u64 Om Om]; omega
  simp only[go_sem,γ,hc,show (1:Int)>0 by decide,SN,ew]
  refine aJ (g-1) ⟨by omega,by omega⟩ Om ?_ ?_
  ·exact Lq
  ·refine PH.aH (PH.aH PH.nil_le ?_) ?_
   ·have n2:¬ o=o':=fun h=>by
     subst h
     rw[bL,if_neg bvO,fJ] at ho'
     cases ho'
    simp only[go_sem,n2,bvO]
   ·have n3:¬ oq=o':=fun h=>n1 h.symm
    simp only[go_sem,n3]
 ·have hc:¬ cW (val y*g) (val W)>0:=by
   unfold cW
   rw[if_neg c]
   split<;>decide
  have hq:g=qq:=by
   have:g≤qq:=by rw[← hqq]; exact (Nat.le_div_iff_mul_le hy0).2 (by rw[bxK]; omega)
   omega
  simp only[go_sem,hc]
  refine hK _ _ ?_ ?_
  ·unfold duF
   (repeat' (first|exact PF.nil_le|refine PF.aH ?_ ?_))<;>first|(simp only[go_sem,γ,← hq]<;>rfl)|rfl
  ·refine PH.aH (PH.aH PH.nil_le ?_) ?_
   ·have n2:¬ o=o':=fun h=>by
     subst h
     rw[bL,if_neg bvO,fJ] at ho'
     cases ho'
    simp only[go_sem,n2,bvO]
   ·have n3:¬ oq=o':=fun h=>n1 h.symm
    simp only[go_sem,n3]
theorem bbL (R k:Nat) (h:k<nl R):∃ h':k<(aF R).length,(aF R)[k]=R/4294967296 ^ k%4294967296:=by
 have hl:k<(aF R).length:=by rw[aV]; exact h
 refine⟨hl,?_⟩
 have h1:=rK (aR R) (Nat.le_of_lt hl)
 rw[aQ,byG hl] at h1
 have h2:=aR R _ (bwS hl)
 simp only[val] at h1
 rw[← h1,Nat.add_mul_mod_self_left,bxR h2]
theorem a5F (R k:Nat) (h:nl R≤k):R/4294967296 ^ k%4294967296=0:=by
 rw[bzS ((fY R k).1 h)]
theorem bcV {A P W Z:List Nat} {i:Nat} (hP:P.length=i) (hi:i<W.length) (v:Nat):(A++(P++W.drop i)++Z).set (A.length+i) v=A++((P++[v])++W.drop (i+1))++Z :=
 LD (by rw[← eO]; exact BO hP hi v)
theorem bjR {C:Ctx} (n o lx:Nat) (y:List Nat) (top oq lq j:Nat) (X:List Nat) (Z:List (List PV)) (hne:oq≠o) (hlx:X.length=lx) (hl:lx≤5000) (hj:j+(y.length+1)≤lx)
  (qv:cM) (g R:Nat) (K:cI) (F:PF) (H:PH) (hF:((((duF n o lx y top oq lq j).set 17 (.int .u64 g)).set 18 (aD (aF R))).set 19 (.int .i64 0)).le F) (hH:((PH.nil.set o (.rows 1 (dL X Z))).set oq qv).le H)
  (hK:∀ F' H',((duF n o lx y top oq lq j).set 17 (.int .u64 g)).le F'→((PH.nil.set o (.rows 1 (dL (X.take j++dE (y.length+1) R++X.drop (j+(y.length+1))) Z))).set oq qv).le H'→K .normal F' H') :
  aB.wp C (.block 6 (.loop rU)) K F H:=by
 have bvO:¬ o=oq:=fun h=>hne h.symm
 have hA:(X.take j).length=j:=by rw[bxE]; omega
 have hWl:((X.drop j).take (y.length+1)).length=y.length+1:=by rw[bxE,byI]; omega
 have hZl:(X.drop (j+(y.length+1))).length=lx-(j+(y.length+1)):=by rw[byI,hlx]
 have hsplit:X.take j++(X.drop j).take (y.length+1)++X.drop (j+(y.length+1))=X:=by
  rw[bxU,← List.drop_drop,byX,byX]
 rw[← hsplit] at hH
 generalize hAA:X.take j=A at *
 generalize hWW:(X.drop j).take (y.length+1)=W at *
 generalize hZZ:X.drop (j+(y.length+1))=Zx at *
 simp only[go_sem]
 refine wp_loop (α:=List Nat) (fun P=>(((duF n o lx y top oq lq j).set 17 (.int .u64 g)).set 18 (aD (aF R))).set 19 (.int .i64 P.length)) (fun P=>(PH.nil.set o (.rows 1 (dL (A++(P++W.drop P.length)++Zx) Z))).set oq qv)
  (fun P=>P.length≤y.length+1∧P=dE P.length R) (fun P=>y.length+1-P.length) [] ⟨bwZ _,rfl⟩ hF (by simpa using hH) ?_
 rintro P ⟨hP,hD⟩
 simp only[go_sem,γ,rU,SO,duF]
 by_cases c:P.length<y.length+1
 ·have c':(P.length:Int)≤(y.length:Nat):=by omega
  have ei:IntKind.i64.wrap ((j:Int)+(P.length:Int))=((j+P.length:Nat):Int):=fD Om
  have hlen:(A++(P++W.drop P.length)++Zx).length=lx:=by
   simp only[bwW,byI]; omega
  have hi:j+P.length<(A++(P++W.drop P.length)++Zx).length:=by omega
  have b1:((j+P.length:Nat):Int)<(lx:Nat):=by omega
  have r1:=HM (Z:=Z) hi
  have s1:=apL (Z:=Z) hi 0
  have hi2:j+P.length<((A++(P++W.drop P.length)++Zx).set (j+P.length) 0).length:=by rw[byR]; exact hi
  have hput:=fun v=>bcV (A:=A) (P:=P) (W:=W) (Z:=Zx) (i:=P.length) rfl Om v
  rw[hA] at hput
  generalize hXX:A++(P++W.drop P.length)++Zx=XX at *
  have r2:(dL (A++((P++[0])++W.drop (P.length+1))++Zx) Z)[j+P.length]?=some [.int .u32 ((0:Nat):Int)]:=by
   rw[← hput 0,HM hi2,List.getElem_set_self]
  have s2:∀ v,(dL (A++((P++[0])++W.drop (P.length+1))++Zx) Z).set (j+P.length) [.int .u32 ((v:Nat):Int)]=dL (A++((P++[v])++W.drop (P.length+1))++Zx) Z:=by
   intro v
   rw[← hput 0,apL hi2,List.set_set,hput]
  have bvL:=sC P.length R
  rw[← hD] at bvL
  have ew:IntKind.i64.wrap ((P.length:Int)+1)=((P.length+1:Nat):Int):=cY Om
  simp only[go_sem,γ,c',SP,ei,b1,bvO,r1,show ([PV.int .u32 (0:Int)])=[PV.int .u32 ((0:Nat):Int)] from rfl,s1,SQ,aV]
  by_cases c2:P.length<nl R
  ·have c2':(P.length:Int)<(nl R:Nat):=by omega
   obtain⟨hl',hv⟩:=bbL R P.length c2
   have hr:=bG (aF R) hl'
   rw[hv] at hr
   simp only[go_sem,γ,c2',SR,hr,ei,b1,bvO,r2,s2,List.set_set,hput,zT,ew]
   refine aJ (P++[R/4294967296 ^ P.length%4294967296]) ⟨by simp; omega,by rw[bwW,bxD]; exact bvL.symm⟩ (by simp; omega) ?_ ?_
   ·rw[bwW,bxD]
    exact Lq
   ·rw[bwW,bxD]
    refine PH.aH (PH.aH PH.nil_le ?_) ?_<;>simp only[go_sem,bvO,show ¬ oq=o from hne]
  ·have c2':¬ (P.length:Int)<(nl R:Nat):=by omega
   have hv:=a5F R P.length Om
   rw[hv] at bvL
   simp only[go_sem,γ,c2',hput,zT,ew]
   refine aJ (P++[0]) ⟨by simp; omega,by rw[bwW,bxD]; exact bvL.symm⟩ (by simp; omega) ?_ ?_
   ·rw[bwW,bxD]
    exact Lq
   ·rw[bwW,bxD]
    refine PH.aH (PH.aH PH.nil_le ?_) ?_<;>simp only[go_sem,bvO,show ¬ oq=o from hne]
 ·have c':¬ (P.length:Int)≤(y.length:Nat):=by omega
  have e:P.length=y.length+1:=by omega
  simp only[go_sem,c']
  refine hK _ _ (by unfold duF; exact Lq) ?_
  have h2:A++dE (y.length+1) R++Zx=A++(P++W.drop P.length)++Zx:=by
   rw[bzU Om,byU,← e,← hD]
  rw[h2]
  exact PH.le_refl
theorem a4S {y W:List Nat} {m:Nat} (hy:Lim y) (hW:Lim W) (hly:y.length=m+1) (hlW:W.length=m+2) (ht:0<y[m]):val W/val y≤(4294967296*W[m+1]+W[m])/y[m]:=by
 have h1:=bS y (Om:m<y.length)
 rw[bxC Om] at h1
 have h2:=bS W (Om:m+1<W.length)
 rw[bxC Om,bS W (Om:m<W.length)] at h2
 have h3:=eE (hW.take m)
 rw[bxE,byK Om] at h3
 have hp:0<4294967296 ^ m:=byY (by decide)
 have hb:4294967296 ^ m*y[m]≤val y:=by omega
 have hpos:0<4294967296 ^ m*y[m]:=Nat.mul_pos hp ht
 have e:val W=val (W.take m)+4294967296 ^ m*(4294967296*W[m+1]+W[m]):=by
  rw[h2,byE,bwX,bxH]; omega
 refine Nat.le_trans (Nat.div_le_div_left hb hpos) ?_
 rw[← Nat.div_div_eq_div_mul,e,Nat.add_mul_div_left _ _ hp,bzS h3,bxO]
 exact bwR _
theorem a1G {C:Ctx} (L:IV C) (U0 n o lx lq oq m:Nat) (y z:List Nat) (hne:oq≠o) (hy:Lim y) (hly:y.length=m+1) (ht:0<y[m]) (hlu:lx=lq+(m+1)) (bwE:lx≤5000) (X:List Nat) (hI:mE U0 (val y) (m+1) lx lq lq X (bwP lq 0)) (K:cI) (F:PF) (H:PH)
  (hF:(duF n o lx y (y[m]) oq lq ((lq:Int)-1)).le F) (hH:((PH.nil.set o (.rows 1 (dL X (aG z)))).set oq (.rows 1 (aG (bwP lq 0)))).le H)
  (hK:∀ X' Q' F' H',mE U0 (val y) (m+1) lx lq 0 X' Q'→(duF n o lx y (y[m]) oq lq (-1)).le F'→((PH.nil.set o (.rows 1 (dL X' (aG z)))).set oq (.rows 1 (aG Q'))).le H'→K .normal F' H') :
  aB.wp C (.block 2 (.loop rV)) K F H:=by
 have bvO:¬ o=oq:=fun h=>hne h.symm
 have hne2:¬ oq=o:=hne
 have hV:val y<4294967296 ^ (m+1):=by have:=eE hy; rw[hly] at this; exact this
 have hV0:0<val y:=by
  have h1:=bS y (Om:m<y.length)
  rw[bxC Om] at h1
  have:0<4294967296 ^ m*y[m]:=Nat.mul_pos (byY (by decide)) ht
  omega
 have htl:=hy _ (bwS (Om:m<y.length))
 generalize htop:y[m]=top at *
 simp only[go_sem]
 refine wp_loop (α:=Nat × List Nat × List Nat) (fun t=>duF n o lx y top oq lq ((t.1:Int)-1)) (fun t=>(PH.nil.set o (.rows 1 (dL t.2.1 (aG z)))).set oq (.rows 1 (aG t.2.2)))
  (fun t=>t.1≤lq∧mE U0 (val y) (m+1) lx lq t.1 t.2.1 t.2.2) (fun t=>t.1) (lq,X,bwP lq 0) ⟨bwR _,hI⟩ hF hH ?_
 rintro⟨k,X,Q⟩ ⟨hk,hI⟩
 simp only at hk hI
 simp only[go_sem,γ,rV,SH,duF]
 by_cases h0:0<k
 ·obtain⟨j,rfl⟩:∃ j,k=j+1:=⟨k-1,by omega⟩
  have hz:((j+1:Nat):Int)-1=(j:Int):=by omega
  have hge:(j:Int)≥0:=by omega
  have dst:=asU hI hV Om hlu
  rw[show m+1+1=m+2 from rfl] at dst
  obtain⟨hlt,hI'⟩:=dst
  have hXl:=hI.lu'
  have hQl:=hI.lq'
  have hWl:((X.drop j).take (m+2)).length=m+2:=by rw[bxE,byI]; omega
  have hWL:Lim ((X.drop j).take (m+2)):=(hI.limU.drop _).take _
  have hg1:m+1<((X.drop j).take (m+2)).length:=by omega
  have hg0:m<((X.drop j).take (m+2)).length:=by omega
  have a1:j+(m+1)<X.length:=by omega
  have a0:j+m<X.length:=by omega
  have w1:((X.drop j).take (m+2))[m+1]=X[j+(m+1)]:=by simp
  have w0:((X.drop j).take (m+2))[m]=X[j+m]:=by simp
  have hgu:=a4S hy hWL hly hWl (by rw[htop]; exact ht)
  rw[w1,w0,htop] at hgu
  have r1:=HM (Z:=aG z) a1
  have r0:=HM (Z:=aG z) a0
  have l1:=hI.limU _ (bwS a1)
  have l0:=hI.limU _ (bwS a0)
  generalize hx1:X[j+(m+1)]=x1 at *
  generalize hx0:X[j+m]=x0 at *
  have e1:IntKind.i64.wrap ((j:Int)+((y.length:Nat):Int))=((j+(m+1):Nat):Int):=by rw[hly]; exact fD Om
  have e0:IntKind.i64.wrap (((j+(m+1):Nat):Int)-1)=((j+m:Nat):Int):=by rw[wrap_i64 Om Om]; omega
  have b1:((j+(m+1):Nat):Int)<(lx:Nat):=by omega
  have b0:((j+m:Nat):Int)<(lx:Nat):=by omega
  have ex1:IntKind.u64.wrap ((x1:Nat):Int)=((x1:Nat):Int):=bB Om
  have ex0:IntKind.u64.wrap ((x0:Nat):Int)=((x0:Nat):Int):=bB Om
  have esh:shift .shl .u64 (x1:Int) 32=some (.int .u64 ((2 ^ 32*x1:Nat):Int)):=GC (s:=32) Om Om
  have e32:(2:Nat) ^ 32=4294967296:=by decide
  have eor:=orI (a:=2 ^ 32*x1) (b:=x0) (n:=2 ^ 32*x1+x0) Om Om (Nat.two_pow_add_eq_or_of_lt Om x1).symm Om
  rw[e32] at esh eor
  have hdd:¬ ((top:Nat):Int)=0:=by omega
  have hq64:(4294967296*x1+x0)/top<18446744073709551616:=Nat.lt_of_le_of_lt (Nat.div_le_self _ _) Om
  have equo:IntKind.u64.wrap (Int.tdiv ((4294967296*x1+x0:Nat):Int) ((top:Nat):Int))=(((4294967296*x1+x0)/top:Nat):Int):=by
   rw[show Int.tdiv ((4294967296*x1+x0:Nat):Int) ((top:Nat):Int)=(((4294967296*x1+x0)/top:Nat):Int) from rfl]
   exact bB hq64
  have hqB:val ((X.drop j).take (m+2))/val y<4294967296:=(bzF hV0).2 (by rw[bxK]; exact hlt)
  have hcut:=apK (X:=X) (Z:=aG z) (j:=j) (m:=m+2) Om
  have bwJ:j+(m+2)≤(dL X (aG z)).length:=by rw[dL,bwW,bO]; omega
  have hrest:val ((X.drop j).take (m+2))-val y*(val ((X.drop j).take (m+2))/val y)=val ((X.drop j).take (m+2))%val y:=by
   have:=bzR (val ((X.drop j).take (m+2))) (val y)
   omega
  have hmulle:val y*(val ((X.drop j).take (m+2))/val y)≤val ((X.drop j).take (m+2)):=Nat.mul_div_le _ _
  clear w1 w0
  have gu:=fun g0=>bgU (C:=C) L n o lx y top oq lq j X (aG z) hne hy hI.limU hXl bwE Om hV0 (.rows 1 (aG Q)) g0
  rw[hly,show m+1+1=m+2 from rfl] at gu
  generalize hW:(X.drop j).take (m+2)=W at *
  generalize hqq:val W/val y=qq at *
  have hWn:aG W≠[]:=fun h=>by
   have:=congrArg List.length h
   rw[bO,hWl] at this
   simp at this
  have tail:∀ (g0:Nat) (F:PF) (H:PH),qq≤g0→g0<4294967296→((duF n o lx y top oq lq j).set 17 (.int .u64 g0)).le F→((PH.nil.set o (.rows 1 (dL X (aG z)))).set oq (.rows 1 (aG Q))).le H →
    aB.wp C (.seq (.block 4 (.loop rT)) (.seq (.region zR) (.seq (.seq (.region zS) (.block 6 (.loop rU))) (.region zU)))) (dR 3 (gW C (aB.wp C (.region zV)) (eA (fun (t:Nat × List Nat × List Nat)=>duF n o lx y top oq lq ((t.1:Int)-1)) (fun t=>(PH.nil.set o (.rows 1 (dL t.2.1 (aG z)))).set oq (.rows 1 (aG t.2.2))) (fun t=>t.1≤lq∧mE U0 (val y) (m+1) lx lq t.1 t.2.1 t.2.2) (fun t=>t.1) (j+1) (dR 2 K)))) F H:=by
   intro g0 F H hg hgB hF hH
   have gu:=gu g0 hg hgB
   simp only[go_sem] at gu
   simp only[go_sem]
   refine gu _ F H hF hH ?_
   intro F1 H1 hF1 hH1
   have f11:F1 11=some (.osl o 1 0 lx):=hF1 11 _ (by unfold duF; simp only[go_sem,γ])
   have f12:F1 12=some (aD y):=hF1 12 _ (by unfold duF; simp only[go_sem,γ])
   have f15:F1 15=some (.int .i64 j):=hF1 15 _ (by unfold duF; simp only[go_sem,γ])
   have f17:F1 17=some (.int .u64 (qq:Nat)):=hF1 17 _ (by unfold duF; simp only[go_sem,γ])
   have f10:F1 10=some (.int .i64 n):=hF1 10 _ (by unfold duF; simp only[go_sem,γ])
   have f13:F1 13=some (.int .u64 top):=hF1 13 _ (by unfold duF; simp only[go_sem,γ])
   have f14:F1 14=some (.osl oq 1 0 lq):=hF1 14 _ (by unfold duF; simp only[go_sem,γ])
   have ho:H1 o=some (.rows 1 (dL X (aG z))):=hH1 o _ (by simp only[go_sem,bvO])
   have hoq:H1 oq=some (.rows 1 (aG Q)):=hH1 oq _ Sq
   have b3:(j:Int)≤((j+(m+1)+1:Nat):Int):=by omega
   have b4:((j+(m+1)+1:Nat):Int)≤(lx:Nat):=by omega
   have b5:j+(m+1)+1-j=m+2:=by omega
   have e2:IntKind.i64.wrap (((j+(m+1):Nat):Int)+1)=((j+(m+1)+1:Nat):Int):=cY Om
   simp only[go_sem,γ,reduceCtorEq,zR,f11,f15,f12,bwN,e1,e2,b3,b4,b5]
   refine wK (src:=aG W) ?_ ?_ (fun h=>absurd h hWn) fun _ o' ho'=>?_
   ·simp only[go_sem,ho,bwJ,hcut]
   ·unfold roomFor
    rw[bO,hWl]
    simp only[maxLen]; omega
   rw[bO,hWl]
   have n1:¬ oq=o':=fun h=>by subst h; rw[hoq] at ho'; cases ho'
   have n2:¬ o=o':=fun h=>by subst h; rw[ho] at ho'; cases ho'
   have nq:nl qq≤1:=kY (by rw[Nat.pow_one]; exact hqB)
   have tm:=L.times y (aF qq) hy (aR _) Om (by rw[aV]; omega)
   rw[aQ] at tm
   have nW:=eN hWL
   have mn:=L.minus W (aF (val y*qq)) hWL (aR _) (by rw[aQ]; exact hmulle) (by rw[aV]; exact Nat.le_trans (eU hmulle) nW) Om
   rw[aQ,hrest] at mn
   have hWt:(aG W).take (m+2)=aG W:=bxC (by rw[bO]; omega)
   simp only[go_sem,f17]
   refine aA (L.make qq Om) Sq ?_
   simp only[go_sem,f12]
   refine aA tm Sq ?_
   simp only[go_sem]
   refine lM (o:=o') (s:=1) (rs:=aG W) mn Sq (by simp only[go_sem,γ,show m+2≤W.length by omega,hWt]) ?_
   simp only[go_sem,γ,zS]
   have hfx:(dL X (aG z)).map (fun r=>r.map (PV.dX o' 1 (aG W)))=dL X (aG z):=by
    have:dL X (aG z)=aG (X++z):=by simp[dL,aG]
    rw[this]; exact oW _ _ _ _
   have hfq:(aG Q).map (fun r=>r.map (PV.dX o' 1 (aG W)))=aG Q:=oW _ _ _ _
   have ur:=bjR (C:=C) n o lx y top oq lq j X (aG z) hne hXl bwE Om (.rows 1 (aG Q)) qq (val W%val y)
   rw[hly,show m+1+1=m+2 from rfl] at ur
   simp only[go_sem] at ur
   refine ur _ _ _ ?_ ?_ ?_
   ·unfold duF
    (repeat' (first|exact PF.nil_le|refine PF.aH ?_ ?_))<;>first|(simp only[go_sem,γ,f10,f11,f12,f13,f14,f15,f17,n1,n2]<;>rfl)|rfl
   ·refine PH.aH (PH.aH PH.nil_le ?_) ?_
    ·simp only[go_sem,bvO,n2,ho,cM.frz,hfx]
    ·simp only[go_sem,n1,hoq,cM.frz,hfq]
   intro F3 H3 hF3 hH3
   have k10:F3 10=some (.int .i64 n):=hF3 10 _ (by unfold duF; simp only[go_sem,γ])
   have k11:F3 11=some (.osl o 1 0 lx):=hF3 11 _ (by unfold duF; simp only[go_sem,γ])
   have k12:F3 12=some (aD y):=hF3 12 _ (by unfold duF; simp only[go_sem,γ])
   have k13:F3 13=some (.int .u64 top):=hF3 13 _ (by unfold duF; simp only[go_sem,γ])
   have k14:F3 14=some (.osl oq 1 0 lq):=hF3 14 _ (by unfold duF; simp only[go_sem,γ])
   have k15:F3 15=some (.int .i64 j):=hF3 15 _ (by unfold duF; simp only[go_sem,γ])
   have k17:F3 17=some (.int .u64 qq):=hF3 17 _ (by unfold duF; simp only[go_sem,γ])
   have ho3:H3 o=some (.rows 1 (dL (X.take j++dE (m+2) (val W%val y)++X.drop (j+(m+2))) (aG z))):=hH3 o _ (by simp only[go_sem,bvO])
   have hq3:H3 oq=some (.rows 1 (aG Q)):=hH3 oq _ Sq
   have hjq:j<Q.length:=by omega
   have rq:=bG Q hjq
   have hjl:(j:Int)<(lq:Nat):=by omega
   have sq:=eO Q j qq
   have ec:IntKind.u32.wrap ((qq:Nat):Int)=((qq:Nat):Int):=by rw[bY,bxR hqB]
   have ej:IntKind.i64.wrap ((j:Int)-1)=(j:Int)-1:=wrap_i64 Om Om
   simp only[go_sem,γ,zU,k14,k15,k17,hjl,hq3,rq,ec,sq,zV,ej]
   refine aJ (α:=Nat × List Nat × List Nat) (j,_,_) ⟨by simp only; omega,hI'⟩ (by simp only; omega) ?_ ?_
   ·unfold duF
    (repeat' (first|exact PF.nil_le|refine PF.aH ?_ ?_))<;>first|(simp only[go_sem,γ,k10,k11,k12,k13,k14]<;>rfl)|rfl
   ·refine PH.aH (PH.aH PH.nil_le ?_) ?_
    ·simp only[go_sem,bvO,ho3]
    ·simp only[go_sem]
  simp only[aB.wp,go_sem] at tail
  simp only[go_sem,hz,hge]
  refine bM .nil dV PH.nil_le ?_
  simp only[go_sem,γ,reduceCtorEq,SI,e1,e0,b1,b0,bvO,r1,r0,ex1,ex0,esh,eor,SJ,hdd,equo,SK]
  by_cases c:(4294967296*x1+x0)/top>4294967295
  ·have c':(((4294967296*x1+x0)/top:Nat):Int)>4294967295:=by omega
   simp only[go_sem,c',SL]
   exact tail 4294967295 _ _ Om (by decide) (by unfold duF; exact Lq) PH.le_refl
  ·have c':¬ (((4294967296*x1+x0)/top:Nat):Int)>4294967295:=by omega
   simp only[go_sem,c']
   exact tail _ _ _ hgu Om (by unfold duF; exact Lq) PH.le_refl
 ·have:k=0:=by omega
  subst this
  have hz:¬ ((0:Nat):Int)-1≥0:=by decide
  simp only[go_sem,hz]
  refine hK X Q _ _ hI ?_ PH.le_refl
  unfold duF
  (repeat' (first|exact PF.nil_le|refine PF.aH ?_ ?_))<;>first|(simp only[go_sem,ο,γ,show ((0:Nat):Int)-1=-1 from rfl]<;>rfl)|rfl
def a7A (a:List Nat) (d q k r:Nat):PF:=(((((PF.nil.set 0 (aD a)).set 1 (aD [d])).set 6 (.osl q 1 0 a.length)).set 7 (.int .u64 r)).set 8 (.int .i64 ((k:Int)-1)))
theorem aWL {C:Ctx} (L:IV C) (a:List Nat) (d:Nat) (ha:Lim a) (hd0:0<d) (hd:d<4294967296) (h1:a.length≤1000) (F:PF) (f0:F 0=some (aD a)) (f1:F 1=some (aD [d])) :
  aB.wp C (.seq (.region GO) (.seq (.region GP) (.seq (.seq (.region GQ) (.block 0 (.loop zL))) (.seq (.region zM) .ret)))) (aS [.tmp 4,.tmp 5] (bV (nM (val a) d))) F .nil:=by
 have hm1:((a.length:Nat):Int)*((4:Nat):Int)≤140737488355328:=by omega
 have hm2:((a.length:Nat):Int)≤9223372036854775807:=by omega
 have hz:bwP a.length [PV.int .u32 0]=aG (bwP a.length 0++[]):=by
  simp[aG]
 simp only[go_sem,γ,GO,f0,bwN,hm1,hm2,hz]
 refine aP fun o ho=>?_
 simp only[go_sem,γ,reduceCtorEq,GP,GQ,f0,bwN]
 refine wp_loop (α:=Nat × List Nat × Nat) (fun t=>a7A a d o t.1 t.2.2) (fun t=>PH.nil.set o (.rows 1 (aG (bwP t.1 0++t.2.1))))
  (fun t=>t.1+t.2.1.length=a.length∧Lim t.2.1∧t.2.2<d∧val t.2.1*d+t.2.2=val (a.drop t.1)) (fun t=>t.1) (a.length,[],0) ⟨by simp,by simp[Lim],hd0,by simp[val]⟩ ?_ ?_ ?_
 ·unfold a7A
  (repeat' (first|exact PF.nil_le|refine PF.aH ?_ ?_))<;>first|(simp only[go_sem,γ,reduceCtorEq,f0,f1,wrap_i64 (Om:-9223372036854775808≤((a.length:Nat):Int)-1) (Om:((a.length:Nat):Int)-1≤9223372036854775807)]<;>rfl)|rfl
 ·exact PH.aH PH.nil_le Sq
 rintro⟨k,S,r⟩ ⟨hk,bvG,hr,bvC⟩
 simp only at hk bvG hr bvC
 simp only[go_sem,γ,reduceCtorEq,zL,adA,a7A]
 by_cases h0:0<k
 ·obtain⟨m,rfl⟩:∃ m,k=m+1:=⟨k-1,by omega⟩
  have hzz:((m+1:Nat):Int)-1=(m:Int):=by omega
  have hge:(m:Int)≥0:=by omega
  have hml:m<a.length:=by omega
  have hlt:(m:Int)<(a.length:Nat):=by omega
  have hai:=ha _ (bwS hml)
  have hdrop:val (a.drop m)=a[m]+4294967296*val (a.drop (m+1)):=by rw[byG hml]; rfl
  have hax:=bG a hml
  generalize hx:a[m]=x at *
  have ex:IntKind.u64.wrap ((x:Nat):Int)=((x:Nat):Int):=bB Om
  have ed:IntKind.u64.wrap ((d:Nat):Int)=((d:Nat):Int):=bB Om
  have esh:shift .shl .u64 (r:Int) 32=some (.int .u64 ((2 ^ 32*r:Nat):Int)):=GC (s:=32) Om Om
  have e32:(2:Nat) ^ 32=4294967296:=by decide
  have eor:=orI (a:=2 ^ 32*r) (b:=x) (n:=2 ^ 32*r+x) Om Om (Nat.two_pow_add_eq_or_of_lt Om r).symm Om
  rw[e32] at esh eor
  have hq:(4294967296*r+x)/d<4294967296:=by
   rw[bzF hd0]
   have:4294967296*(r+1)≤4294967296*d:=byM _ hr
   omega
  have hdd:¬ ((d:Nat):Int)=0:=by omega
  have equo:IntKind.u64.wrap (Int.tdiv ((4294967296*r+x:Nat):Int) ((d:Nat):Int))=(((4294967296*r+x)/d:Nat):Int):=by
   rw[show Int.tdiv ((4294967296*r+x:Nat):Int) ((d:Nat):Int)=(((4294967296*r+x)/d:Nat):Int) from rfl]
   exact bB Om
  have erem:Int.tmod ((4294967296*r+x:Nat):Int) ((d:Nat):Int)=(((4294967296*r+x)%d:Nat):Int):=rfl
  have ec:IntKind.u32.wrap (((4294967296*r+x)/d:Nat):Int)=(((4294967296*r+x)/d:Nat):Int):=by rw[bY,bxR hq]
  have bwI:bwP (m+1) 0++S=bwP m 0++(0::S):=by
   rw[List.replicate_succ',bxU]; rfl
  have hin:(aG (bwP m 0++(0::S)))[m]?=some [.int .u32 ((0:Nat):Int)]:=by
   rw[bG _ (by simp)]; simp
  have buW:(aG (bwP m 0++(0::S))).set m [.int .u32 (((4294967296*r+x)/d:Nat):Int)]=aG (bwP m 0++(((4294967296*r+x)/d)::S)):=by
   rw[eO,bzZ _ _ (by simp)]; simp
  simp only[go_sem,ν,γ,reduceCtorEq,hzz,hge,adB,esh,hax,ex,eor,adC,ed,hdd,equo,ec,hlt,bwI,hin,buW,SD,erem,SE]
  refine aJ (m,((4294967296*r+x)/d)::S,(4294967296*r+x)%d) ⟨by simp only[byQ]; omega,fun y hy=>?_,bxX _ hd0,?_⟩ (by simp only; omega) ?_ (PH.aH PH.nil_le Sq)
  ·rw[bxF] at hy
   rcases hy with rfl | hy
   ·exact hq
   ·exact bvG y hy
  ·simp only[val]
   rw[hdrop,← bvC,bxN,bwX,bxH]
   have:=bzR (4294967296*r+x) d
   rw[bxK d] at this
   omega
  ·(repeat' (first|exact PF.nil_le|refine PF.aH ?_ ?_))<;>first|(simp only[go_sem,γ,reduceCtorEq,wrap_i64 (Om:-9223372036854775808≤(m:Int)-1) (Om:(m:Int)-1≤9223372036854775807)]<;>rfl)|rfl
 ·have:k=0:=by omega
  subst this
  have hzz:¬ ((0:Nat):Int)-1≥0:=by decide
  rw[bxP] at bvC
  have hS:S.length=a.length:=by omega
  have hq:val S=val a/d:=by
   rw[← bvC,bxK,Nat.mul_add_div hd0,bzS hr,byB]
  have hrm:r=val a%d:=by rw[← bvC,bxK,Nat.mul_add_mod,bxR hr]
  have hn0:bwP 0 0++S=S:=by simp
  have hl:=L.trim S bvG Om
  have hSt:(aG S).take a.length=aG S:=bxC (by rw[bO]; omega)
  simp only[go_sem,υ,γ,reduceCtorEq,hzz,zM,byW]
  refine lM (o:=o) (s:=1) (rs:=aG S) hl Sq (by simp only[go_sem,γ,reduceCtorEq,hSt,show a.length≤S.length by omega]) ?_
  simp only[go_sem,γ,reduceCtorEq]
  refine aA (L.make r Om) Sq ?_
  simp only[go_sem,γ,reduceCtorEq]
  refine aU (vs:=[aD (aF (val S)),aD (aF r)]) (.inr rfl) .nil Ev PH.nil_le ⟨?_,rfl⟩
  rw[hq,hrm]
  exact .refl _
theorem a9G {B m:Nat} (h:nl B=m+1):32*m<bZ B∧bZ B≤32*(m+1):=by
 refine⟨?_,(jT B (m+1)).2 Om⟩
 rcases bxG (32*m) (bZ B) with h1 | h1
 ·exact h1
 ·have:=(jT B m).1 h1
  omega
theorem a9H {B:Nat} (h:B≠0):2 ^ (bZ B-1)≤B:=by
 rcases bxG B (2 ^ (bZ B-1)) with h1 | h1
 ·have h2:=(jS B _).2 h1
  have h3:bZ B≠0:=fun e=>h (iH.1 e)
  omega
 ·exact h1
theorem aWM {C:Ctx} (L:IV C) (A B:Nat) (hB:B≠0) (hA:nl A≤512) (hBl:nl B≤512) :
  wD.wp C (aS BT.res (bV (nM A B))) (PF.args [aD (aF A),aD (aF B)]) .nil:=by
 have LA:=aR A
 have LB:=aR B
 have vA:=aQ A
 have vB:=aQ B
 have lA:(aF A).length=nl A:=rfl
 have lB:(aF B).length=nl B:=rfl
 simp only[go_sem,γ,reduceCtorEq,wD,acW,acX,BT]
 refine aA (L.cmp _ _ LA LB Om Om) rfl ?_
 rw[vA,vB]
 by_cases c1:A<B
 ·have hc:cW A B<0:=by simp[cW,c1]
  simp only[go_sem,γ,reduceCtorEq,hc,acY]
  refine aA (L.trim _ LA Om) rfl ?_
  rw[vA]
  simp only[go_sem,γ]
  refine aU (vs:=[.buJ,aD (aF A)]) (.inr rfl) .nil rfl PH.nil_le ⟨?_,rfl⟩
  rw[nM,bzS c1,bxR c1,eQ]
  exact CoL.tup (CoL.cons (.nil 1) (CoL.cons (.refl _) .nil))
 have hc:¬ cW A B<0:=by
  unfold cW
  rw[if_neg c1]
  split<;>decide
 have hB0:0<B:=byN hB
 have hnB:nl B≠0:=fun h=>hB (fT.1 h)
 simp only[go_sem,γ,hc,acZ,bwN,lB]
 by_cases c2:nl B=1
 ·have hBB:B<4294967296:=by have:=(fY B 1).1 Om; simpa using this
  have hlb:aF B=[B]:=lI hB hBB
  have sh:=aWL (C:=C) L (aF A) B LA hB0 hBB Om
  rw[vA] at sh
  simp only[aB.wp,go_sem] at sh
  simp only[go_sem,bX (Om:((nl B:Nat):Int)=1)]
  exact sh _ rfl (by simp only[go_sem,γ,hlb])
 obtain⟨m,hm⟩:∃ m,nl B=m+1:=⟨nl B-1,by omega⟩
 have hm1:1≤m:=by omega
 obtain⟨hb1,hb2⟩:=a9G hm
 obtain⟨n,hn⟩:∃ n,n+bZ B=32*(m+1):=⟨32*(m+1)-bZ B,by omega⟩
 have hn32:n<32:=by omega
 have hp2:0<2 ^ n:=byY (by decide)
 have hBlt:B<2 ^ bZ B:=(jS B _).1 (bwR _)
 have hBge:=a9H hB
 have hVhi:B*2 ^ n<4294967296 ^ (m+1):=by
  have:B*2 ^ n<2 ^ bZ B*2 ^ n:=Nat.mul_lt_mul_of_pos_right hBlt hp2
  rw[← Nat.pow_add,show bZ B+n=32*(m+1) by omega,Nat.pow_mul] at this
  exact this
 have hVlo:4294967296 ^ m*2147483648≤B*2 ^ n:=by
  have:2 ^ (bZ B-1)*2 ^ n≤B*2 ^ n:=bxQ _ hBge
  rw[← Nat.pow_add,show bZ B-1+n=32*m+31 by omega,Nat.pow_add,Nat.pow_mul] at this
  exact this
 have nV:nl (B*2 ^ n)=m+1:=by
  have h1:=(fY (B*2 ^ n) (m+1)).2 hVhi
  rcases bxG (nl (B*2 ^ n)) (m+1) with h | h
  ·have:=(fY (B*2 ^ n) m).1 Om
   have hpp:0<4294967296 ^ m:=byY (by decide)
   omega
  ·omega
 have hV0:B*2 ^ n≠0:=Nat.mul_ne_zero hB Om
 have nU1:nl (A*2 ^ n)≤nl A+1:=jQ (bwR _) (kY (by rw[Nat.pow_one]; exact Nat.pow_lt_pow_right (a:=2) (m:=n) (n:=32) (by decide) hn32))
 have hUV:B*2 ^ n≤A*2 ^ n:=bxQ _ Om
 have nUV:m+1≤nl (A*2 ^ n):=by rw[← nV]; exact eU hUV
 have hU0:A*2 ^ n≠0:=by omega
 have e32:IntKind.i64.wrap (32*((nl B:Nat):Int))=((32*(m+1):Nat):Int):=by rw[wrap_i64 Om Om]; omega
 have en:IntKind.i64.wrap (((32*(m+1):Nat):Int)-((bZ B:Nat):Int))=(n:Int):=by rw[wrap_i64 Om Om]; omega
 have bt:=L.bits (aF B) LB Om
 rw[vB] at bt
 have ua:=L.upM (aF A) n LA Om Om (fun h=>by have:=eE LA; rw[h] at this; omega)
 have ub:=(L.upM (aF B) n LB Om Om (fun h=>by have:=eE LB; rw[h] at this; omega)).freeze
 rw[vA] at ua
 rw[vB] at ub
 have tail:∀ (o:Nat) (F:PF) (H:PH),F 0=some (aD (aF A))→F 1=some (aD (aF B))→F 10=some (.int .i64 n)→F 11=some (.osl o 1 0 (nl (A*2 ^ n)+2))→F 12=some (aD (aF (B*2 ^ n)))→H o=some (.rows 1 (aG (aF (A*2 ^ n))++[[.int .u32 0],[.int .u32 0]])) →
   aB.wp C (.seq (.region zN) (.seq (.region zO) (.seq (.region zP) (.seq (.seq (.region zQ) (.block 2 (.loop rV))) (.seq (.region zW) .ret))))) (aS [.tmp 4,.tmp 5] (bV (nM A B))) F H:=by
  intro o F H f0 f1 f10 f11 f12 hH
  have LU:=aR (A*2 ^ n)
  have LV:=aR (B*2 ^ n)
  have vU:=aQ (A*2 ^ n)
  have vV:=aQ (B*2 ^ n)
  have lU:(aF (A*2 ^ n)).length=nl (A*2 ^ n):=rfl
  have lV:(aF (B*2 ^ n)).length=m+1:=nV
  have eu:IntKind.i64.wrap (((nl (A*2 ^ n):Nat):Int)+1)=((nl (A*2 ^ n)+1:Nat):Int):=cY Om
  have b1:((nl (A*2 ^ n)+1:Nat):Int)≤((nl (A*2 ^ n)+2:Nat):Int):=by omega
  simp only[go_sem,γ,reduceCtorEq,zN,f11,f0,f10]
  refine aA ua.freeze rfl ?_
  obtain⟨lq,hlq⟩:∃ lq,nl (A*2 ^ n)+1-(m+1)=lq:=⟨_,rfl⟩
  have hlx:nl (A*2 ^ n)+1=lq+(m+1):=by omega
  have em:IntKind.i64.wrap (((m+1:Nat):Int)-1)=((m:Nat):Int):=by rw[wrap_i64 Om Om]; omega
  have hmV:m<(aF (B*2 ^ n)).length:=by omega
  have rm:=bG (aF (B*2 ^ n)) hmV
  have tl:=LV _ (bwS hmV)
  have htop:0<(aF (B*2 ^ n))[m]:=by
   have h1:=bS (aF (B*2 ^ n)) hmV
   rw[bxC Om,vV] at h1
   have h2:=eE (LV.take m)
   rw[bxE,byK Om] at h2
   have hpp:0<4294967296 ^ m:=byY (by decide)
   rcases bzK (aF (B*2 ^ n))[m] with h | h
   ·rw[h] at h1; omega
   ·exact h
  have htop31:2147483648≤(aF (B*2 ^ n))[m]:=by
   have h1:=bS (aF (B*2 ^ n)) hmV
   rw[bxC Om,vV] at h1
   have h2:=eE (LV.take m)
   rw[bxE,byK Om] at h2
   rcases bxG (aF (B*2 ^ n))[m] 2147483648 with h | h
   ·exfalso
    have h3:4294967296 ^ m*((aF (B*2 ^ n))[m]+1)≤4294967296 ^ m*2147483648:=byM _ h
    rw[bwX,Nat.mul_one] at h3
    omega
   ·exact h
  have key0:=a1G (C:=C) L (A*2 ^ n) n o (nl (A*2 ^ n)+1) lq
  have hI:mE (A*2 ^ n) (val (aF (B*2 ^ n))) (m+1) (nl (A*2 ^ n)+1) lq lq (aF (A*2 ^ n)++[0]) (bwP lq 0):=by
   refine⟨by rw[bwW,lU]; rfl,bzW,LU.app fun x hx=>by simp at hx; omega,sI _,?_,?_,fun i x _ hx=>aGT hx⟩
   ·rw[eZ,vU,pK]; simp[val]
   ·have hlen:(aF (A*2 ^ n)++[0]).length=nl (A*2 ^ n)+1:=by rw[bwW,lU]; rfl
    have hv0:val (aF (A*2 ^ n)++[0])=A*2 ^ n:=by rw[eZ,vU]; simp[val]
    rw[rK (LU.app fun x hx=>by simp at hx; omega) Om,hv0,vV,bzF (byY (by decide))]
    have h1:A*2 ^ n<4294967296 ^ nl (A*2 ^ n):=(fY _ _).1 (bwR _)
    have hx:nl (A*2 ^ n)=m+lq:=by omega
    rw[hx,Nat.pow_add] at h1
    have h2:4294967296 ^ m*4294967296 ^ lq≤(B*2 ^ n)*4294967296 ^ lq:=bxQ _ Om
    omega
  have hrows:aG (aF (A*2 ^ n))++[[PV.int .u32 0],[PV.int .u32 0]]=dL (aF (A*2 ^ n)++[0]) (aG [0]):=by
   simp[dL,aG]
  rw[hrows] at hH
  generalize htp:(aF (B*2 ^ n))[m]=top at *
  have et:IntKind.u64.wrap ((top:Nat):Int)=((top:Nat):Int):=bB Om
  have k2:IntKind.i64.wrap (((nl (A*2 ^ n)+1:Nat):Int)-((m+1:Nat):Int))=((lq:Nat):Int):=by rw[wrap_i64 Om Om]; omega
  have k3:((lq:Nat):Int)*((4:Nat):Int)≤140737488355328:=by omega
  have k4:((lq:Nat):Int)≤9223372036854775807:=by omega
  have hz:bwP lq [PV.int .u32 0]=aG (bwP lq 0):=by simp[aG]
  have jq:IntKind.i64.wrap ((lq:Int)-1)=(lq:Int)-1:=wrap_i64 Om Om
  simp only[go_sem,ν,γ,reduceCtorEq,bwN,lU,eu,b1,zO,f12,lV,em,rm,et,zP,k2,k3,k4,hz]
  refine aP fun oq hoq=>?_
  have hne:oq≠o:=by rintro rfl; rw[hH] at hoq; cases hoq
  have bvO:¬ o=oq:=fun h=>hne h.symm
  have key:=key0 oq m (aF (B*2 ^ n)) [0] hne LV lV (by rw[htp]; exact htop) hlx Om _ hI
  rw[htp] at key
  simp only[go_sem,ο] at key
  simp only[go_sem,γ,zQ,jq]
  refine key _ _ _ ?_ ?_ ?_
  ·unfold duF
   exact Lq
  ·refine PH.aH (PH.aH PH.nil_le ?_) ?_
   ·simp only[go_sem,bvO,hH]
   ·simp only[go_sem]
  clear key key0
  intro X Q F1 H1 hI1 hF1 hH1
  have g10:F1 10=some (.int .i64 n):=hF1 10 _ (by unfold duF; simp only[go_sem,ο,γ])
  have g11:F1 11=some (.osl o 1 0 (nl (A*2 ^ n)+1)):=hF1 11 _ (by unfold duF; simp only[go_sem,ο,γ])
  have g14:F1 14=some (.osl oq 1 0 lq):=hF1 14 _ (by unfold duF; simp only[go_sem,ο,γ])
  have ho1:H1 o=some (.rows 1 (dL X (aG [0]))):=hH1 o _ (by simp only[go_sem,bvO])
  have hq1:H1 oq=some (.rows 1 (aG Q)):=hH1 oq _ Sq
  have hu:val X<val (aF (B*2 ^ n)):=by have:=hI1.r; rwa [bxP] at this
  have hv':=hI1.v
  rw[vV] at hu hv'
  have hQv:val Q=A/B:=by
   have:A*2 ^ n/(B*2 ^ n)=val Q:=by
    rw[← hv',Nat.add_mul_div_right _ _ Om,bzS hu,bxO]
   rw[← this,Nat.mul_div_mul_right _ _ hp2]
  have hUv:val X/2 ^ n=A%B:=by
   have:A*2 ^ n%(B*2 ^ n)=val X:=by rw[← hv',Nat.add_mul_mod_self_right,bxR hu]
   rw[← this,Nat.mul_mod_mul_right,Nat.mul_div_cancel _ hp2]
  have lX:=hI1.lu'
  have lQ:=hI1.lq'
  have hQt:(aG Q).take lq=aG Q:=bxC (by rw[bO]; omega)
  have hXt:(dL X (aG [0])).take (nl (A*2 ^ n)+1)=aG X:=by
   rw[dL,List.take_append_of_le_length (by rw[bO]; omega),bxC (by rw[bO]; omega)]
  have hXl:nl (A*2 ^ n)+1≤(dL X (aG [0])).length:=by rw[dL,bwW,bO]; omega
  have hfx:(dL X (aG [0])).map (fun r=>r.map (PV.dX oq 1 (aG Q)))=dL X (aG [0]):=by
   have:dL X (aG [0])=aG (X++[0]):=by simp[dL,aG]
   rw[this]; exact oW _ _ _ _
  have nX:=eN hI1.limU
  have t1:=L.trim Q hI1.limQ Om
  have t2:=L.trim X hI1.limU Om
  have dn:=L.down (aF (val X)) n (aR _) (by rw[aV]; omega) Om
  rw[aQ,hUv] at dn
  rw[hQv] at t1
  generalize aG [0]=Z0 at ho1 hXt hXl hfx
  simp only[go_sem,zW,g14]
  refine lM (o:=oq) (s:=1) (rs:=aG Q) t1 hq1 (by simp only[go_sem,hQt,show lq≤Q.length by omega]) ?_
  simp only[go_sem,γ,g11,bvO]
  refine lM (o:=o) (s:=1) (rs:=dL X Z0) t2 (by simp only[go_sem,bvO,ho1,cM.frz,hfx]) (by simp only[go_sem,γ,hXt,hXl]) ?_
  simp only[go_sem,γ,g10]
  refine aA dn rfl ?_
  simp only[go_sem,γ]
  exact aU (vs:=[aD (aF (A/B)),aD (aF (A%B))]) (.inr rfl) .nil rfl PH.nil_le ⟨.refl _,rfl⟩
 simp only[aB.wp,go_sem] at tail
 simp only[go_sem,γ,bD (Om:¬ ((nl B:Nat):Int)=1),SF,bwN,lB]
 refine aA bt rfl ?_
 simp only[go_sem,γ,reduceCtorEq,e32,en,SG]
 refine fA ua rfl PH.nil_le fun r H1 hr _=>?_
 have hb2:(2:Nat)*1≤16777216:=by decide
 rcases hr with ⟨h0,_⟩ | ⟨o,rs,rfl,rfl,hrl,hrt⟩
 ·exfalso
  have:=congrArg List.length h0
  rw[bO,aV] at this
  simp at this
  omega
 rw[PH.kO]
 rw[bO,aV] at hrl hrt
 simp only[go_sem,υ,δ,γ,η,ζ,hb2,bO,aV]
 refine OI (src:=[[.int .u32 0],[.int .u32 0]]) (rs:=rs) rfl ?_ Sq hrl ?_ fun o' ho'=>?_
 ·unfold roomFor
  simp only[maxLen,byQ,byV]; omega
 ·rw[hrt]
  simp only[go_sem,δ]
  refine aA ub rfl ?_
  simp only[go_sem,γ]
  exact tail o _ _ rfl rfl rfl rfl rfl Sq
 ·rw[hrt]
  simp only[go_sem,δ]
  refine aA ub rfl ?_
  simp only[go_sem,γ]
  exact tail o' _ _ rfl rfl rfl rfl rfl Sq
structure aqS (C:Ctx):Prop extends arJ C where
 int:∀ n:Int,cQ n→aE C 47 [.int .i64 n] .nil (aC (.agg (mkT n 1).cells))
 mul:∀ a b,Lim a→Lim b→a.length≤35184372087808→b.length≤35184372087808→aE C 36 [aD a,aD b] .nil (aC (opV (dK (val a) (val b)) (val a*val b)))
 add:∀ a b,Lim a→Lim b→a.length≤35184372087808→b.length≤35184372087808→aE C 30 [aD a,aD b] .nil (aC (opV (dK (val a) (val b)) (val a+val b)))
 sub:∀ a b,Lim a→Lim b→a.length≤35184372087808→b.length≤35184372087808→aE C 37 [aD a,aD b] .nil (aC (oQ (val a) (val b)))
theorem aoP (a b:Nat):cH a b=(decide (nl b>0)&&(decide (nl b≤128)&&decide (nl a≤128))):=by
 have:=@fT b
 refine Bool.eq_iff_iff.2 ?_
 rw[eR]
 simp only[bxJ,decide_eq_true_eq]
 omega
theorem a2F {C:Ctx} (L:aqS C) (neg:Bool) (a b:List Nat) (ha:Lim a) (hb:Lim b) (la:a.length≤35184372087808) (lb:b.length≤35184372087808) :
  AE.wp C (aS OG.res (aC (.bool (cH (val a) (val b))))) (PF.args [.agg (dS neg a b)]) .nil:=by
 rw[aoP]
 simp only[go_sem,γ,AE,apG,apH,OG]
 refine aA (L.trim b hb lb) rfl ?_
 simp only[go_sem,γ,bwN,aV]
 by_cases c1:nl (val b)>0
 ·have c1':((nl (val b):Nat):Int)>0:=by omega
  simp only[go_sem,γ,c1']
  refine aA (L.trim b hb lb) rfl ?_
  simp only[go_sem,γ,bwN,aV]
  by_cases c2:nl (val b)≤128
  ·have c2':((nl (val b):Nat):Int)≤128:=by omega
   simp only[go_sem,δ,γ,θ,c2']
   refine aA (L.trim a ha la) rfl ?_
   simp only[go_sem,γ,bwN,aV]
   refine aI (.inr rfl) rfl ?_
   have:decide (((nl (val a):Nat):Int)≤128)=decide (nl (val a)≤128):=by
    refine decide_eq_decide.2 ?_
    omega
   rw[aT,this,decide_eq_true c1,decide_eq_true c2]
   rfl
  ·have c2':¬ ((nl (val b):Nat):Int)≤128:=by omega
   simp only[go_sem,γ,reduceCtorEq,c2']
   refine aI (.inr rfl) rfl ?_
   rw[aT,decide_eq_false c2,bwT,bxT]
 ·have c1':¬ ((nl (val b):Nat):Int)>0:=by omega
  simp only[go_sem,γ,reduceCtorEq,c1']
  refine aI (.inr rfl) rfl ?_
  rw[aT,decide_eq_false c1,bwT]
theorem UP {neg:Bool} {a b:Nat} (h:cH a b=true):fU neg a b=.ok (kD neg a b):=by
 obtain⟨h1,h2,h3⟩:=eR.1 h
 have e1:=(jT (a/bwQ a b) 128).2 (abD _ h3)
 have e2:=(jT (b/bwQ a b) 128).2 (abD _ h2)
 unfold fU kD
 rw[if_neg Om]
def aSX (a b:Nat):Bool:=decide (nl a>128)||decide (nl b>128)
theorem a1Z {C:Ctx} (neg:Bool) (a b:List Nat) :
  AB.wp C (aS OC.res (aC (.bool (decide (a.length>128)||decide (b.length>128))))) (PF.args [.agg (dS neg a b)]) .nil:=by
 simp only[go_sem,δ,γ,θ,AB,aoR,aoS,OC,bwN]
 by_cases c:a.length>128
 ·have c':((a.length:Nat):Int)>128:=by omega
  simp only[go_sem,γ,c']
  refine aI (.inr rfl) rfl ?_
  rw[aT,decide_eq_true c,Bool.true_or]
 ·have c':¬ ((a.length:Nat):Int)>128:=by omega
  simp only[go_sem,γ,reduceCtorEq,c',bwN]
  refine aI (.inr rfl) rfl ?_
  have:decide (((b.length:Nat):Int)>128)=decide (b.length>128):=by
   refine decide_eq_decide.2 ?_
   omega
  rw[aT,this,decide_eq_false c,Bool.false_or]
def atP (x:FV):FR:=if aSX x.2.1 x.2.2 then .error 2 else .ok x
theorem a9Z (neg:Bool) (a b:Nat):atP (kD neg a b)=fU neg a b:=by
 have e1:=jT (a/bwQ a b) 128
 have e2:=jT (b/bwQ a b) 128
 unfold atP kD fU aSX
 simp only[Bool.or_eq_true,decide_eq_true_eq]
 by_cases c:nl (a/bwQ a b)>128∨nl (b/bwQ a b)>128
 ·rw[if_pos c,if_pos Om]
 ·rw[if_neg c,if_neg Om]
structure WT (C:Ctx):Prop extends aqS C where
 valid:∀ x:RF,x.Ok→aE C 56 [.agg x.cells] .nil (aC (.bool (cH (val x.num) (val x.den))))
 big:∀ x:FV,aE C 48 [.agg x.rf.cells] .nil (aC (.bool (aSX x.2.1 x.2.2)))
theorem a7P {C:Ctx} (L:WT C) (x:FV):HE.wp C (aS adN.res (bV (frV (atP x)))) (PF.args [.agg x.rf.cells]) .nil:=by
 simp only[go_sem,δ,HE,aFR,adN]
 refine aP fun o ho=>?_
 simp only[go_sem,δ,γ,aFS]
 refine aA (L.big x) rfl ?_
 unfold atP
 cases aSX x.2.1 x.2.2 with
 | true =>
  simp only[go_sem,δ,γ,aFT]
  refine fS ?_
  simp only[go_sem,δ,γ]
 | false =>
  obtain⟨n,a,b⟩:=x
  simp only[go_sem,δ,γ,reduceCtorEq,aFU]
  exact aU (.inr rfl) .nil (vs:=[.agg (FV.rf (n,a,b)).cells,.int .i64 0]) Sq PH.nil_le ⟨.refl _,rfl⟩
theorem aWW {C:Ctx} (L:WT C) (x:RF) (hx:x.Ok):wG.wp C (aS BY.res (bV (frV (lN x)))) (PF.args [.agg x.cells]) .nil:=by
 simp only[go_sem,δ,wG,adW,BY]
 refine aP fun o ho=>?_
 simp only[go_sem,δ,γ,adX]
 refine aA (L.valid x hx) rfl ?_
 unfold lN
 cases hv:cH (val x.num) (val x.den) with
 | false =>
  simp only[go_sem,δ,γ,reduceCtorEq,bxB,adY]
  refine fS ?_
  simp only[go_sem,δ,γ]
 | true =>
  obtain⟨v1,v2,v3⟩:=eR.1 hv
  have e:=UP (neg:=x.neg) hv
  rw[if_pos rfl,e]
  simp only[go_sem,δ,γ,θ,bwU,adZ]
  refine aA (L.lowest x.neg x.num x.den hx.1 hx.2.1 hx.2.2.1 hx.2.2.2 Om Om v1) rfl ?_
  simp only[go_sem,δ,γ]
  exact aU (.inr rfl) .nil (vs:=[.agg (kD x.neg (val x.num) (val x.den)).rf.cells,.int .i64 0]) Sq PH.nil_le ⟨.refl _,rfl⟩
theorem a2D {C:Ctx} (L:aqS C) (a b:List Nat) (ha:Lim a) (hb:Lim b) (la:a.length≤35184372087808) (lb:b.length≤35184372087808) (na:nl (val a)≤256) (nb:nl (val b)≤256) :
  AD.wp C (aS OF.res (aC (aD (aF (val a*val b))))) (PF.args [aD a,aD b]) .nil:=by
 simp only[go_sem,γ,reduceCtorEq,AD,apD,apE,OF]
 refine aA (L.mul a b ha hb la lb) rfl ?_
 have:=jQ na nb
 rw[fR Om Om,opV,wA Om]
 simp only[go_sem,γ,reduceCtorEq,apF]
 refine aI (.inr rfl) rfl ?_
 rfl
structure arL (C:Ctx):Prop extends WT C where
 fits:∀ x:FV,aE C 57 [.agg x.rf.cells] .nil (aC (frV (atP x)))
 red:∀ x:RF,x.Ok→aE C 52 [.agg x.cells] .nil (aC (frV (lN x)))
 prod:∀ a b,Lim a→Lim b→a.length≤35184372087808→b.length≤35184372087808→nl (val a)≤256→nl (val b)≤256→aE C 60 [aD a,aD b] .nil (aC (aD (aF (val a*val b))))
def RF.valid (x:RF):Prop:=cH (val x.num) (val x.den)=true
def mM (x y:RF):Int:=oN x.neg (val x.num) (val x.den) y.neg (val y.num) (val y.den)
def voS:Spec:=fun name vs=>match name,vs with
 | 60,[x,y]=>some ([],fun _=>aC (aD (aF (val (gG x)*val (gG y)))))
 | _,_=>none
theorem sP (a b:List Nat):voS 60 [aD a,aD b]=some ([],fun _=>aC (aD (aF (val a*val b)))):=by
 show some _=_; rw[dP,dP]
theorem aiX (a b:Nat):cW b a=- cW a b:=by
 unfold cW
 rcases Nat.lt_trichotomy a b with h | h | h
 ·rw[if_neg Om,if_pos h,if_pos h]; rfl
 ·subst h
  rw[if_neg Om,if_neg Om]; rfl
 ·rw[if_pos h,if_neg Om,if_pos h]
set_option maxHeartbeats 1000000 in
theorem a2B {C : Ctx} (L : arL C) (x y : RF) (hx : x.Ok) (hy : y.Ok) (vx : x.valid) (vy : y.valid) : AC.wp C (aS OD.res (aC (.int .i64 (mM x y)))) (PF.args [.agg x.cells, .agg y.cells]) .nil := by
  obtain ⟨n1, a1, b1⟩ := x
  obtain ⟨n2, a2, b2⟩ := y
  obtain ⟨ha1, hb1, la1, lb1⟩ := hx
  obtain ⟨ha2, hb2, la2, lb2⟩ := hy
  obtain ⟨v1, v2, v3⟩ := eR.1 vx
  obtain ⟨w1, w2, w3⟩ := eR.1 vy
  simp only at ha1 hb1 la1 lb1 ha2 hb2 la2 lb2 v1 v2 v3 w1 w2 w3
  have m1 := jQ v3 w2
  have m2 := jQ w3 v2
  have hA : decide (val a1 ≠ 0) = decide (nl (val a1 * val b2) > 0) := by
    refine decide_eq_decide.2 ?_
    have := @fT (val a1 * val b2)
    rw [Nat.mul_eq_zero] at this
    omega
  have hB : decide (val a2 ≠ 0) = decide (nl (val a2 * val b1) > 0) := by
    refine decide_eq_decide.2 ?_
    have := @fT (val a2 * val b1)
    rw [Nat.mul_eq_zero] at this
    omega
  unfold mM oN
  simp only [hA, hB]
  simp only[go_sem,ο,γ,AC,aoT,OD]
  refine bM .nil voS PH.nil_le ?_
  simp only[go_sem,ο,δ,γ,θ,aoU]
  refine bF (sP a1 b2) (L.prod a1 b2 ha1 hb2 la1 lb2 Om Om) rfl PH.nil_le ?_
  simp only[go_sem,ο,δ,γ,θ]
  refine bF (sP a2 b1) (L.prod a2 b1 ha2 hb1 la2 lb1 Om Om) rfl PH.nil_le ?_
  have hc := L.cmp (aF (val a1 * val b2)) (aF (val a2 * val b1)) (aR _) (aR _) (by rw [aV]; omega) (by rw [aV]; omega)
  have hd := L.cmp (aF (val a2 * val b1)) (aF (val a1 * val b2)) (aR _) (aR _) (by rw [aV]; omega) (by rw [aV]; omega)
  rw [aQ, aQ] at hc hd
  rw [aiX (val a1 * val b2)] at hd
  generalize val a1 * val b2 = A at *
  generalize val a2 * val b1 = B at *
  have gA : decide (((nl A : Nat) : Int) > 0) = decide (nl A > 0) := decide_eq_decide.2 Om
  have gB : decide (((nl B : Nat) : Int) > 0) = decide (nl B > 0) := decide_eq_decide.2 Om
  generalize decide (nl A > 0) = p at *
  generalize decide (nl B > 0) = q at *
  cases n1 <;> cases n2 <;> cases p <;> cases q
  all_goals
    simp only[go_sem,ο,δ,γ,θ,reduceCtorEq,aoV,bwN,aV,gA,gB,aoW,aoX,aoY,aoZ,apA,apB,apC]
    first
    | (refine aI (.inr rfl) rfl ?_; rfl)
    | (refine aA hc rfl ?_
       simp only[go_sem,γ]
       refine aI (.inr rfl) rfl ?_
       rfl)
    | (refine aA hd rfl ?_
       simp only[go_sem,γ]
       refine aI (.inr rfl) rfl ?_
       rfl)
structure uU (C:Ctx):Prop extends arL C where
 order:∀ x y:RF,x.Ok→y.Ok→x.valid→y.valid→aE C 51 [.agg x.cells,.agg y.cells] .nil (aC (.int .i64 (mM x y)))
theorem a7S {C:Ctx} (L:uU C) (x y:RF) (hx:x.Ok) (hy:y.Ok) (vx:x.valid) (vy:y.valid):HF.wp C (aS adP.res (aC (.bool (decide (mM x y<0))))) (PF.args [.agg x.cells,.agg y.cells]) .nil:=by
 simp only[go_sem,δ,γ,HF,aFW,aFX,adP]
 refine aA (L.order x y hx hy vx vy) rfl ?_
 simp only[go_sem,γ]
 refine aI (.inr rfl) rfl ?_
 rfl
theorem a7W {C:Ctx} (L:uU C) (x y:RF) (hx:x.Ok) (hy:y.Ok) (vx:x.valid) (vy:y.valid):HJ.wp C (aS aeA.res (aC (.bool (mM x y==0)))) (PF.args [.agg x.cells,.agg y.cells]) .nil:=by
 simp only[go_sem,δ,γ,HJ,aGG,aGH,aeA]
 refine aA (L.order x y hx hy vx vy) rfl ?_
 simp only[go_sem,γ]
 refine aI (.inr rfl) rfl ?_
 rfl
theorem BG (n:Int):mkT n 1=⟨decide (n<0),aF n.natAbs,aF 1⟩:=by
 unfold mkT kD FV.rf
 rw[show (1:Int).natAbs=1 from rfl,Nat.gcd_one_right,Nat.div_one,Nat.div_one,show decide ((1:Int)<0)=false from rfl]
 congr 1
 by_cases h:n<0
 ·have:n.natAbs≠0:=by omega
  simp[h,this]
 ·simp[h]
theorem BF (n:Int) (h:cQ n):(mkT n 1).Ok∧(mkT n 1).valid:=by
 have h1:nl n.natAbs≤2:=kY (by unfold cQ at h; omega)
 rw[BG]
 refine⟨⟨aR _,aR _,?_,?_⟩,?_⟩
 ·simp only[aV]; omega
 ·simp only[sJ]; decide
 ·unfold RF.valid
  simp only[aQ]
  rw[aoP]
  have:nl 1=1:=by rw[nl,sJ]; rfl
  simp[this]
  omega
def oG (x:RF):Int:=if val x.num=0 then 0 else if x.neg then -1 else 1
theorem a5X (x:RF):mM x (mkT 0 1)=oG x:=by
 rw[BG]
 unfold mM oG oN
 simp only[aQ,show (0:Int).natAbs=0 from rfl,Nat.mul_one,Nat.zero_mul]
 by_cases h:val x.num=0
 ·simp[h,cW]
 ·cases x.neg<;>simp[h,cW]
def viS (r:Int):Spec:=fun name _=>if name=47 then some ([],fun _=>aC (.agg (mkT 0 1).cells)) else some ([],fun _=>aC (.int .i64 r))
theorem a7Y {C:Ctx} (L:uU C) (x:RF) (hx:x.Ok) (vx:x.valid):HK.wp C (aS aeB.res (aC (.int .i64 (oG x)))) (PF.args [.agg x.cells]) .nil:=by
 have h0:cQ 0:=by unfold cQ; omega
 have ho:=L.order x (mkT 0 1) hx (BF 0 h0).1 vx (BF 0 h0).2
 rw[a5X] at ho
 simp only[go_sem,HK,aGI,aeB]
 refine bM .nil (viS (oG x)) PH.nil_le ?_
 simp only[go_sem,δ,γ,aGJ]
 refine bF rfl (L.int 0 h0) rfl PH.nil_le ?_
 simp only[go_sem]
 refine bF rfl ho rfl PH.nil_le ?_
 simp only[go_sem,γ]
 refine aI (.inr rfl) rfl ?_
 rfl
theorem a1X {C:Ctx} (L:uU C) (n1 n2:Bool) (a1 b1 a2 b2:List Nat) (ha1:Lim a1) (hb1:Lim b1) (ha2:Lim a2) (hb2:Lim b2)
  (la1:a1.length≤35184372087808) (lb1:b1.length≤35184372087808) (la2:a2.length≤35184372087808) (lb2:b2.length≤35184372087808) :
  xV.wp C (aS aiQ.res (bV (frV (gD (n1,val a1,val b1) (n2,val a2,val b2))))) (PF.args [.agg (dS n1 a1 b1),.agg (dS n2 a2 b2)]) .nil:=by
 have vx:aE C 56 [.agg (dS n1 a1 b1)] .nil (aC (.bool (cH (val a1) (val b1)))):=L.valid ⟨n1,a1,b1⟩ ⟨ha1,hb1,la1,lb1⟩
 have vy:aE C 56 [.agg (dS n2 a2 b2)] .nil (aC (.bool (cH (val a2) (val b2)))):=L.valid ⟨n2,a2,b2⟩ ⟨ha2,hb2,la2,lb2⟩
 simp only[go_sem,δ,γ,xV,aQW,aiQ]
 refine aP fun o ho=>?_
 simp only[go_sem,δ,γ,aQX]
 refine aA vx rfl ?_
 simp only[gD]
 cases hv:cH (val a1) (val b1) with
 | false =>
  simp only[go_sem,δ,γ,reduceCtorEq,bxB,aiR,bwT]
  refine fS ?_
  simp only[go_sem,δ,γ]
 | true =>
  obtain⟨v1,v2,v3⟩:=eR.1 hv
  simp only[go_sem,δ,γ,bwU]
  refine aA vy rfl ?_
  cases hw:cH (val a2) (val b2) with
  | false =>
   simp only[go_sem,δ,γ,reduceCtorEq,bxB,aiR,bxT]
   refine fS ?_
   simp only[go_sem,δ,γ]
  | true =>
   obtain⟨w1,w2,w3⟩:=eR.1 hw
   simp only[go_sem,γ,reduceCtorEq,bwU,byL]
   refine bM .nil voS PH.nil_le ?_
   simp only[go_sem,δ,γ,θ,aQY]
   refine bF (sP a1 b2) (L.prod a1 b2 ha1 hb2 la1 lb2 Om Om) rfl PH.nil_le ?_
   simp only[go_sem,δ,γ,θ]
   refine bF (sP a2 b1) (L.prod a2 b1 ha2 hb1 la2 lb1 Om Om) rfl PH.nil_le ?_
   simp only[go_sem,γ]
   refine bF (sP b1 b2) (L.prod b1 b2 hb1 hb2 lb1 lb2 Om Om) rfl PH.nil_le ?_
   simp only[go_sem,γ]
   have m1:=jQ v3 w2
   have m2:=jQ w3 v2
   have m3:=jQ v2 w2
   have d0:val b1*val b2≠0:=Nat.mul_ne_zero v1 w1
   generalize hA:val a1*val b2=A at *
   generalize hB:val a2*val b1=B at *
   generalize hD:val b1*val b2=D at *
   have fin:∀ (F:PF) (H:PH) (r:FR),(∃ neg' x y e,frV r=.tup [.agg (dS neg' x y),.int .i64 e]∧F 4=some (.ptr o 3 0 0)∧F 5=some (.int .i64 e)∧H o=some (.rows 3 [dS neg' x y]))→aS [.cell 4 (some 3),.tmp 5] (bV (frV r)) .ret F H:=by
    rintro F H r ⟨neg',x,y,e,he,f4,f5,hH⟩
    rw[he]
    exact aU (.inr rfl) .nil (vs:=[.agg (dS neg' x y),.int .i64 e]) (by simp only[go_sem,δ,f4,f5,hH]) PH.nil_le ⟨.refl _,rfl⟩
   have eb:(n1==n2)=decide (n1=n2):=by cases n1<;>cases n2<;>rfl
   have low:∀ neg x,nl x≤257→aE C 58 [.bool neg,aD (aF x),aD (aF D)] .nil (aC (.agg (kD neg x D).rf.cells)):=by
    intro neg x hx
    have h1:(aF x).length≤35184372087808:=by rw[aV]; omega
    have h2:(aF D).length≤35184372087808:=by rw[aV]; omega
    have:=L.lowest neg (aF x) (aF D) (aR _) (aR _) h1 h2
    rw[aQ,aQ] at this
    exact this Om Om d0
   have fit:∀ neg x,aE C 57 [.agg (kD neg x D).rf.cells] .nil (aC (frV (fU neg x D))):=fun neg x=>by
    have:=L.fits (kD neg x D)
    rwa [a9Z] at this
   have lA:(aF A).length≤35184372087808:=by rw[aV]; omega
   have lB:(aF B).length≤35184372087808:=by rw[aV]; omega
   simp only[go_sem,δ,γ,θ,aQZ]
   by_cases c:n1=n2
   ·rw[if_pos c]
    have c':(n1==n2)=true:=by rw[eb,decide_eq_true c]
    simp only[go_sem,γ,c',aRA]
    have hadd:=L.add (aF A) (aF B) (aR _) (aR _) lA lB
    have nab:=azR m1 m2
    rw[aQ,aQ,fR Om Om,opV,wA Om] at hadd
    refine aA hadd rfl ?_
    simp only[go_sem,δ,γ,θ,reduceCtorEq,aRB]
    refine aA (low n1 _ Om) rfl ?_
    simp only[go_sem]
    refine aA (fit n1 _) rfl ?_
    obtain⟨neg',x,y,e,hl⟩:=qS (fU n1 (A+B) D)
    rw[hl]
    simp only[go_sem,δ,γ]
    rw[← hl]
    exact fin _ _ _ ⟨neg',x,y,e,hl,by simp only[go_sem,γ],by simp only[go_sem,γ],by simp only[go_sem]⟩
   ·rw[if_neg c]
    have c':(n1==n2)=false:=by rw[eb,decide_eq_false c]
    simp only[go_sem,γ,c',aRC]
    have hc:=L.cmp (aF A) (aF B) (aR _) (aR _) lA lB
    rw[aQ,aQ] at hc
    refine aA hc rfl ?_
    have hsub:∀ X Y:Nat,nl X≤256→nl Y≤256→Y≤X→aE C 37 [aD (aF X),aD (aF Y)] .nil (aC (.tup [aD (aF (X-Y)),.int .i64 0])):=by
     intro X Y h1 h2 h
     have:=L.sub (aF X) (aF Y) (aR _) (aR _) (by rw[aV]; omega) (by rw[aV]; omega)
     have h3:=eU (Om:X-Y≤X)
     rw[aQ,aQ,oQ,fR Om Om,if_neg (by decide),if_neg Om,wA Om] at this
     exact this
    by_cases g:B≤A
    ·have g':cW A B≥0:=(OZ A B).2 g
     rw[if_pos g]
     simp only[go_sem,γ,g',aRD]
     refine aA (hsub A B Om Om g) rfl ?_
     simp only[go_sem,δ,γ,θ,aRE]
     have h3:=eU (Om:A-B≤A)
     refine aA (low n1 (A-B) Om) rfl ?_
     simp only[go_sem]
     refine aA (fit n1 _) rfl ?_
     obtain⟨neg',x,y,e,hl⟩:=qS (fU n1 (A-B) D)
     rw[hl]
     simp only[go_sem,δ,γ]
     rw[← hl]
     exact fin _ _ _ ⟨neg',x,y,e,hl,by simp only[go_sem,γ],by simp only[go_sem,γ],by simp only[go_sem]⟩
    ·have g':¬ cW A B≥0:=fun h=>g ((OZ A B).1 h)
     rw[if_neg g]
     simp only[go_sem,γ,g',aFO]
     refine aA (hsub B A Om Om Om) rfl ?_
     simp only[go_sem,δ,γ,θ,aFP]
     have h3:=eU (Om:B-A≤B)
     refine aA (low n2 (B-A) Om) rfl ?_
     simp only[go_sem]
     refine aA (fit n2 _) rfl ?_
     obtain⟨neg',x,y,e,hl⟩:=qS (fU n2 (B-A) D)
     rw[hl]
     simp only[go_sem,δ,γ]
     rw[← hl]
     exact fin _ _ _ ⟨neg',x,y,e,hl,by simp only[go_sem,γ],by simp only[go_sem,γ],by simp only[go_sem]⟩
theorem bdS {C:Ctx} (L:uU C) (x y:RF) (hx:x.Ok) (hy:y.Ok):xV.wp C (aS aiQ.res (bV (frV (gD x.v y.v)))) (PF.args [.agg x.cells,.agg y.cells]) .nil :=
 a1X L x.neg y.neg x.num x.den y.num y.den hx.1 hx.2.1 hy.1 hy.2.1 hx.2.2.1 hx.2.2.2 hy.2.2.1 hy.2.2.2
structure aSO (C:Ctx):Prop extends uU C where
 less:∀ x y:RF,x.Ok→y.Ok→x.valid→y.valid→aE C 49 [.agg x.cells,.agg y.cells] .nil (aC (.bool (decide (mM x y<0))))
 same:∀ x y:RF,x.Ok→y.Ok→x.valid→y.valid→aE C 53 [.agg x.cells,.agg y.cells] .nil (aC (.bool (mM x y==0)))
 sign:∀ x:RF,x.Ok→x.valid→aE C 54 [.agg x.cells] .nil (aC (.int .i64 (oG x)))
 plus:∀ x y:RF,x.Ok→y.Ok→aE C 46 [.agg x.cells,.agg y.cells] .nil (aC (frV (gD x.v y.v)))
def vsF (l:List RF) (o2 o4 k:Nat):PF:=((((PF.nil.set 0 (frs l)).set 2 (.ptr o2 3 0 0)).set 4 (.ptr o4 3 0 0)).set 5 (.int .i64 k))
theorem bdX {C:Ctx} (L:aSO C) (l:List RF) (hl:∀ x∈l,x.Ok) (hlen:l.length≤9223372036854775807) :
  OE.wp C (aS aGO.res (bV (frV (mQ (l.map RF.v))))) (PF.args [frs l]) .nil:=by
 have h0:cQ 0:=by unfold cQ; omega
 have hi:(mkT 0 1).cells=(FV.rf (false,0,1)).cells:=by rw[BG]; rfl
 have hint:=L.int 0 h0
 rw[hi] at hint
 simp only[go_sem,δ,OE,aRJ,aGO]
 refine aP fun o2 ho2=>?_
 have h1:bA (PH.nil.set o2 (.rows 3 [[.bool false,.buJ,.buJ]])) [(o2,.rows 3 [[.bool false,.buJ,.buJ]])] []:=bA.nil.new (H:=PH.nil) rfl _
 generalize (PH.nil.set o2 _)=H1 at *
 simp only[go_sem,aRK]
 refine aA hint rfl ?_
 simp only[go_sem,δ]
 refine aP fun o4 ho4=>?_
 have h2:=h1.new ho4 (.rows 3 [(FV.rf (false,0,1)).cells])
 simp only[go_sem,δ,γ,aRL]
 refine wp_loop (α:=Nat × FV × PH) (fun t=>vsF l o2 o4 t.1) (fun t=>t.2.2) (fun t=>t.1≤l.length∧((l.map RF.v).take t.1).foldlM gD (false,0,1)=.ok t.2.1∧bA t.2.2 [(o2,.rows 3 [[.bool false,.buJ,.buJ]]),(o4,.rows 3 [(FV.rf t.2.1).cells])] []∧(FV.rf t.2.1).Ok) (fun t=>l.length-t.1)
  (0,(false,0,1),_) ⟨bwZ _,rfl,h2,⟨aR _,aR _,?_,?_⟩⟩ ?_ PH.le_refl ?_
 ·show (aF 0).length≤_
  rw[eQ]; simp
 ·show (aF 1).length≤_
  rw[sJ]; simp
 ·unfold vsF
  exact Lq
 rintro⟨k,acc,H0⟩ ⟨hk,hf,hH,hacc⟩
 simp only at hk hf hH hacc ⊢
 simp only[go_sem,γ,reduceCtorEq,aRI,aRM,vsF,bwN]
 by_cases hlt:k<l.length
 ·have buP:(k:Int)<(l.length:Nat):=by omega
  have hr:(l.map RF.cells)[k]?=some (l[k]).cells:=by simp[hlt]
  have hadd:=L.plus (FV.rf acc) l[k] hacc (hl _ (bwS hlt))
  rw[FV.bgN] at hadd
  have buQ:=QU (f:=gD) (l.map RF.v) (false,0,1) (k:=k) (by simpa using hlt)
  rw[hf] at buQ
  simp only[Except.bind,byO] at buQ
  have e4:=hH.at 1 rfl
  simp only[go_sem,buP]
  refine bM .nil (fun _ _=>some ([],fun _=>aC (frV (gD acc (l[k]).v)))) PH.nil_le ?_
  simp only[go_sem,δ,γ,reduceCtorEq,aRN,e4,hr]
  refine bF rfl hadd rfl PH.nil_le ?_
  cases he:gD acc (l[k]).v with
  | error e =>
   have he0:e≠0:=by
    revert he
    obtain⟨n1,a1,b1⟩:=acc
    obtain⟨n2,a2,b2⟩:=(l[k]).v
    simp only[gD,fU]
    repeat' split
    all_goals (intro h; first | (injection h with h; subst h; decide) | cases h)
   rw[he] at buQ
   simp only[go_sem,δ,γ,reduceCtorEq,frV]
   refine aP fun o6 ho6=>?_
   simp only[go_sem,δ,γ,reduceCtorEq]
   refine⟨PH.nil_le,?_⟩
   have h6:=hH.new ho6 (.rows 3 [[.bool false,aD [],aD []]])
   have e2:=h6.at 0 rfl
   simp only[go_sem,δ,γ,reduceCtorEq,aiT,dA he0,aRO,e2]
   rw[mQ,ZF _ _ buQ]
   refine fS ?_
   simp only[go_sem,δ,γ,reduceCtorEq]
  | ok r =>
   rw[he] at buQ
   obtain⟨rn,ra,rb⟩:=r
   simp only[go_sem,δ,γ,reduceCtorEq,frV]
   refine aP fun o6 ho6=>?_
   simp only[go_sem,δ,γ,reduceCtorEq]
   refine⟨PH.nil_le,?_⟩
   have h6:=hH.new ho6 (.rows 3 [(FV.rf (rn,ra,rb)).cells])
   have e6:=h6.at 2 rfl
   have e4':=h6.at 1 rfl
   generalize hG:H0.set o6 (.rows 3 [(FV.rf (rn,ra,rb)).cells])=H6 at *
   have hG':H0.set o6 (.rows 3 [[.bool rn,aD (aF ra),aD (aF rb)]])=H6:=hG
   simp only[go_sem,σ,δ,γ,reduceCtorEq,aiT,aRP,hG',e6,e4',aRQ,wZz k]
   have h7:=(h6.set 1 rfl (.rows 3 [(FV.rf (rn,ra,rb)).cells])).biZ 2
   refine aJ (k+1,(rn,ra,rb),_) ⟨hlt,buQ,h7,agE he⟩ (by simp only; omega) ?_ PH.le_refl
   exact Lq
 ·have buP:¬ (k:Int)<(l.length:Nat):=by omega
  have:k=l.length:=by omega
  subst this
  rw[bxC (by simp)] at hf
  rw[mQ,hf]
  have e2:=hH.at 0 rfl
  have e4:=hH.at 1 rfl
  obtain⟨n,a,b⟩:=acc
  simp only[go_sem,δ,γ,reduceCtorEq,buP,aGP,e4,e2]
  exact aU (.inr rfl) .nil (vs:=[.agg (FV.rf (n,a,b)).cells,.int .i64 0]) Sq PH.nil_le ⟨.refl _,rfl⟩
theorem dge {n:Nat} (k:Nat):decide ((n:Int)≥(k:Int))=decide (k≤n):=decide_eq_decide.2 Om
theorem dle {n:Nat} (k:Nat):decide ((n:Int)≤(k:Int))=decide (n≤k):=decide_eq_decide.2 Om
theorem aXC {C:Ctx} (n:Nat):wJ.wp C (aS CB.res (aC (.bool (eJ n)))) (PF.args [.int .u8 n]) .nil:=by
 have h1:=dge (n:=n) 97
 have h2:=dle (n:=n) 122
 have h3:=dge (n:=n) 65
 have h4:=dle (n:=n) 90
 simp only[Int.cast_ofNat_Int] at h1 h2 h3 h4
 unfold eJ
 generalize decide (97≤n)=a at *
 generalize decide (n≤122)=b at *
 generalize decide (65≤n)=c at *
 generalize decide (n≤90)=d at *
 cases a<;>cases b<;>cases c<;>cases d
 all_goals
  simp only[go_sem,γ,reduceCtorEq,wJ,aeO,aeP,CB,h1,h2,h3,h4]
  refine aI (.inr rfl) rfl ?_
  rfl
theorem a2H {C:Ctx} (n:Nat):AG.wp C (aS OH.res (aC (.bool (jX n)))) (PF.args [.int .u8 n]) .nil:=by
 have h1:=dge (n:=n) 48
 have h2:=dle (n:=n) 57
 simp only[Int.cast_ofNat_Int] at h1 h2
 unfold jX
 generalize decide (48≤n)=a at *
 generalize decide (n≤57)=b at *
 cases a<;>cases b
 all_goals
  simp only[go_sem,γ,reduceCtorEq,AG,apI,apJ,OH,h1,h2]
  refine aI (.inr rfl) rfl ?_
  rfl
theorem aWY {C:Ctx} (h1:∀ n:Nat,aE C 65 [.int .u8 n] .nil (aC (.bool (eJ n)))) (h2:∀ n:Nat,aE C 63 [.int .u8 n] .nil (aC (.bool (jX n)))) (n:Nat) :
  wH.wp C (aS BZ.res (aC (.bool (eX n)))) (PF.args [.int .u8 n]) .nil:=by
 have g1:((n:Int)==45)=decide (n=45):=by by_cases h:n=45<;>simp[h]; omega
 have g2:((n:Int)==46)=decide (n=46):=by by_cases h:n=46<;>simp[h]; omega
 have k1:=h1 n
 have k2:=h2 n
 unfold eX
 generalize decide (n=45)=a at *
 generalize decide (n=46)=b at *
 simp only[go_sem,reduceCtorEq,wH,aeD,aeE,BZ]
 refine aA k1 rfl ?_
 cases eJ n with
 | true =>
  simp only[go_sem,γ]
  refine aI (.inr rfl) rfl ?_
  rfl
 | false =>
  simp only[go_sem,γ,reduceCtorEq]
  refine aA k2 rfl ?_
  cases jX n<;>cases a<;>cases b
  all_goals
   simp only[go_sem,γ,reduceCtorEq,g1,g2]
   refine aI (.inr rfl) rfl ?_
   rfl
theorem aXA {C:Ctx} (h1:∀ n:Nat,aE C 65 [.int .u8 n] .nil (aC (.bool (eJ n)))) (h2:∀ n:Nat,aE C 64 [.int .u8 n] .nil (aC (.bool (eX n)))) (s:List UInt8) :
  wI.wp C (aS CA.res (aC (.bool (isName s)))) (PF.args [.str s]) .nil:=by
 simp only[go_sem,γ,reduceCtorEq,wI,aeG,aeH,CA]
 cases s with
 | nil =>
  have h0:decide (((0:Nat):Int)<1)=true:=rfl
  simp only[go_sem,γ,tZ,byV,h0]
  refine aI (.inr rfl) rfl ?_
  rfl
 | cons c t =>
  have hz:(c::t)[0]?=some c:=rfl
  have hN:isName (c::t)=(decide ((c::t).length≤16)&&eJ c.toNat&&(c::t).all fun c=>eX c.toNat):=rfl
  have hpos:¬ (((c::t).length:Nat):Int)<1:=by simp only[byQ]; omega
  generalize c::t=s at *
  by_cases hl:s.length≤16
  ·have hl':¬ ((s.length:Nat):Int)>16:=by omega
   rw[decide_eq_true hl,bwY] at hN
   have k1:=h1 c.toNat
   simp only[go_sem,ν,γ,reduceCtorEq,hpos,hl',hz,bxS]
   refine aA k1 rfl ?_
   cases hc:eJ c.toNat with
   | false =>
    simp only[go_sem,γ,reduceCtorEq,bxB,tZ]
    refine aI (.inr rfl) rfl ?_
    rw[aT,hN,hc,bwT]
   | true =>
    rw[hc,bwY] at hN
    simp only[go_sem,γ,reduceCtorEq,bwU,aeI]
    refine wp_loop (α:=Nat) (fun k=>((PF.nil.set 0 (.str s)).set 3 (.int .i64 k))) (fun _=>.nil) (fun k=>k≤s.length∧(s.take k).all (fun c=>eX c.toNat)=true) (fun k=>s.length-k) 0 ⟨bwZ _,rfl⟩ Lq PH.nil_le ?_
    rintro k ⟨hk,ha⟩
    simp only[go_sem,γ,reduceCtorEq,aeF,aeJ]
    by_cases hlt:k<s.length
    ·have buP:(k:Int)<(s.length:Nat):=by omega
     have hat:s[k]?=some s[k]:=bxA hlt
     have k2:=h2 (s[k]).toNat
     simp only[go_sem,γ,reduceCtorEq,buP,aeK,hat,bxS]
     refine aA k2 rfl ?_
     cases hi:eX (s[k]).toNat with
     | false =>
      simp only[go_sem,γ,reduceCtorEq,bxB,aeL]
      refine aI (.inr rfl) rfl ?_
      rw[aT,hN,mH hlt hi]
     | true =>
      simp only[go_sem,γ,reduceCtorEq,bwU,aeM,wZz k]
      exact aJ (k+1) ⟨hlt,by simpa using mG hlt ha hi⟩ Om Lq PH.le_refl
    ·have buP:¬ (k:Int)<(s.length:Nat):=by omega
     have:k=s.length:=by omega
     subst this
     rw[bxM] at ha
     simp only[go_sem,buP,aeN]
     refine aI (.inr rfl) rfl ?_
     rw[aT,hN,ha]
  ·have hl':((s.length:Nat):Int)>16:=by omega
   rw[decide_eq_false hl,bwT,bwT] at hN
   simp only[go_sem,γ,reduceCtorEq,hpos,hl',tZ]
   refine aI (.inr rfl) rfl ?_
   rw[aT,hN]
def CK (k m:Int):Bool:=within k 1 6&&(within m 0 4&&decide (k+m≤8))
theorem a6N {C:Ctx} (k m:Int):lD.wp C (aS tT.res (aC (.bool (CK k m)))) (PF.args [.int .i64 k,.int .i64 m]) .nil:=by
 unfold CK within
 by_cases h1:1≤k
 ·by_cases h2:k≤6
  ·by_cases h3:0≤m
   ·by_cases h4:m≤4
    ·have hw:IntKind.i64.wrap (k+m)=k+m:=wrap_i64 Om Om
     simp only[go_sem,γ,reduceCtorEq,lD,rH,rI,tT,ge_iff_le,h1,h2,h3,h4,hw]
     refine aI (.inr rfl) rfl ?_
     simp[aT,h1,h2,h3,h4]
    ·simp only[go_sem,γ,reduceCtorEq,lD,rH,rI,tT,ge_iff_le,h1,h2,h3,h4]
     refine aI (.inr rfl) rfl ?_
     simp[aT,h1,h2,h3,h4]
   ·simp only[go_sem,γ,reduceCtorEq,lD,rH,rI,tT,ge_iff_le,h1,h2,h3]
    refine aI (.inr rfl) rfl ?_
    simp[aT,h1,h2,h3]
  ·simp only[go_sem,γ,reduceCtorEq,lD,rH,rI,tT,ge_iff_le,h1,h2]
   refine aI (.inr rfl) rfl ?_
   simp[aT,h1,h2]
 ·simp only[go_sem,γ,reduceCtorEq,lD,rH,rI,tT,ge_iff_le,h1]
  refine aI (.inr rfl) rfl ?_
  simp[aT,h1]
theorem aXH {C:Ctx} (n lo hi:Int):qQ.wp C (aS uT.res (aC (.bool (within n lo hi)))) (PF.args [.int .i64 n,.int .i64 lo,.int .i64 hi]) .nil:=by
 unfold within
 by_cases h:lo≤n
 ·simp only[go_sem,γ,reduceCtorEq,qQ,II,IJ,uT,ge_iff_le,h]
  refine aI (.inr rfl) rfl ?_
  simp[aT,h]
 ·simp only[go_sem,γ,reduceCtorEq,qQ,II,IJ,uT,ge_iff_le,h]
  refine aI (.inr rfl) rfl ?_
  simp[aT,h]
def mO (a b c d e f:Nat):Bool:=decide (a≤4)&&(decide (b≤4)&&(decide (c≤40)&&(decide (d≤24)&&(decide (e≤4)&&decide (f≤12)))))
theorem a2P {C:Ctx} (a b c d e f:Nat):AL.wp C (aS OP.res (aC (.bool (mO a b c d e f)))) (PF.args [.int .i64 a,.int .i64 b,.int .i64 c,.int .i64 d,.int .i64 e,.int .i64 f]) .nil:=by
 have g:∀ x k:Nat,decide ((x:Int)≤(k:Int))=decide (x≤k):=fun x k=>decide_eq_decide.2 Om
 have h1:=g a 4
 have h2:=g b 4
 have h3:=g c 40
 have h4:=g d 24
 have h5:=g e 4
 have h6:=g f 12
 simp only[Int.cast_ofNat_Int] at h1 h2 h3 h4 h5 h6
 unfold mO
 simp only[go_sem,γ,reduceCtorEq,AL,apW,apX,OP,h1]
 cases decide (a≤4) with
 | false =>
  simp only[go_sem,γ,reduceCtorEq]
  refine aI (.inr rfl) rfl ?_
  rfl
 | true =>
  simp only[go_sem,γ,h2]
  cases decide (b≤4) with
  | false =>
   simp only[go_sem,γ,reduceCtorEq]
   refine aI (.inr rfl) rfl ?_
   rfl
  | true =>
   simp only[go_sem,γ,h3]
   cases decide (c≤40) with
   | false =>
    simp only[go_sem,γ,reduceCtorEq]
    refine aI (.inr rfl) rfl ?_
    rfl
   | true =>
    simp only[go_sem,γ,h4]
    cases decide (d≤24) with
    | false =>
     simp only[go_sem,γ,reduceCtorEq]
     refine aI (.inr rfl) rfl ?_
     rfl
    | true =>
     simp only[go_sem,γ,h5]
     cases decide (e≤4) with
     | false =>
      simp only[go_sem,γ,reduceCtorEq]
      refine aI (.inr rfl) rfl ?_
      rfl
     | true =>
      simp only[go_sem,γ,h6]
      refine aI (.inr rfl) rfl ?_
      rfl
structure WQ (C:Ctx):Prop extends aSO C where
 sum:∀ l:List RF,(∀ x∈l,x.Ok)→l.length≤9223372036854775807→aE C 55 [frs l] .nil (aC (frV (mQ (l.map RF.v))))
 inn:∀ n lo hi:Int,aE C 76 [.int .i64 n,.int .i64 lo,.int .i64 hi] .nil (aC (.bool (within n lo hi)))
 code:∀ k m:Int,aE C 61 [.int .i64 k,.int .i64 m] .nil (aC (.bool (CK k m)))
def FJ (k m q s0 s1 s2 s3 s4:Int):Bool:=CK k m&&(within q k (k+m)&&(decide (s0=0)&&(within s1 0 8&&(within s2 0 8&&(within s3 0 8&&within s4 0 8)))))
theorem bcE (p:cV):FI p=FJ p.k p.m p.bvN p.s0 p.s1 p.s2 p.s3 p.s4:=by
 unfold FI FJ CK
 have:within p.s0 0 8=true∨p.s0≠0:=by
  by_cases h:p.s0=0
  ·rw[h]; exact .inl rfl
  ·exact .inr h
 simp only[List.all_cons,List.all_nil,byL]
 rcases this with h | h
 ·rw[h]
  simp only[bwY,bzI]
 ·simp only[h,decide_false,bwT,bxT]
def spR (s1 s2 s3 s4:Int) (k:Nat):Int:=match k with
 | 1=>s1
 | 2=>s2
 | 3=>s3
 | _=>s4
theorem aIJ {C:Ctx} (L:WQ C) (k m q s0 s1 s2 s3 s4:Int) :
  tB.wp C (aS wN.res (aC (.bool (FJ k m q s0 s1 s2 s3 s4)))) (PF.args [.int .i64 k,.int .i64 m,.int .i64 q,.agg [.int .i64 s0,.int .i64 s1,.int .i64 s2,.int .i64 s3,.int .i64 s4]]) .nil:=by
 obtain⟨X,hX⟩:∃ X,FJ k m q s0 s1 s2 s3 s4=X:=⟨_,rfl⟩
 rw[hX]
 unfold FJ at hX
 simp only[go_sem,γ,reduceCtorEq,tB,SX,SY,wN]
 refine aA (L.code k m) rfl ?_
 cases h1:CK k m with
 | false =>
  rw[h1,bwT] at hX
  simp only[go_sem,γ,bxB,rY]
  refine aI (.inr rfl) rfl ?_
  rw[aT,hX]
 | true =>
  rw[h1,bwY] at hX
  have hb:1≤k∧k≤6∧0≤m∧m≤4:=by
   simp only[CK,bxJ,within_iff] at h1
   omega
  have hw:IntKind.i64.wrap (k+m)=k+m:=wrap_i64 Om Om
  simp only[go_sem,γ,reduceCtorEq,bwU,hw]
  refine aA (L.inn q k (k+m)) rfl ?_
  cases h2:within q k (k+m) with
  | false =>
   rw[h2,bwT] at hX
   simp only[go_sem,γ,reduceCtorEq,bxB,rY]
   refine aI (.inr rfl) rfl ?_
   rw[aT,hX]
  | true =>
   rw[h2,bwY] at hX
   have l50:(0:Int)<((5:Nat):Int):=by decide
   by_cases h3:s0=0
   ·rw[decide_eq_true h3,bwY] at hX
    simp only[go_sem,ν,δ,γ,θ,ζ,reduceCtorEq,bwU,l50,cO h3,SZ]
    refine wp_loop (α:=Nat) (fun j=>((PF.nil.set 7 (.buR [.int .i64 s0,.int .i64 s1,.int .i64 s2,.int .i64 s3,.int .i64 s4])).set 9 (.int .i64 j))) (fun _=>.nil) (fun j=>1≤j∧j≤5∧∀ i,1≤i→i<j→within (spR s1 s2 s3 s4 i) 0 8=true) (fun j=>5-j) 1 ⟨by decide,by decide,fun i h1 h2=>by omega⟩ Lq PH.nil_le ?_
    rintro j ⟨hj1,hj5,bwA⟩
    simp only[go_sem,γ,SW,TA]
    by_cases hlt:j<5
    ·have buP:(j:Int)<5:=by omega
     have hlt5:((j:Nat):Int)<((5:Nat):Int):=by omega
     have hin:=L.inn (spR s1 s2 s3 s4 j) 0 8
     obtain⟨c,hc2⟩:∃ c,within (spR s1 s2 s3 s4 j) 0 8=c:=⟨_,rfl⟩
     rw[hc2] at hin
     have buQ:c=true→∀ i,1≤i→i<j+1→within (spR s1 s2 s3 s4 i) 0 8=true:=fun hc i a b=>by
      by_cases e:i=j
      ·rw[e,hc2,hc]
      ·exact bwA i a Om
     have bad:c=false→X=false:=by
      intro h
      rw[h] at hc2
      have hc:j=1∨j=2∨j=3∨j=4:=by omega
      rw[← hX]
      rcases hc with rfl | rfl | rfl | rfl<;>(simp only[spR] at hc2; rw[hc2]; simp)
     have hc:j=1∨j=2∨j=3∨j=4:=by omega
     cases c with
     | false =>
      have hXf:=bad rfl
      rcases hc with rfl | rfl | rfl | rfl
      all_goals
       simp only[spR] at hin
       simp only[go_sem,δ,γ,θ,ζ,ε,buP,AK,hlt5]
       refine aA hin rfl ?_
       simp only[go_sem,γ,bxB,TB]
       refine aI (.inr rfl) rfl ?_
       rw[aT,hXf]
     | true =>
      have hs:=buQ rfl
      rcases hc with rfl | rfl | rfl | rfl
      all_goals
       simp only[spR] at hin
       simp only[go_sem,δ,γ,θ,ζ,ε,buP,AK,hlt5]
       refine aA hin rfl ?_
       simp only[go_sem,γ,bwU,TC]
       refine aJ (_+1) ⟨by omega,hlt,hs⟩ Om Lq PH.le_refl
    ·have buP:¬ (j:Int)<5:=by omega
     have:j=5:=by omega
     subst this
     simp only[go_sem,ε,buP,TD]
     refine aI (.inr rfl) rfl ?_
     have a1:=bwA 1 (by decide) (by decide)
     have a2:=bwA 2 (by decide) (by decide)
     have a3:=bwA 3 (by decide) (by decide)
     have a4:=bwA 4 (by decide) (by decide)
     simp only[spR] at a1 a2 a3 a4
     rw[aT,← hX,a1,a2,a3,a4]
     rfl
   ·rw[decide_eq_false h3,bwT] at hX
    simp only[go_sem,ν,δ,γ,θ,ζ,reduceCtorEq,bwU,l50,dA h3,rY]
    refine aI (.inr rfl) rfl ?_
    rw[aT,hX]
theorem mZ {x:RF} (h:cC x=true):x.valid:=by
 unfold cC lN at h
 unfold RF.valid
 cases hv:cH (val x.num) (val x.den) with
 | true=>rfl
 | false =>
  rw[hv] at h
  simp at h
theorem a2R {C:Ctx} (L:WQ C) (x:RF) (hx:x.Ok):AM.wp C (aS OQ.res (aC (.bool (cC x)))) (PF.args [.agg x.cells]) .nil:=by
 have hr:=L.red x hx
 unfold cC
 simp only[go_sem,δ,γ,AM,apY,apZ,OQ]
 refine aA hr rfl ?_
 cases he:lN x with
 | error e =>
  have h0:=aCG he
  simp only[go_sem,δ,γ,frV]
  refine aP fun o ho=>?_
  simp only[go_sem,δ,γ,reduceCtorEq,xY,bD h0]
  refine aI (.inr rfl) rfl ?_
  rfl
 | ok r =>
  obtain⟨n,a,b⟩:=r
  have ea:=jT a 1
  have eb:=jT b 1
  have da:decide (((nl a:Nat):Int)≤1)=decide (bZ a≤32):=decide_eq_decide.2 Om
  have db:decide (((nl b:Nat):Int)≤1)=decide (bZ b≤32):=decide_eq_decide.2 Om
  simp only[go_sem,δ,γ,frV]
  refine aP fun o ho=>?_
  cases n with
  | true =>
   simp only[go_sem,ρ,δ,γ,θ,reduceCtorEq,xY,bwU]
   refine aI (.inr rfl) rfl ?_
   rfl
  | false =>
   simp only[go_sem,ρ,δ,γ,θ,xY,bxB,bwN,aV,da]
   cases decide (bZ a≤32) with
   | false =>
    simp only[go_sem,γ,reduceCtorEq]
    refine aI (.inr rfl) rfl ?_
    rfl
   | true =>
    simp only[go_sem,δ,γ,bwN,aV,db]
    refine aI (.inr rfl) rfl ?_
    rfl
structure afZ (C:Ctx):Prop extends WQ C where
 small:∀ x:RF,x.Ok→aE C 74 [.agg x.cells] .nil (aC (.bool (cC x)))
 nums:∀ k m q s0 s1 s2 s3 s4:Int,aE C 72 [.int .i64 k,.int .i64 m,.int .i64 q,.agg [.int .i64 s0,.int .i64 s1,.int .i64 s2,.int .i64 s3,.int .i64 s4]] .nil (aC (.bool (FJ k m q s0 s1 s2 s3 s4)))
 sizes:∀ a b c d e f:Nat,aE C 73 [.int .i64 a,.int .i64 b,.int .i64 c,.int .i64 d,.int .i64 e,.int .i64 f] .nil (aC (.bool (mO a b c d e f)))
theorem ZG {l:List RF} {k:Nat} (h:k<l.length):(l.map RF.cells)[k]?=some (l[k]).cells:=by simp[h]
theorem aXF {C:Ctx} (L:afZ C) (l:List RF) (hl:iR l) (n:Int):wO.wp C (aS CC.res (aC (.bool (decide ((l.length:Int)=n)&&l.all cC)))) (PF.args [frs l,.int .i64 n]) .nil:=by
 have hf:=hl.fits
 unfold Fits at hf
 simp only[go_sem,γ,reduceCtorEq,wO,aeU,aeV,CC,bwN]
 by_cases h:((l.length:Nat):Int)=n
 ·rw[decide_eq_true h,bwY]
  subst h
  simp only[go_sem,cO (show ((l.length:Nat):Int)=(l.length:Nat) from rfl),aeX]
  refine wp_loop (α:=Nat) (fun k=>(((PF.nil.set 0 (frs l)).set 1 (.int .i64 (l.length:Nat))).set 5 (.int .i64 k))) (fun _=>.nil) (fun k=>k≤l.length∧(l.take k).all cC=true) (fun k=>l.length-k) 0 ⟨bwZ _,rfl⟩ Lq PH.nil_le ?_
  rintro k ⟨hk,ha⟩
  simp only[go_sem,γ,reduceCtorEq,aeT,aeY]
  by_cases hlt:k<l.length
  ·have buP:(k:Int)<(l.length:Nat):=by omega
   have hs:=L.small l[k] (hl.all _ (bwS hlt))
   simp only[go_sem,δ,γ,reduceCtorEq,buP,aeZ,ZG hlt]
   refine aA hs rfl ?_
   cases hi:cC l[k] with
   | false =>
    simp only[go_sem,γ,reduceCtorEq,bxB,afA]
    refine aI (.inr rfl) rfl ?_
    rw[aT,mH hlt hi]
   | true =>
    have ha2:=bxL.1 (mG hlt ha hi)
    simp only[go_sem,γ,reduceCtorEq,bwU,afB,wZz k]
    exact aJ (k+1) ⟨hlt,ha2⟩ Om Lq PH.le_refl
  ·have buP:¬ (k:Int)<(l.length:Nat):=by omega
   have:k=l.length:=by omega
   subst this
   rw[bxM] at ha
   simp only[go_sem,buP,afC]
   refine aI (.inr rfl) rfl ?_
   rw[aT,ha]
 ·rw[decide_eq_false h,bwT]
  simp only[go_sem,dA h,aeW]
  refine aI (.inr rfl) rfl ?_
  rfl
structure agA (C:Ctx):Prop extends afZ C where
 smalls:∀ l:List RF,iR l→∀ n:Int,aE C 75 [frs l,.int .i64 n] .nil (aC (.bool (decide ((l.length:Int)=n)&&l.all cC)))
theorem GD (x:RF):(oG x==0)=!bW x:=by
 unfold oG bW
 by_cases h:val x.num=0
 ·simp[h]
 ·cases x.neg<;>simp[h]
def VN (l:List RF) (m:Int):Bool:=decide ((l.length:Int)=max m 1)&&l.all cC&&l.all bW
theorem beF {C:Ctx} (L:agA C) (l:List RF) (hl:iR l) (m:Int):OO.wp C (aS aHH.res (aC (.bool (VN l m)))) (PF.args [frs l,.int .i64 m]) .nil:=by
 have hf:=hl.fits
 unfold Fits at hf
 have hs:=L.smalls l hl (max m 1)
 unfold VN
 simp only[go_sem,γ,reduceCtorEq,OO,aSC,aSD,aHH,max_eq]
 refine aA hs rfl ?_
 cases h:(decide ((l.length:Int)=max m 1)&&l.all cC) with
 | false =>
  simp only[go_sem,γ,bxB,aSE]
  refine aI (.inr rfl) rfl ?_
  rfl
 | true =>
  rw[bxJ] at h
  have bwA:=bxL.1 h.2
  simp only[go_sem,γ,bwU,aSF]
  refine wp_loop (α:=Nat) (fun k=>((PF.nil.set 0 (frs l)).set 5 (.int .i64 k))) (fun _=>.nil) (fun k=>k≤l.length∧(l.take k).all bW=true) (fun k=>l.length-k) 0 ⟨bwZ _,rfl⟩ Lq PH.nil_le ?_
  rintro k ⟨hk,ha⟩
  simp only[go_sem,γ,reduceCtorEq,aSB,aSG,bwN]
  by_cases hlt:k<l.length
  ·have buP:(k:Int)<(l.length:Nat):=by omega
   have hm:=bwS hlt
   have hg:=L.sign l[k] (hl.all _ hm) (mZ (bwA _ hm))
   have hz:=GD l[k]
   simp only[go_sem,δ,γ,reduceCtorEq,buP,aSH,ZG hlt]
   refine aA hg rfl ?_
   cases hi:bW l[k] with
   | false =>
    rw[hi] at hz
    simp only[go_sem,γ,reduceCtorEq,hz,bxB,aSI]
    refine aI (.inr rfl) rfl ?_
    rw[aT,mH hlt hi]
   | true =>
    rw[hi] at hz
    have ha2:=bxL.1 (mG hlt ha hi)
    simp only[go_sem,γ,reduceCtorEq,hz,bwU,aSJ,wZz k]
    exact aJ (k+1) ⟨hlt,ha2⟩ Om Lq PH.le_refl
  ·have buP:¬ (k:Int)<(l.length:Nat):=by omega
   have:k=l.length:=by omega
   subst this
   rw[bxM] at ha
   simp only[go_sem,buP,aSK]
   refine aI (.inr rfl) rfl ?_
   rw[aT,ha]
structure agB (C:Ctx):Prop extends agA C where
 reps:∀ l:List RF,iR l→∀ m:Int,aE C 66 [frs l,.int .i64 m] .nil (aC (.bool (VN l m)))
def frD:List PV→RF
 | [.bool n,a,b]=>⟨n,gG a,gG b⟩
 | _=>⟨false,[],[]⟩
theorem akG (x:RF):frD x.cells=x:=by
 show (⟨x.neg,gG (aD x.num),gG (aD x.den)⟩:RF)=x
 rw[dP,dP]
def zdS (r s:Bool):Spec:=fun name vs=>match name,vs with
 | 66,_=>some ([],fun _=>aC (.bool r))
 | 74,[.agg cs]=>some ([],fun _=>aC (.bool (cC (frD cs))))
 | 47,_=>some ([],fun _=>aC (.agg (mkT 1 1).cells))
 | 49,_=>some ([],fun _=>aC (.bool s))
 | _,_=>none
theorem apM (r s:Bool) (x:RF):zdS r s 74 [.agg x.cells]=some ([],fun _=>aC (.bool (cC x))):=by
 show some ([],fun _=>aC (.bool (cC (frD x.cells))))=_
 rw[akG]
theorem a0F (x y:RF):mM y x=- mM x y:=by
 unfold mM oN
 have e:=aiX (val x.num*val y.den) (val y.num*val x.den)
 cases x.neg&&decide (val x.num≠0)<;>cases y.neg&&decide (val y.num≠0)<;>simp only[e,Int.neg_neg]<;>rfl
theorem a5V {x:RF} (hx:x.valid):decide (mM (mkT 1 1) x<0)=!rC x:=by
 rw[a0F x]
 unfold rC
 rw[show cH (val x.num) (val x.den)=true from hx,bwY,BG]
 unfold mM
 simp only[aQ,show (1:Int).natAbs=1 from rfl,show decide ((1:Int)<0)=false from rfl]
 by_cases h:oN x.neg (val x.num) (val x.den) false 1 1≤0
 ·rw[decide_eq_true h,decide_eq_false Om]; rfl
 ·rw[decide_eq_false h,decide_eq_true Om]; rfl
def JM (m:Int) (rep:List RF) (t h:RF):Bool:=VN rep m&&(cC t&&(rC t&&cC h))
theorem beB {C:Ctx} (L:agB C) (m:Int) (rep:List RF) (hr:iR rep) (t h:RF) (ht:t.Ok) (hh:h.Ok) :
  OJ.wp C (aS aGS.res (aC (.bool (JM m rep t h)))) (PF.args [.int .i64 m,frs rep,.agg t.cells,.agg h.cells]) .nil:=by
 have h1:cQ 1:=by unfold cQ; omega
 unfold JM
 simp only[go_sem,γ,OJ,aRR,aGS]
 refine bM .nil (zdS (VN rep m) (!rC t)) PH.nil_le ?_
 simp only[go_sem,γ,reduceCtorEq,aRS]
 refine bF rfl (L.reps rep hr m) rfl PH.nil_le ?_
 cases VN rep m with
 | false =>
  simp only[go_sem,γ,reduceCtorEq]
  refine aI (.inr rfl) rfl ?_
  rfl
 | true =>
  simp only[go_sem,δ,γ]
  refine bF (apM _ _ t) (L.small t ht) rfl PH.nil_le ?_
  cases hl:cC t with
  | false =>
   simp only[go_sem,γ,reduceCtorEq]
   refine aI (.inr rfl) rfl ?_
   rfl
  | true =>
   have hle:=L.less (mkT 1 1) t (BF 1 h1).1 ht (BF 1 h1).2 (mZ hl)
   rw[a5V (mZ hl)] at hle
   simp only[go_sem,γ]
   refine bF rfl (L.int 1 h1) rfl PH.nil_le ?_
   simp only[go_sem,δ,γ]
   refine bF rfl hle rfl PH.nil_le ?_
   cases rC t with
   | false =>
    simp only[go_sem,γ,reduceCtorEq,bxB,bwU]
    refine aI (.inr rfl) rfl ?_
    rfl
   | true =>
    simp only[go_sem,δ,γ,bwU,bxB]
    refine bF (apM _ _ h) (L.small h hh) rfl PH.nil_le ?_
    simp only[go_sem,γ]
    refine aI (.inr rfl) rfl ?_
    rfl
theorem beZ (p:cV):xK p=JM p.m p.repair p.target p.buV:=by
 unfold xK JM VN
 have:(p.repair.all fun x=>cC x&&bW x)=(p.repair.all cC&&p.repair.all bW):=by
  induction p.repair with
  | nil=>rfl
  | cons a t ih =>
   simp only[List.all_cons,ih]
   cases cC a<;>cases bW a<;>simp
 rw[this]
 simp only[bzI]
section
variable {H:PH} {B:List BX} {L:List LI}
theorem bA.aSS (h:bA H B L) (i:Nat) {s b:Nat} {v y:PV} {rows src:List (List PV)} {K:PV→PH→Prop} (hi:L[i]?=some (v,s,rows)) (hy:eK H s y=some src) (hr:roomFor rows.length src.length b)
  (hk:∀ v' H',bR H' s v rows→bA H' B (L.set i (v',s,rows++src))→K v' H'):mR H s b v y K:=by
 rcases h.own i hi with ⟨rfl,rfl⟩ | ⟨q,rs,rfl,h1,h2,h3⟩
 ·exact h.append i hi hy hr fun v' H' h' _=>hk v' H' (.inl ⟨rfl,rfl⟩) h'
 ·have hlen:(rows++src).length=rows.length+src.length:=bwW
  refine⟨src,hy,rfl,rfl,hr,rs,h1,h2,?_,fun o ho=>?_⟩
  ·rw[h3]
   refine hk _ _ (.inr ⟨q,rows++src,rfl,by rw[fJ],by rw[hlen]; omega,List.take_left' rfl⟩) (h.xQ i hi (.inr ⟨q,rows++src,by rw[hlen],by simp only[bL,if_true],bwR _,bxM⟩) (fun p hp=>by cases hp; exact .inl rfl) fun p _ hp=>?_)
   rw[bL,if_neg (hp q rfl)]
  ·rw[h3]
   have hqo:q≠o:=by rintro rfl; rw[h1] at ho; cases ho
   refine hk _ _ (.inr ⟨q,rs,rfl,by rw[bL,if_neg hqo]; exact h1,h2,h3⟩) (h.xQ i hi (.inr ⟨o,rows++src,by rw[hlen],by simp only[bL,if_true],bwR _,bxM⟩) (fun p hp=>by cases hp; exact .inr ho) fun p hpm hp=>?_)
   obtain⟨f1,f2⟩:=h.fresh ho
   have n1:p≠o:=by rintro rfl; exact hpm.elim f1 f2
   rw[bL,if_neg n1]
end
abbrev jZ (l:List (List UInt8)):List (List PV):=l.map fun s=>[PV.str s]
def vL:List (List UInt8)→List UInt8→Nat→Int
 | [],_,_=>-1
 | x::t,s,i=>if x==s then (i:Int) else vL t s (i+1)
theorem axD (s:List UInt8):∀ (l:List (List UInt8)) (i:Nat),decide (vL l s i<0)=!l.contains s
 | [],i=>rfl
 | x::t,i=>by
  rw[vL,List.contains_cons,BEq.comm (a:=s)]
  by_cases h:(x==s)=true
  ·rw[if_pos h,h,Bool.true_or,decide_eq_false Om]; rfl
  ·rw[if_neg h,axD s t (i+1)]
   simp only[Bool.not_eq_true] at h
   rw[h,Bool.false_or]
theorem a2M {C:Ctx} (l:List (List UInt8)) (hl:l.length≤1000000) (s:List UInt8):AJ.wp C (aS OL.res (aC (.int .i64 (vL l s 0)))) (PF.args [.sl 1 (jZ l),.str s]) .nil:=by
 simp only[go_sem,AJ,apQ,apR,OL]
 refine wp_loop (α:=Nat) (fun k=>(((PF.nil.set 0 (.sl 1 (jZ l))).set 1 (.str s)).set 5 (.int .i64 k))) (fun _=>.nil) (fun k=>k≤l.length∧vL l s 0=vL (l.drop k) s k) (fun k=>l.length-k) 0 ⟨bwZ _,rfl⟩ Lq PH.nil_le ?_
 rintro k ⟨hk,ha⟩
 simp only[go_sem,γ,reduceCtorEq,apP,apS,bwN]
 by_cases hlt:k<l.length
 ·have buP:(k:Int)<(l.length:Nat):=by omega
  have hat:(jZ l)[k]?=some [.str l[k]]:=by simp[hlt]
  rw[byG hlt,vL] at ha
  cases hc:l[k]==s with
  | true =>
   rw[hc,if_pos rfl] at ha
   simp only[go_sem,γ,reduceCtorEq,buP,OM,hat,hc,apT]
   refine aI (.inr rfl) rfl ?_
   rw[aT,ha]
  | false =>
   rw[hc,if_neg (by decide)] at ha
   simp only[go_sem,γ,reduceCtorEq,buP,OM,hat,hc,apU,wZz k]
   exact aJ (k+1) ⟨hlt,ha⟩ Om Lq PH.le_refl
 ·have buP:¬ (k:Int)<(l.length:Nat):=by omega
  have:k=l.length:=by omega
  subst this
  rw[List.drop_length,vL] at ha
  simp only[go_sem,ο,buP,apV]
  refine aI (.inr rfl) rfl ?_
  rw[aT,ha]
structure agC (C:Ctx):Prop extends agB C where
 name:∀ s:List UInt8,aE C 62 [.str s] .nil (aC (.bool (isName s)))
 index:∀ (l:List (List UInt8)),l.length≤1000000→∀ s:List UInt8,aE C 71 [.sl 1 (jZ l),.str s] .nil (aC (.int .i64 (vL l s 0)))
def gI (l:List (List UInt8)) (s:List UInt8):Bool:=isName s&&!l.contains s
def WO (l:List (List UInt8)) (s:List UInt8) (r:PV) (B:List BX) (L:List LI):Prop:=∃ w',r=.tup [w',.bool (gI l s)]∧B=[]∧L=[(w',1,jZ (l++[s]))]
theorem a2K {C:Ctx} (L:agC C) (l:List (List UInt8)) (hl:l.length≤1000000) (s:List UInt8) (w:PV) (H:PH) (hH:bA H [] [(w,1,jZ l)]) :
  AI.wp C (aS OK.res (fun r H'=>∃ B' L',WO l s r B' L'∧bA H' B' L')) (PF.args [w,.str s]) H:=by
 have hix:=L.index l hl s
 have hnm:=L.name s
 have hneg:=axD s l 0
 have h11:(1:Nat)*1≤16777216:=by decide
 have fin:∀ (F:PF) (H':PH) (w':PV) (b:Bool),F 4=some w'→F 5=some (.bool b)→b=gI l s→bA H' [] [(w',1,jZ (l++[s]))]→aS [.tmp 4,.tmp 5] (fun r H'=>∃ B' L',WO l s r B' L'∧bA H' B' L') .ret F H':=fun F H' w' b f4 f5 e h' =>
  aU (vs:=[w',.bool b]) (.inr rfl) H' (by simp only[go_sem,f4,f5]) PH.le_refl ⟨[],_,⟨w',by rw[e]; rfl,rfl,rfl⟩,h'⟩
 simp only[go_sem,υ,γ,η,ζ,reduceCtorEq,AI,apN,apO,OK,h11]
 refine hH.aSS 0 (src:=[[.str s]]) rfl rfl (by unfold roomFor; rw[bwN]; simp only[bxD,maxLen]; omega) fun w' H' hO h'=>?_
 have h'':bA H' [] [(w',1,jZ (l++[s]))]:=by
  have e:jZ (l++[s])=jZ l++[[.str s]]:=by simp[jZ]
  rw[e]; exact h'
 refine aA hnm rfl ?_
 cases hn:isName s with
 | false =>
  simp only[go_sem,γ,reduceCtorEq]
  exact fin _ _ w' false rfl rfl (by unfold gI; rw[hn,bwT]) h''
 | true =>
  have hfb:gI l s=!l.contains s:=by unfold gI; rw[hn,bwY]
  rcases hO with ⟨z1,rfl⟩ | ⟨q,rs,rfl,q1,q2,q3⟩
  ·simp only[go_sem,γ,reduceCtorEq]
   rw[z1] at hix
   have hix2:aE C 71 [.buJ,.str s] .nil (aC (.int .i64 (vL l s 0))):=hix.args (.cons (.nil 1) (.cons (.refl _) .nil))
   refine aA hix2 rfl ?_
   simp only[go_sem,γ,hneg]
   exact fin _ _ w' _ rfl rfl hfb.symm h''
  ·simp only[go_sem,γ,reduceCtorEq]
   refine SU (vs:=[.osl q 1 0 (jZ l).length,.str s]) (.int .i64 (vL l s 0)) ?_ q1 Sq ?_
   ·rw[bzB,bzB,List.map_nil,qU q2,q3]
    exact hix
   simp only[go_sem,γ,hneg]
   exact fin _ _ w' _ rfl rfl hfb.symm h''
theorem a0Y {x:RF} (h:cC x=true):decide (oG x>0)=bW x:=by
 have hv:=mZ h
 unfold cC lN at h
 rw[show cH (val x.num) (val x.den)=true from hv,if_pos rfl,UP hv] at h
 unfold oG bW
 by_cases h0:val x.num=0
 ·simp[h0]
 ·have hq:val x.num/bwQ (val x.num) (val x.den)≠0:=by
   have:=Nat.div_pos (Nat.gcd_le_left (val x.den) (byN h0)) (Nat.gcd_pos_of_pos_left _ (byN h0))
   omega
  have hn:x.neg=false:=by
   unfold kD at h
   simp only[hq,ne_eq,not_false_eq_true,decide_true,byL,bxJ] at h
   simpa using h.1
  rw[if_neg h0,hn]
  simp[h0]
structure arF (l:cD):Prop where
 exit:∀ x∈l.exit,cC x=true
 row:∀ r∈l.buN,∀ x∈r,cC x=true
structure mS (C:Ctx):Prop extends agC C where
 fresh:∀ (l:List (List UInt8)),l.length≤1000000→∀ (s:List UInt8) (w:PV) (H:PH),bA H [] [(w,1,jZ l)]→aE C 70 [w,.str s] H (fun r H'=>∃ B' L',WO l s r B' L'∧bA H' B' L')
theorem mS.pos {C:Ctx} (L:mS C) {x:RF} (hx:x.Ok) (h:cC x=true):∃ n:Int,aE C 54 [.agg x.cells] .nil (aC (.int .i64 n))∧decide (n>0)=bW x:=⟨_,L.sign x hx (mZ h),a0Y h⟩
def zlF (l:cD) (o r i:Nat):PF:=(((((PF.nil.set 1 (.buR l.cells)).set 3 (.int .i64 (l.exit.length:Nat))).set 7 (.osl o 1 0 l.exit.length)).set 8 (.int .i64 r)).set 9 (.int .i64 i))
theorem a8D {C:Ctx} (L:mS C) (l:cD) (o r i:Nat) (row:List RF) (hri:(l.buN.map fun r=>[frs r])[i]?=some [frs row]) (buW:iR row) (hlim:∀ x∈row,cC x=true) (hrl:row.length=l.exit.length) (hi:i<l.exit.length) (hn:l.exit.length≤4) (R1:List Bool) (hR:R1.length=l.exit.length) (K:cI) [Up K] (F:PF) (H:PH)
  (hF:((zlF l o r i).set 10 (.int .i64 0)).le F) (hH:(fP o R1).le H)
  (hK:K (.exit 6) (zlF l o r i) (fP o (cJ R1 i row row.length))):aB.wp C (.loop HO) K F H:=by
 refine wp_loop (α:=Nat) (fun k=>(zlF l o r i).set 10 (.int .i64 k)) (fun k=>fP o (cJ R1 i row k)) (fun k=>k≤row.length) (fun k=>row.length-k) 0 (bwZ _) hF hH ?_
 intro k hk
 have hlen:=qG R1 i row k
 have hstep':∀ h:k<row.length,cJ R1 i row (k+1)=(cJ R1 i row k).set i ((cJ R1 i row k).getD i false||bW row[k]&&(cJ R1 i row k).getD k false):=fun h=>by
  simp only[cJ,bxI,bxW,bxA h,bxS,bzG]
 have fin:∀ (b:Bool) (F:PF) (H:PH),k<row.length→fE (cJ R1 i row (k+1))=(fE (cJ R1 i row k)).set i [.bool b]→((zlF l o r i).set 10 (.int .i64 (k+1:Nat))).le F→H o=some (.rows 1 ((fE (cJ R1 i row k)).set i [.bool b])) →
   eA (fun k:Nat=>(zlF l o r i).set 10 (.int .i64 k)) (fun k=>fP o (cJ R1 i row k)) (fun k=>k≤row.length) (fun k=>row.length-k) (row.length-k) K .normal F H:=by
  intro b F H hlt hb hF hH
  refine aJ (k+1) hlt Om hF ?_
  rw[← hb] at hH
  exact PH.aH PH.nil_le hH
 unfold zlF fP at fin
 simp only[go_sem,γ,HO,aHB,zlF,fP]
 by_cases hlt:k<row.length
 ·have buP:(k:Int)<(l.exit.length:Nat):=by omega
  have hi':(i:Int)<(l.exit.length:Nat):=by omega
  have hat:=oJ (R:=cJ R1 i row k) (i:=i) Om
  have hatk:=oJ (R:=cJ R1 i row k) (i:=k) Om
  have buQ:=hstep' hlt
  obtain⟨n,hsn,hpos⟩:=L.pos (buW.all _ (bwS hlt)) (hlim _ (bwS hlt))
  have hfr:=ZG hlt
  generalize hb:(cJ R1 i row k).getD i false=b at *
  generalize hc:(cJ R1 i row k).getD k false=c at *
  generalize hA:bW row[k]=A at *
  cases b with
  | true =>
   simp only[go_sem,γ,buP,WI,hi',bxO,hat,HP,wZz k]
   exact fin true _ _ hlt (by rw[buQ,jW,Bool.true_or]) Lq Sq
  | false =>
   simp only[go_sem,δ,γ,θ,buP,WI,hi',bxO,hat,hri,hfr]
   refine aA hsn rfl ?_
   cases A with
   | false =>
    simp only[go_sem,γ,reduceCtorEq,hpos,hi',buP,bxO,hat,hatk,HP,wZz k]
    exact fin false _ _ hlt (by rw[buQ,jW,Bool.false_or,bwT]) Lq Sq
   | true =>
    simp only[go_sem,γ,reduceCtorEq,hpos,hi',buP,bxO,hat,hatk,HP,wZz k]
    exact fin c _ _ hlt (by rw[buQ,jW,Bool.false_or,bwY]) Lq Sq
 ·have buP:¬ (k:Int)<(l.exit.length:Nat):=by omega
  have:k=row.length:=by omega
  subst this
  simp only[go_sem,buP]
  refine Up.up ?_ hK
  (repeat' (first|exact PF.nil_le|refine PF.aH ?_ ?_))<;>first|(simp only[go_sem,γ,zlF]<;>rfl)|rfl
theorem a8F {C:Ctx} (L:mS C) (l:cD) (hl:l.Ok) (he:wP l) (hm:arF l) (o r:Nat) (R:List Bool) (hR:R.length=l.exit.length) (K:cI) [Up K] (F:PF) (H:PH)
  (hF:(zlF l o r 0).le F) (hH:(fP o R).le H)
  (hK:K (.exit 4) (zlF l o r l.exit.length) (fP o (cT l R l.exit.length))):aB.wp C (.loop WB) K F H:=by
 refine wp_loop (α:=Nat) (fun i=>zlF l o r i) (fun i=>fP o (cT l R i)) (fun i=>i≤l.exit.length) (fun i=>l.exit.length-i) 0 (bwZ _) hF hH ?_
 intro i hi
 have hlen:=nF l R i
 have hn:=he.n
 simp only[go_sem,γ,WB,aHA,zlF,fP]
 by_cases hlt:i<l.exit.length
 ·have buP:(i:Int)<(l.exit.length:Nat):=by omega
  have hir:i<l.buN.length:=by rw[he.buN]; exact hlt
  have hat:=oJ (R:=cT l R i) (i:=i) Om
  have hx:=ZG hlt
  have buW:(l.buN.map fun r=>[frs r])[i]?=some [frs l.buN[i]]:=by simp[hir]
  have hrl:(l.buN[i]).length=l.exit.length:=he.row _ (bwS hir)
  generalize hR1:(cT l R i).set i ((cT l R i).getD i false||bW l.exit[i])=R1
  have hR1l:R1.length=l.exit.length:=by rw[← hR1,byR]; omega
  have buQ:cT l R (i+1)=cJ R1 i l.buN[i] (l.buN[i]).length:=by
   simp only[cT,vW]
   have e1:(l.exit.map bW).getD i false=bW l.exit[i]:=by simp[bxI,hlt]
   have e2:l.buN.getD i []=l.buN[i]:=by simp[bxI,hir]
   rw[e1,e2,hR1]
  obtain⟨n,hsn,hpos⟩:=L.pos (hl.exit.all _ (bwS hlt)) (hm.exit _ (bwS hlt))
  have rest:∀ (F:PF) (H:PH),(zlF l o r i).le F→H o=some (.rows 1 (fE R1)) →
    aB.wp C (.seq (.region WH) (.block 6 (.loop HO))) (dR 5 (gW C (aB.wp C (.region WJ)) (eA (fun i:Nat=>zlF l o r i) (fun i=>fP o (cT l R i)) (fun i=>i≤l.exit.length) (fun i=>l.exit.length-i) (l.exit.length-i) K))) F H:=by
   intro F H hF hH
   refine rX _ (fun _ _ _ _ a b=>Up.up a b) hF ?_
   simp only[go_sem,WH]
   refine a8D L l o r i l.buN[i] buW (hl.row _ (bwS hir)) (hm.row _ (bwS hir)) hrl hlt hn R1 hR1l _ _ _ (by (repeat' (first|exact PF.nil_le|refine PF.aH ?_ ?_))<;>first|(simp only[go_sem,γ,zlF]<;>rfl)|rfl) (PH.aH PH.nil_le hH) ?_
   simp only[go_sem,γ,zlF,WJ,wZz i]
   exact aJ (i+1) hlt Om Lq (by rw[buQ]; exact PH.le_refl)
  simp only[zlF,fP] at rest
  have rest':=rest
  simp only[aB.wp,go_sem] at rest'
  generalize hb:(cT l R i).getD i false=b at *
  cases b with
  | true =>
   simp only[go_sem,γ,buP,WG,buP,bxO,hat]
   refine rest' _ _ Lq ?_
   rw[← hR1]
   simp only[go_sem,jW,Bool.true_or]
  | false =>
   simp only[go_sem,δ,γ,buP,WG,buP,bxO,hat,hx]
   refine aA hsn rfl ?_
   simp only[go_sem,γ,reduceCtorEq,buP,bxO,hat,hpos]
   refine rest' _ _ Lq ?_
   rw[← hR1]
   simp only[go_sem,jW,Bool.false_or]
 ·have buP:¬ (i:Int)<(l.exit.length:Nat):=by omega
  have:i=l.exit.length:=by omega
  subst this
  simp only[go_sem,buP]
  exact Up.up (by (repeat' (first|exact PF.nil_le|refine PF.aH ?_ ?_))<;>first|(simp only[go_sem,γ,zlF]<;>rfl)|rfl) hK
theorem a8E {C:Ctx} (L:mS C) (l:cD) (hl:l.Ok) (he:wP l) (hm:arF l) (o:Nat) (K:cI) [Up K] (F:PF) (H:PH)
  (hF:(((((PF.nil.set 1 (.buR l.cells)).set 3 (.int .i64 (l.exit.length:Nat))).set 7 (.osl o 1 0 l.exit.length)).set 8 (.int .i64 0)):PF).le F) (hH:(fP o (cX l 0)).le H)
  (hK:K (.exit 2) (((PF.nil.set 3 (.int .i64 (l.exit.length:Nat))).set 7 (.osl o 1 0 l.exit.length))) (fP o (cX l l.exit.length))):aB.wp C (.loop WC) K F H:=by
 have hn:=he.n
 refine wp_loop (α:=Nat) (fun r=>((((PF.nil.set 1 (.buR l.cells)).set 3 (.int .i64 (l.exit.length:Nat))).set 7 (.osl o 1 0 l.exit.length)).set 8 (.int .i64 r))) (fun r=>fP o (cX l r)) (fun r=>r≤l.exit.length) (fun r=>l.exit.length-r) 0 (bwZ _) hF hH ?_
 intro r hr
 have hlen:=nE l r
 simp only[go_sem,γ,WC,aGY]
 by_cases hlt:r<l.exit.length
 ·have buP:(r:Int)<(l.exit.length:Nat):=by omega
  simp only[go_sem,buP,aGZ]
  refine a8F L l hl he hm o r (cX l r) hlen _ _ _ (by (repeat' (first|exact PF.nil_le|refine PF.aH ?_ ?_))<;>first|(simp only[go_sem,γ,zlF]<;>rfl)|rfl) PH.le_refl ?_
  simp only[go_sem,γ,zlF,aHC,wZz r]
  exact aJ (r+1) hlt Om Lq PH.le_refl
 ·have buP:¬ (r:Int)<(l.exit.length:Nat):=by omega
  have:r=l.exit.length:=by omega
  subst this
  simp only[go_sem,buP]
  exact Up.up Lq hK
theorem bhA {C:Ctx} (R:List Bool) (hR:R.length≤4) (o:Nat) (X:Bool) (hX:X=R.all id) (Q:PV→PH→Prop) (hQ:Q=aC (.bool X)) (F:PF) (H:PH)
  (hF:((((PF.nil.set 3 (.int .i64 (R.length:Nat))).set 7 (.osl o 1 0 R.length)).set 11 (.int .i64 0)):PF).le F) (hH:(fP o R).le H):aB.wp C (.loop WD) (dR 8 (gW C (aB.wp C (.seq (.region WL) .ret)) (aS [.tmp 2] Q))) F H:=by
 subst hX hQ
 refine wp_loop (α:=Nat) (fun k=>(((PF.nil.set 3 (.int .i64 (R.length:Nat))).set 7 (.osl o 1 0 R.length)).set 11 (.int .i64 k))) (fun _=>fP o R) (fun k=>k≤R.length∧(R.take k).all id=true) (fun k=>R.length-k) 0 ⟨bwZ _,rfl⟩ hF hH ?_
 rintro k ⟨hk,ha⟩
 simp only[go_sem,γ,WD,aHE,fP]
 by_cases hlt:k<R.length
 ·have buP:(k:Int)<(R.length:Nat):=by omega
  have hat:=oJ (R:=R) (i:=k) hlt
  have hg:R.getD k false=R[k]:=by simp[bxI,hlt]
  rw[hg] at hat
  cases hc:R[k] with
  | false =>
   rw[hc] at hat
   simp only[go_sem,γ,buP,WK,bxO,hat,bxB,aHF]
   refine aI (.inr rfl) rfl ?_
   rw[aT,mH hlt (p:=id) hc]
  | true =>
   rw[hc] at hat
   have ha2:=mG hlt ha (p:=id) hc
   simp only[go_sem,γ,buP,WK,bxO,hat,bwU,aHG,wZz k]
   exact aJ (k+1) ⟨hlt,by simpa using bxL.1 ha2⟩ Om Lq PH.le_refl
 ·have buP:¬ (k:Int)<(R.length:Nat):=by omega
  have:k=R.length:=by omega
  subst this
  rw[bxM] at ha
  simp only[go_sem,buP,WL]
  refine aI (.inr rfl) rfl ?_
  rw[aT,ha]
def Marks (R S:List Bool):Prop:=R.length=S.length∧∀ j:Nat,R[j]?=some true→S[j]?=some true
theorem Marks.bgO (R:List Bool):Marks R R:=⟨rfl,fun _ h=>h⟩
theorem Marks.trans {R S T:List Bool} (h:Marks R S) (k:Marks S T):Marks R T:=⟨h.1.trans k.1,fun j a=>k.2 j (h.2 j a)⟩
theorem ayK (R:List Bool) (i:Nat) (b:Bool):Marks R (R.set i (R.getD i false||b)):=by
 refine⟨by rw[byR],fun j h=>?_⟩
 rw[List.getElem?_set]
 obtain⟨hj,he⟩:=bxZ.1 h
 split
 ·rename_i e
  subst e
  rw[if_pos hj,bxI,h]
  rfl
 ·exact h
theorem alK (R:List Bool) (i:Nat) (row:List RF):∀ k,Marks R (cJ R i row k)
 | 0=>Marks.bgO R
 | k+1=>(alK R i row k).trans (ayK _ _ _)
theorem yR (l:cD) (R:List Bool):∀ i,Marks R (cT l R i)
 | 0=>Marks.bgO R
 | i+1=>(yR l R i).trans ((ayK _ _ _).trans (alK _ _ _ _))
theorem ayL:∀ {R S:List Bool},Marks R S→R≠S→R.count true<S.count true
 | [],[],_,h=>absurd rfl h
 | [],_::_,h,_=>by have:=h.1; simp at this
 | _::_,[],h,_=>by have:=h.1; simp at this
 | a::R,b::S,h,hne=>by
  have h0:a=true→b=true:=fun e=>by
   have:=h.2 0 (by rw[e]; rfl)
   simpa using this
  have ht:Marks R S:=⟨by have:=h.1; simpa using this,fun j hj=>by have:=h.2 (j+1) (by simpa using hj); simpa using this⟩
  by_cases e:R=S
  ·subst e
   have:a≠b:=fun e=>hne (by rw[e])
   cases a<;>cases b<;>simp at this h0 ⊢
  ·have:=ayL ht e
   cases a<;>cases b<;>simp at h0 ⊢<;>omega
theorem XG:∀ {R:List Bool},R.length≤R.count true→R.all id=true
 | [],_=>rfl
 | a::R,h=>by
  have h1:=List.count_le_length (a:=true) (l:=R)
  cases a with
  | true =>
   simp only[List.count_cons_self,byQ] at h
   simp only[List.all_cons,id,bwY]
   exact XG Om
  | false =>
   simp at h
   omega
theorem FX (l:cD) {s:Nat} (h:cX l (s+1)=cX l s):∀ d,cX l (s+d)=cX l s
 | 0=>rfl
 | d+1=>by
  show cT l (cX l (s+d)) l.exit.length=_
  rw[FX l h d]
  exact h
theorem abU (l:cD):∀ r,(∃ s,s<r∧cX l (s+1)=cX l s)∨r≤(cX l r).count true
 | 0=>.inr (bwZ _)
 | r+1=>by
  rcases abU l r with ⟨s,h1,h2⟩ | h
  ·exact .inl ⟨s,by omega,h2⟩
  ·by_cases e:cX l (r+1)=cX l r
   ·exact .inl ⟨r,by omega,e⟩
   ·have:=ayL (yR l (cX l r) l.exit.length) (fun h=>e h.symm)
    exact .inr (by show r+1≤(cT l (cX l r) l.exit.length).count true; omega)
theorem a9S (l:cD):tL l=(cX l l.exit.length).all id:=by
 unfold tL
 rcases abU l l.exit.length with ⟨s,h1,h2⟩ | h
 ·obtain⟨d,hd⟩:∃ d,l.exit.length=s+d:=⟨l.exit.length-s,by omega⟩
  rw[show l.exit.length+1=s+(d+1) by omega,hd,FX l h2,FX l h2]
 ·have hf:(cX l l.exit.length).all id=true:=XG (by rw[nE]; exact h)
  have hm:Marks (cX l l.exit.length) (cX l (l.exit.length+1)):=yR l (cX l l.exit.length) l.exit.length
  rw[hf,bxL]
  intro x hx
  obtain⟨j,hj,rfl⟩:=byP hx
  have hj2:j<(cX l l.exit.length).length:=by rw[hm.1]; exact hj
  have:=hm.2 j (by
   rw[bxA hj2]
   have:=bxL.1 hf _ (bwS hj2)
   simpa using this)
  rw[bxA hj] at this
  simpa using this
def zsS (s:Bool):Spec:=fun name vs=>match name,vs with
 | 47,_=>some ([],fun _=>aC (.agg (mkT 1 1).cells))
 | 53,_=>some ([],fun _=>aC (.bool s))
 | _,_=>none
theorem a5B (l:cD):jN l=(within l.start.length 1 4&&((decide ((l.start.length:Int)=l.start.length)&&l.start.all cC)&&((decide ((l.exit.length:Int)=l.start.length)&&l.exit.all cC)&&(decide (l.buN.length=l.start.length)&&((bwO l.buN.length).all (oO l)&&(rJ l&&tL l)))))):=by
 rw[aLQ,decide_eq_true (rfl:(l.start.length:Int)=l.start.length),bwY]
 have:decide (l.exit.length=l.start.length)=decide ((l.exit.length:Int)=l.start.length):=decide_eq_decide.2 Om
 rw[this]
 cases within l.start.length 1 4<;>cases decide ((l.exit.length:Int)=l.start.length)<;>cases decide (l.buN.length=l.start.length)<;>cases l.start.all cC<;>cases l.exit.all cC<;>simp[bzI]
theorem aCM (l:cD) {i:Nat} (h:i<l.buN.length):oO l i=((decide (((l.buN[i]).length:Int)=l.start.length)&&(l.buN[i]).all cC)&&!((l.buN[i]).map bW).getD i false):=by
 unfold oO
 have:l.buN.getD i []=l.buN[i]:=by simp[bxI,h]
 rw[this]
 have:decide ((l.buN[i]).length=l.start.length)=decide (((l.buN[i]).length:Int)=l.start.length):=decide_eq_decide.2 Om
 rw[this]
theorem beD {C:Ctx} (L:mS C) (l:cD) (hl:l.Ok):ON.wp C (aS aGU.res (aC (.bool (jN l)))) (PF.args [.agg l.cells]) .nil:=by
 have hX:=a5B l
 have fail:∀ (F:PF) (H:PH),jN l=false→F 2=some (.bool false)→aS [.tmp 2] (aC (.bool (jN l))) .ret F H:=fun F H e h=>by
  rw[e]
  exact aU (vs:=[.bool false]) (.inr rfl) .nil (by simp only[go_sem,h]) PH.nil_le ⟨rfl,rfl⟩
 have e1:=L.smalls l.start hl.start l.start.length
 have e2:=L.smalls l.exit hl.exit l.start.length
 simp only[go_sem,δ,γ,θ,ON,aRU,aRV,aGU,bwN,aRW]
 by_cases c1:((l.start.length:Nat):Int)<1
 ·simp only[go_sem,γ,c1,uS]
  exact fail _ _ (by rw[hX,show within l.start.length 1 4=false from by unfold within; rw[decide_eq_false Om,bwT],bwT]) rfl
 by_cases c2:((l.start.length:Nat):Int)>4
 ·simp only[go_sem,γ,reduceCtorEq,c1,c2,uS]
  exact fail _ _ (by rw[hX,show within l.start.length 1 4=false from by unfold within; rw[decide_eq_false (Om:¬ ((l.start.length:Nat):Int)≤4),bxT],bwT]) rfl
 rw[show within l.start.length 1 4=true from by unfold within; rw[decide_eq_true (Om:(1:Int)≤(l.start.length:Nat)),decide_eq_true (Om:((l.start.length:Nat):Int)≤4)]; rfl,bwY] at hX
 simp only[go_sem,δ,γ,θ,reduceCtorEq,c1,c2]
 refine aA e1 rfl ?_
 cases k1:(decide ((l.start.length:Int)=l.start.length)&&l.start.all cC) with
 | false =>
  rw[k1,bwT] at hX
  simp only[go_sem,γ,reduceCtorEq,bxB,uS]
  exact fail _ _ hX rfl
 | true =>
 rw[k1,bwY] at hX
 simp only[go_sem,γ,reduceCtorEq,bwU]
 refine aA e2 rfl ?_
 cases k2:(decide ((l.exit.length:Int)=l.start.length)&&l.exit.all cC) with
 | false =>
  rw[k2,bwT] at hX
  simp only[go_sem,γ,reduceCtorEq,bxB,uS]
  exact fail _ _ hX rfl
 | true =>
 rw[k2,bwY] at hX
 rw[bxJ,decide_eq_true_eq] at k2
 have hxl:l.exit.length=l.start.length:=by omega
 have hxlim:=bxL.1 k2.2
 by_cases c3:l.buN.length=l.start.length
 case neg =>
  rw[decide_eq_false c3,bwT] at hX
  simp only[go_sem,δ,γ,θ,reduceCtorEq,bwU,bwN,dA (Om:((l.buN.length:Nat):Int)≠(l.start.length:Nat)),uS]
  exact fail _ _ hX rfl
 rw[decide_eq_true c3,bwY] at hX
 simp only[go_sem,δ,γ,θ,reduceCtorEq,bwU,bwN,cO (Om:((l.buN.length:Nat):Int)=(l.start.length:Nat)),aRX]
 refine wp_loop (α:=Nat) (fun i=>(((PF.nil.set 1 (.buR l.cells)).set 3 (.int .i64 (l.start.length:Nat))).set 4 (.int .i64 i))) (fun _=>.nil) (fun i=>i≤l.start.length∧∀ j,j<i→oO l j=true) (fun i=>l.start.length-i) 0 ⟨bwZ _,fun j h=>by omega⟩ Lq PH.nil_le ?_
 rintro i ⟨hi,bwA⟩
 simp only[go_sem,γ,aRT,aRY]
 by_cases hlt:i<l.start.length
 ·have buP:(i:Int)<(l.start.length:Nat):=by omega
  have hir:i<l.buN.length:=by omega
  have buW:(l.buN.map fun r=>[frs r])[i]?=some [frs l.buN[i]]:=by simp[hir]
  have hro:=hl.row _ (bwS hir)
  have e3:=L.smalls l.buN[i] hro l.start.length
  have hrp:=aCM l hir
  have bad:oO l i=false→jN l=false:=fun h=>by
   rw[hX,show (bwO l.buN.length).all (oO l)=false from List.all_eq_false.2 ⟨i,byD.2 hir,by simp[h]⟩,bwT]
  simp only[go_sem,δ,γ,θ,buP,aRZ,buW]
  refine aA e3 rfl ?_
  cases k3:(decide (((l.buN[i]).length:Int)=l.start.length)&&(l.buN[i]).all cC) with
  | false =>
   rw[k3,bwT] at hrp
   simp only[go_sem,γ,bxB,aiV]
   exact fail _ _ (bad hrp) rfl
  | true =>
   rw[k3,bwY] at hrp
   rw[bxJ,decide_eq_true_eq] at k3
   have hrl:(l.buN[i]).length=l.start.length:=by omega
   have hik:i<(l.buN[i]).length:=by omega
   have hm:=bwS hik
   have hs:=L.sign _ (hro.all _ hm) (mZ (bxL.1 k3.2 _ hm))
   have hz:=GD (l.buN[i])[i]
   have hg:((l.buN[i]).map bW).getD i false=bW (l.buN[i])[i]:=by simp[bxI,hik]
   rw[hg] at hrp
   have hz2:(oG (l.buN[i])[i] != 0)=bW (l.buN[i])[i]:=by
    rw[bne,hz,Bool.not_not]
   simp only[go_sem,δ,γ,θ,bwU,buW,ZG hik]
   refine aA hs rfl ?_
   cases k4:bW (l.buN[i])[i] with
   | true =>
    rw[k4] at hrp hz2
    simp only[go_sem,γ,reduceCtorEq,hz2,aiV]
    exact fail _ _ (bad hrp) rfl
   | false =>
    rw[k4] at hrp hz2
    simp only[go_sem,γ,reduceCtorEq,hz2,aSA,wZz i]
    exact aJ (i+1) ⟨hlt,fun j hj=>by
     by_cases e:j=i
     ·rw[e]; exact hrp
     ·exact bwA j Om⟩ Om Lq PH.le_refl
 ·have buP:¬ (i:Int)<(l.start.length:Nat):=by omega
  have:i=l.start.length:=by omega
  subst this
  have hrows:(bwO l.buN.length).all (oO l)=true:=bxL.2 fun j hj=>bwA j (by rw[← c3]; exact byD.1 hj)
  rw[hrows,bwY] at hX
  have hrr:∀ r∈l.buN,r.length=l.start.length∧∀ x∈r,cC x=true:=fun r hr=>by
   obtain⟨j,hj,rfl⟩:=byP hr
   have h:=bwA j Om
   rw[aCM l hj,bxJ,bxJ,decide_eq_true_eq] at h
   exact⟨by omega,bxL.1 h.1.2⟩
  have hlim:arF l:=⟨hxlim,fun r hr=>(hrr r hr).2⟩
  have hend:wP l:=⟨by omega,by omega,fun r hr=>by rw[(hrr r hr).1,hxl]⟩
  have hsum:=L.sum l.start hl.start.all hl.start.fits
  simp only[go_sem,δ,γ,θ,buP,aGV]
  refine aA hsum rfl ?_
  cases hE:mQ (l.start.map RF.v) with
  | error e =>
   have he0:=aDM hE
   have:rJ l=false:=by unfold rJ; rw[hE]
   rw[this,bwT] at hX
   simp only[go_sem,δ,γ,frV]
   refine aP fun o ho=>?_
   simp only[go_sem,δ,γ]
   refine bM .nil dV PH.nil_le ?_
   simp only[go_sem,γ,WE,dA he0,WF]
   exact fail _ _ hX rfl
  | ok r =>
   have hrok:=aPA hE
   have hrv:=acJ hE
   obtain⟨n,a,b⟩:=r
   have h1:cQ 1:=by unfold cQ; omega
   have hsame:=L.same (FV.rf (n,a,b)) (mkT 1 1) hrok (BF 1 h1).1 (by unfold RF.valid FV.rf; simp only[aQ]; exact hrv) (BF 1 h1).2
   have hP:rJ l=(mM (FV.rf (n,a,b)) (mkT 1 1)==0):=by
    unfold rJ
    rw[hE,BG]
    unfold mM FV.rf
    simp only[aQ,show (1:Int).natAbs=1 from rfl,show decide ((1:Int)<0)=false from rfl]
    by_cases h:oN n a b false 1 1=0<;>simp[h]
   simp only[go_sem,δ,γ,frV]
   refine aP fun o ho=>?_
   have hH:bA (PH.nil.set o (.rows 3 [(FV.rf (n,a,b)).cells])) [(o,.rows 3 [(FV.rf (n,a,b)).cells])] []:=bA.nil.new (H:=PH.nil) rfl _
   simp only[go_sem,δ,γ]
   refine bM (PH.nil.set o (.rows 3 [(FV.rf (n,a,b)).cells])) (zsS (mM (FV.rf (n,a,b)) (mkT 1 1)==0)) PH.le_refl ?_
   simp only[go_sem,δ,γ,WE,cO (show (0:Int)=0 from rfl)]
   refine bF rfl (L.int 1 h1) rfl PH.le_refl ?_
   simp only[go_sem,γ]
   refine bF rfl hsame rfl PH.le_refl ?_
   rw[← hP]
   cases hp:rJ l with
   | false =>
    rw[hp,bwT] at hX
    simp only[go_sem,γ,reduceCtorEq,bxB,WF]
    exact fail _ _ hX rfl
   | true =>
    rw[hp,bwY,a9S] at hX
    have hb1:((l.start.length:Nat):Int)*((1:Nat):Int)≤140737488355328:=by omega
    have hb2:((l.start.length:Nat):Int)≤9223372036854775807:=by omega
    simp only[go_sem,γ,reduceCtorEq,bwU,aGW,hb1,hb2]
    refine aP fun q hq=>?_
    simp only[go_sem,γ,aGX]
    have hz0:bwP l.start.length [PV.bool false]=fE (cX l 0):=by
     rw[← hxl]
     simp[cX,fE]
    rw[← hxl]
    refine a8E L l hl hend hlim q _ _ _ Lq ?_ ?_
    ·refine PH.aH PH.nil_le ?_
     rw[fJ,hxl,hz0]
    simp only[go_sem,aHD]
    have hn4:(cX l l.exit.length).length≤4:=by rw[nE]; omega
    refine bhA (cX l l.exit.length) hn4 q (jN l) hX _ rfl _ _ ?_ PH.le_refl
    rw[nE]
    exact Lq
structure oU (C:Ctx):Prop extends mS C where
 law:∀ l:cD,l.Ok→aE C 68 [.agg l.cells] .nil (aC (.bool (jN l)))
def okL (base ns:List (List UInt8)) (P:Nat→Bool) (i:Nat):Bool:=gI (base++ns.take i) (ns.getD i [])&&P i
theorem oI {p:Nat→Bool} (k:Nat) (b:Bool):(b&&(bwO (k+1)).all p)=((b&&(bwO k).all p)&&p k):=by
 rw[List.range_succ,List.all_append]
 cases (bwO k).all p<;>cases b<;>simp
theorem oH {p:Nat→Bool} {b:Bool} {i n:Nat} (hi:i≤n) (h:(b&&(bwO i).all p)=false):(b&&(bwO n).all p)=false:=by
 cases b with
 | false=>rfl
 | true =>
  rw[bwY] at h ⊢
  obtain⟨x,hx,hp⟩:=List.all_eq_false.1 h
  exact List.all_eq_false.2 ⟨x,byD.2 (by have:=byD.1 hx; omega),hp⟩
structure fL (H:PH) (w:PV) (base ns:List (List UInt8)) (c:Bool) (i:Nat):Prop where
 ex:∃ names,bA H [] [(w,1,jZ names)]∧(c=true→names=base++ns.take i)
section
variable {C:Ctx} {F:PF} {H:PH} {d:Option Nat} {K:PF→PH→Prop}
theorem fL.call (L:mS C) {w:PV} {base ns:List (List UInt8)} {i:Nat} {B:List BX} {names:List (List UInt8)} (h:bA H B [(w,1,jZ names)]) (hl:base.length≤1000) (hi:i≤1000) (hn:names=base++ns.take i) (hin:i<ns.length) {a b:Nat} (bwC:aO.evs F [.tmp a,.tmp b]=some [w,.str ns[i]])
  (hk:∀ w' H',bA H' B [(w',1,jZ (names++[ns[i]]))]→fL H' w' base ns true (i+1)→K (F.put d (.tup [w',.bool (gI (base++ns.take i) (ns.getD i []))])) H'):fQ C 70 [.tmp a,.tmp b] [] d K F H:=by
 refine ST (B1:=[]) (B2:=B) (L1:=[(w,1,jZ names)]) (L2:=[]) (Q:=WO names ns[i]) h (fun H0 h0=>L.fresh names (by rw[hn,bwW,bxE]; omega) ns[i] w H0 h0) bwC ?_
 rintro r B' L' H' ⟨w',rfl,rfl,rfl⟩ h'
 have hgd:ns.getD i []=ns[i]:=by simp[bxI,hin]
 rw[hgd,← hn] at hk
 refine hk w' H' h' ⟨names++[ns[i]],h'.sub (List.nil_sublist _) (byT.refl _),fun _=>?_⟩
 rw[byH hin,← bxU,hn]
end
theorem fL.aiU {H:PH} {w:PV} {base ns:List (List UInt8)} {c:Bool} {i:Nat} (h:fL H w base ns true i):fL H w base ns c i:=by
 obtain⟨names,h1,h3⟩:=h.ex
 exact⟨names,h1,fun _=>h3 rfl⟩
def ER (f:aL):Bool:=(bwO f.buS.length).all (okL [] (f.buS.map cD.name) fun i=>(f.buS.map jN).getD i false)
theorem beI {C:Ctx} (L:oU C) (f:aL) (hf:f.Ok) (hs:f.buS.length≤4) (K:cI) [Up K] (F:PF) (H:PH)
  (hF:(((((((((PF.nil.set 1 (.buR f.cells)).set 3 (.buJ)).set 4 (.buJ)).set 5 (.buJ)).set 6 (.buJ)).set 7 (.buJ)).set 8 (.bool true)).set 9 (.int .i64 0)):PF).le F)
  (hK:∀ H',K (.exit 0) (((((((PF.nil.set 1 (.buR f.cells)).set 4 (.buJ)).set 5 (.buJ)).set 6 (.buJ)).set 7 (.buJ)).set 8 (.bool (ER f)))) H'):aB.wp C (.loop HQ) K F H:=by
 obtain⟨ok,hok⟩:∃ ok,okL [] (f.buS.map cD.name) (fun i=>(f.buS.map jN).getD i false)=ok:=⟨_,rfl⟩
 unfold ER at hK
 rw[hok] at hK
 refine wp_loop (α:=Nat × PV × PH) (fun s=>((((((((PF.nil.set 1 (.buR f.cells)).set 3 (s.2.1)).set 4 (.buJ)).set 5 (.buJ)).set 6 (.buJ)).set 7 (.buJ)).set 8 (.bool (true&&(bwO s.1).all ok))).set 9 (.int .i64 s.1))) (fun s=>s.2.2) (fun s=>s.1≤f.buS.length∧fL s.2.2 s.2.1 [] (f.buS.map cD.name) (true&&(bwO s.1).all ok) s.1) (fun s=>f.buS.length-s.1)
  (0,.buJ,H) ⟨bwZ _,⟨[],bA.nil.sY 1,fun _=>rfl⟩⟩ hF PH.le_refl ?_
 rintro⟨i,w,H0⟩ ⟨hi,hG⟩
 simp only at hi hG ⊢
 have fin:∀ (b:Bool) (w':PV) (F':PF) (H':PH),i<f.buS.length→(true&&(bwO (i+1)).all ok)=b→fL H' w' [] (f.buS.map cD.name) true (i+1) →
   (((((((((PF.nil.set 1 (.buR f.cells)).set 3 (w')).set 4 (.buJ)).set 5 (.buJ)).set 6 (.buJ)).set 7 (.buJ)).set 8 (.bool b)).set 9 (.int .i64 (i+1:Nat))):PF).le F' →
   eA (fun s:Nat × PV × PH=>((((((((PF.nil.set 1 (.buR f.cells)).set 3 (s.2.1)).set 4 (.buJ)).set 5 (.buJ)).set 6 (.buJ)).set 7 (.buJ)).set 8 (.bool (true&&(bwO s.1).all ok))).set 9 (.int .i64 s.1))) (fun s=>s.2.2) (fun s=>s.1≤f.buS.length∧fL s.2.2 s.2.1 [] (f.buS.map cD.name) (true&&(bwO s.1).all ok) s.1) (fun s=>f.buS.length-s.1) (f.buS.length-i) K .normal F' H' :=
  fun b w' F' H' hlt hb hG' hF'=>aJ (i+1,w',H') ⟨hlt,hG'.aiU⟩ (by simp only; omega) (by simp only; rw[hb]; exact hF') PH.le_refl
 have buQ:=oI (p:=ok) i true
 have stop:(true&&(bwO i).all ok)=(true&&(bwO f.buS.length).all ok)→K (.exit 0) (((((((PF.nil.set 1 (.buR f.cells)).set 4 (.buJ)).set 5 (.buJ)).set 6 (.buJ)).set 7 (.buJ)).set 8 (.bool (true&&(bwO i).all ok)))) H0:=fun e=>by
  rw[e,bwY]; exact hK H0
 have hacc:=fun h=>oH (p:=ok) (b:=true) hi h
 generalize hc:(true&&(bwO i).all ok)=c at *
 simp only[go_sem,δ,γ,θ,HQ,aqF,bwN]
 by_cases hlt:i<f.buS.length
 ·have buP:(i:Int)<(f.buS.length:Nat):=by omega
  cases c with
  | false =>
   simp only[go_sem,γ,buP]
   exact Up.up Lq (stop (hacc rfl).symm)
  | true =>
   obtain⟨names,g1,g3⟩:=hG.ex
   have hat:(f.buS.map cD.cells)[i]?=some (f.buS[i]).cells:=by simp[hlt]
   have hin:i<(f.buS.map cD.name).length:=by rw[bwN]; exact hlt
   have hoki:ok i=(gI ([]++(f.buS.map cD.name).take i) ((f.buS.map cD.name).getD i [])&&jN f.buS[i]):=by
    rw[← hok]
    unfold okL
    simp[bxI,hlt]
   have hl:=L.law _ (hf.law _ (bwS hlt))
   rw[hoki] at buQ
   simp only[go_sem,δ,γ,θ,buP,aqG,hat]
   refine fL.call L.tomS (ns:=f.buS.map cD.name) g1 (bwZ _) Om (g3 rfl) hin (by simp only[go_sem,γ,byO]) fun w' H1 h1 hG1=>?_
   generalize gI ([]++(f.buS.map cD.name).take i) ((f.buS.map cD.name).getD i [])=fb at *
   cases fb with
   | false =>
    simp only[go_sem,γ,reduceCtorEq,OS,OT,wZz i]
    exact fin false w' _ _ hlt (buQ.trans rfl) hG1 Lq
   | true =>
    simp only[go_sem,δ,γ,θ,OS,hat]
    refine aA hl rfl ?_
    simp only[go_sem,γ,OT,wZz i]
    exact fin _ w' _ _ hlt (buQ.trans rfl) hG1 Lq
 ·have buP:¬ (i:Int)<(f.buS.length:Nat):=by omega
  have:i=f.buS.length:=by omega
  subst this
  simp only[go_sem,γ,reduceCtorEq,buP]
  exact Up.up Lq (stop hc.symm)
theorem MX {a b c d e f:Nat} (h:mO a b c d e f=true):a≤4∧b≤4∧c≤40∧d≤24∧e≤4∧f≤12:=by
 simp only[mO,bxJ,decide_eq_true_eq] at h
 omega
theorem aeQ {n:Nat} (h:n≤1000):IntKind.i64.wrap ((n:Int)-1)=(n:Int)-1:=wrap_i64 Om Om
def inS:Spec:=fun name vs=>match name,vs with
 | 76,[.int _ n,.int _ lo,.int _ hi]=>some ([],fun _=>aC (.bool (within n lo hi)))
 | _,_=>none
def ahE (buS:Nat) (m:cP):Bool:=within m.bvD 1 16&&(within m.port 1 64&&within m.law 0 ((buS:Int)-1))
def aGC (pols:Nat) (v:dW):Bool:=within v.buX 0 ((pols:Int)-1)
def uO (f:aL):Bool:=(bwO f.buI.length).all (okL [] (f.buI.map cP.name) fun i=>(f.buI.map (ahE f.buS.length)).getD i false)
theorem a2U {C:Ctx} (L:oU C) (f:aL) (hf:f.Ok) (hz:mO f.buS.length f.buI.length f.buL.length f.buH.length f.buM.length f.buK.length=true) (b:Bool) (K:cI) [Up K] (F:PF) (H:PH)
  (hF:((((((((PF.nil.set 1 (.buR f.cells)).set 4 (.buJ)).set 5 (.buJ)).set 6 (.buJ)).set 7 (.buJ)).set 8 (.bool b)).set 10 (.int .i64 0)):PF).le F)
  (hK:∀ H',K (.exit 2) ((((((PF.nil.set 1 (.buR f.cells)).set 5 (.buJ)).set 6 (.buJ)).set 7 (.buJ)).set 8 (.bool (b&&uO f)))) H'):aB.wp C (.loop HR) K F H:=by
 obtain⟨hz1,hz2,hz3,hz4,hz5,hz6⟩:=MX hz
 obtain⟨ok,hok⟩:∃ ok,okL [] (f.buI.map cP.name) (fun i=>(f.buI.map (ahE f.buS.length)).getD i false)=ok:=⟨_,rfl⟩
 unfold uO at hK
 rw[hok] at hK
 refine wp_loop (α:=Nat × PV × PH) (fun s=>(((((((PF.nil.set 1 (.buR f.cells)).set 4 (s.2.1)).set 5 (.buJ)).set 6 (.buJ)).set 7 (.buJ)).set 8 (.bool (b&&(bwO s.1).all ok))).set 10 (.int .i64 s.1))) (fun s=>s.2.2) (fun s=>s.1≤f.buI.length∧fL s.2.2 s.2.1 [] (f.buI.map cP.name) (b&&(bwO s.1).all ok) s.1) (fun s=>f.buI.length-s.1)
  (0,.buJ,H) ⟨bwZ _,⟨[],bA.nil.sY 1,fun _=>rfl⟩⟩ (by
   have e:(b&&(bwO 0).all ok)=b:=by cases b<;>rfl
   simp only[e]
   exact hF) PH.le_refl ?_
 rintro⟨i,w,H0⟩ ⟨hi,hG⟩
 simp only at hi hG ⊢
 have fin:∀ (c:Bool) (w':PV) (F':PF) (H':PH),i<f.buI.length→(b&&(bwO (i+1)).all ok)=c→fL H' w' [] (f.buI.map cP.name) true (i+1) →
   ((((((((PF.nil.set 1 (.buR f.cells)).set 4 (w')).set 5 (.buJ)).set 6 (.buJ)).set 7 (.buJ)).set 8 (.bool c)).set 10 (.int .i64 (i+1:Nat))):PF).le F' →
   eA (fun s:Nat × PV × PH=>(((((((PF.nil.set 1 (.buR f.cells)).set 4 (s.2.1)).set 5 (.buJ)).set 6 (.buJ)).set 7 (.buJ)).set 8 (.bool (b&&(bwO s.1).all ok))).set 10 (.int .i64 s.1))) (fun s=>s.2.2) (fun s=>s.1≤f.buI.length∧fL s.2.2 s.2.1 [] (f.buI.map cP.name) (b&&(bwO s.1).all ok) s.1) (fun s=>f.buI.length-s.1) (f.buI.length-i) K .normal F' H' :=
  fun c w' F' H' hlt hb hG' hF'=>aJ (i+1,w',H') ⟨hlt,hG'.aiU⟩ (by simp only; omega) (by simp only; rw[hb]; exact hF') PH.le_refl
 have buQ:=oI (p:=ok) i b
 have stop:(b&&(bwO i).all ok)=(b&&(bwO f.buI.length).all ok)→K (.exit 2) ((((((PF.nil.set 1 (.buR f.cells)).set 5 (.buJ)).set 6 (.buJ)).set 7 (.buJ)).set 8 (.bool (b&&(bwO i).all ok)))) H0:=fun e=>by
  rw[e]; exact hK H0
 have hacc:=fun h=>oH (p:=ok) (b:=b) hi h
 generalize hc:(b&&(bwO i).all ok)=c at *
 simp only[go_sem,δ,γ,θ,HR,afE,bwN]
 by_cases hlt:i<f.buI.length
 ·have buP:(i:Int)<(f.buI.length:Nat):=by omega
  cases c with
  | false =>
   simp only[go_sem,γ,buP]
   exact Up.up Lq (stop (hacc rfl).symm)
  | true =>
   obtain⟨names,g1,g3⟩:=hG.ex
   have hat:(f.buI.map cP.cells)[i]?=some (f.buI[i]).cells:=by simp[hlt]
   have hin:i<(f.buI.map cP.name).length:=by rw[bwN]; exact hlt
   have hoki:ok i=(gI ([]++(f.buI.map cP.name).take i) ((f.buI.map cP.name).getD i [])&&(ahE f.buS.length) f.buI[i]):=by
    rw[← hok]
    unfold okL
    simp[bxI,hlt]
   rw[hoki] at buQ
   have bvW:ahE f.buS.length f.buI[i]=(within (f.buI[i]).bvD 1 16&&(within (f.buI[i]).port 1 64&&within (f.buI[i]).law 0 ((f.buS.length:Int)-1))):=rfl
   rw[bvW] at buQ
   simp only[go_sem,δ,γ,θ,buP,afF,hat]
   refine aP fun o ho=>?_
   have g4:=g1.new ho (.rows 4 [(f.buI[i]).cells])
   have g5:=g4.at 0 rfl
   simp only[go_sem,δ,γ]
   generalize H0.set o (.rows 4 [(f.buI[i]).cells])=H2 at *
   simp only[go_sem,δ,γ,θ,afG,g5]
   refine fL.call L.tomS (ns:=(f.buI.map cP.name)) g4 (bwZ _) Om (g3 rfl) hin (by simp only[go_sem,γ,byO]) fun w' H1 h1 hG1=>?_
   have g6:=h1.at 0 rfl
   generalize gI ([]++(f.buI.map cP.name).take i) ((f.buI.map cP.name).getD i [])=fb at *
   cases fb with
   | false =>
    simp only[go_sem,γ,reduceCtorEq,HT,qN,wZz i]
    exact fin false w' _ _ hlt (buQ.trans rfl) hG1 Lq
   | true =>
    simp only[go_sem,δ,γ,θ,HT,g6]
    refine aA (L.inn (f.buI[i]).bvD 1 16) rfl ?_
    cases k0:within (f.buI[i]).bvD 1 16 with
    | false =>
     simp only[go_sem,γ,reduceCtorEq,qN,wZz i]
     exact fin false w' _ _ hlt (by rw[buQ,k0]<;>simp) hG1 Lq
    | true =>
     simp only[go_sem,δ,γ,θ,g6]
     refine aA (L.inn (f.buI[i]).port 1 64) rfl ?_
     cases k1:within (f.buI[i]).port 1 64 with
     | false =>
      simp only[go_sem,γ,reduceCtorEq,qN,wZz i]
      exact fin false w' _ _ hlt (by rw[buQ,k0,k1]<;>simp) hG1 Lq
     | true =>
      simp only[go_sem,δ,γ,θ,g6,bwN,aeQ (Om:f.buS.length≤1000)]
      refine aA (L.inn (f.buI[i]).law 0 ((f.buS.length:Int)-1)) rfl ?_
      simp only[go_sem,γ,qN,wZz i]
      exact fin _ w' _ _ hlt (by rw[buQ,k0,k1]<;>simp) hG1 Lq
 ·have buP:¬ (i:Int)<(f.buI.length:Nat):=by omega
  have:i=f.buI.length:=by omega
  subst this
  simp only[go_sem,γ,reduceCtorEq,buP]
  exact Up.up Lq (stop hc.symm)
def arB (f:aL):Bool:=(bwO f.buK.length).all (okL [] (f.buK.map dW.name) fun i=>(f.buK.map (aGC f.buM.length)).getD i false)
theorem beK {C:Ctx} (L:oU C) (f:aL) (hf:f.Ok) (hz:mO f.buS.length f.buI.length f.buL.length f.buH.length f.buM.length f.buK.length=true) (b:Bool) (K:cI) [Up K] (F:PF) (H:PH)
  (hF:(((((PF.nil.set 1 (.buR f.cells)).set 7 (.buJ)).set 8 (.bool b)).set 21 (.int .i64 0)):PF).le F)
  (hK:∀ H',K (.exit 14) (((PF.nil.set 1 (.buR f.cells)).set 8 (.bool (b&&arB f)))) H'):aB.wp C (.loop uE) K F H:=by
 obtain⟨hz1,hz2,hz3,hz4,hz5,hz6⟩:=MX hz
 obtain⟨ok,hok⟩:∃ ok,okL [] (f.buK.map dW.name) (fun i=>(f.buK.map (aGC f.buM.length)).getD i false)=ok:=⟨_,rfl⟩
 unfold arB at hK
 rw[hok] at hK
 refine wp_loop (α:=Nat × PV × PH) (fun s=>((((PF.nil.set 1 (.buR f.cells)).set 7 (s.2.1)).set 8 (.bool (b&&(bwO s.1).all ok))).set 21 (.int .i64 s.1))) (fun s=>s.2.2) (fun s=>s.1≤f.buK.length∧fL s.2.2 s.2.1 [] (f.buK.map dW.name) (b&&(bwO s.1).all ok) s.1) (fun s=>f.buK.length-s.1)
  (0,.buJ,H) ⟨bwZ _,⟨[],bA.nil.sY 1,fun _=>rfl⟩⟩ (by
   have e:(b&&(bwO 0).all ok)=b:=by cases b<;>rfl
   simp only[e]
   exact hF) PH.le_refl ?_
 rintro⟨i,w,H0⟩ ⟨hi,hG⟩
 simp only at hi hG ⊢
 have fin:∀ (c:Bool) (w':PV) (F':PF) (H':PH),i<f.buK.length→(b&&(bwO (i+1)).all ok)=c→fL H' w' [] (f.buK.map dW.name) true (i+1) →
   (((((PF.nil.set 1 (.buR f.cells)).set 7 (w')).set 8 (.bool c)).set 21 (.int .i64 (i+1:Nat))):PF).le F' →
   eA (fun s:Nat × PV × PH=>((((PF.nil.set 1 (.buR f.cells)).set 7 (s.2.1)).set 8 (.bool (b&&(bwO s.1).all ok))).set 21 (.int .i64 s.1))) (fun s=>s.2.2) (fun s=>s.1≤f.buK.length∧fL s.2.2 s.2.1 [] (f.buK.map dW.name) (b&&(bwO s.1).all ok) s.1) (fun s=>f.buK.length-s.1) (f.buK.length-i) K .normal F' H' :=
  fun c w' F' H' hlt hb hG' hF'=>aJ (i+1,w',H') ⟨hlt,hG'.aiU⟩ (by simp only; omega) (by simp only; rw[hb]; exact hF') PH.le_refl
 have buQ:=oI (p:=ok) i b
 have stop:(b&&(bwO i).all ok)=(b&&(bwO f.buK.length).all ok)→K (.exit 14) (((PF.nil.set 1 (.buR f.cells)).set 8 (.bool (b&&(bwO i).all ok)))) H0:=fun e=>by
  rw[e]; exact hK H0
 have hacc:=fun h=>oH (p:=ok) (b:=b) hi h
 generalize hc:(b&&(bwO i).all ok)=c at *
 simp only[go_sem,γ,uE,afW,bwN]
 by_cases hlt:i<f.buK.length
 ·have buP:(i:Int)<(f.buK.length:Nat):=by omega
  cases c with
  | false =>
   simp only[go_sem,γ,buP]
   exact Up.up Lq (stop (hacc rfl).symm)
  | true =>
   obtain⟨names,g1,g3⟩:=hG.ex
   have hat:(f.buK.map dW.cells)[i]?=some (f.buK[i]).cells:=by simp[hlt]
   have hin:i<(f.buK.map dW.name).length:=by rw[bwN]; exact hlt
   have hoki:ok i=(gI ([]++(f.buK.map dW.name).take i) ((f.buK.map dW.name).getD i [])&&(aGC f.buM.length) f.buK[i]):=by
    rw[← hok]
    unfold okL
    simp[bxI,hlt]
   rw[hoki] at buQ
   have bvW:aGC f.buM.length f.buK[i]=within (f.buK[i]).buX 0 ((f.buM.length:Int)-1):=rfl
   rw[bvW] at buQ
   simp only[go_sem,δ,γ,θ,buP,afX,hat]
   refine fL.call L.tomS (ns:=(f.buK.map dW.name)) g1 (bwZ _) Om (g3 rfl) hin (by simp only[go_sem,γ,byO]) fun w' H1 h1 hG1=>?_
   generalize gI ([]++(f.buK.map dW.name).take i) ((f.buK.map dW.name).getD i [])=fb at *
   cases fb with
   | false =>
    simp only[go_sem,γ]
    refine bM .nil (inS) PH.nil_le ?_
    simp only[go_sem,γ,reduceCtorEq,IF,IG,wZz i]
    exact fin false w' _ _ hlt (buQ.trans rfl) hG1 Lq
   | true =>
    simp only[go_sem,γ]
    refine bM .nil (inS) PH.nil_le ?_
    simp only[go_sem,δ,γ,θ,IF,hat,bwN,aeQ (Om:f.buM.length≤1000)]
    refine bF rfl (L.inn (f.buK[i]).buX 0 ((f.buM.length:Int)-1)) rfl PH.nil_le ?_
    simp only[go_sem,γ,IG,wZz i]
    exact fin _ w' _ _ hlt (buQ.trans rfl) hG1 Lq
 ·have buP:¬ (i:Int)<(f.buK.length:Nat):=by omega
  have:i=f.buK.length:=by omega
  subst this
  simp only[go_sem,γ,reduceCtorEq,buP]
  exact Up.up Lq (stop hc.symm)
def aUK:Spec:=fun name vs=>match name,vs with
 | 76,[.int _ n,.int _ lo,.int _ hi]=>some ([],fun _=>aC (.bool (within n lo hi)))
 | 74,[.agg cs]=>some ([],fun _=>aC (.bool (cC (frD cs))))
 | _,_=>none
theorem aUL (x:RF):aUK 74 [.agg x.cells]=some ([],fun _=>aC (.bool (cC x))):=by
 show some ([],fun _=>aC (.bool (cC (frD x.cells))))=_
 rw[akG]
def atH (f:aL) (i:Nat) (d:bJ):Bool :=
 within d.level 1 4&&(within d.parent 0 i&&(((f.buL.map bJ.level).getD d.parent.toNat 0==IntKind.i64.wrap (d.level-1))&&(within d.bvJ 1 64&&cC d.bvB)))
theorem a9Q (f:aL) (i:Nat) (d:bJ):DP f i d=atH f i d:=by
 unfold DP atH
 have:decide ((f.buL.map bJ.level).getD d.parent.toNat 0=IntKind.i64.wrap (d.level-1))=((f.buL.map bJ.level).getD d.parent.toNat 0==IntKind.i64.wrap (d.level-1)):=by
  generalize (f.buL.map bJ.level).getD d.parent.toNat 0=u
  by_cases h:u=IntKind.i64.wrap (d.level-1)<;>simp[h]
 rw[this]
 cases within d.parent 0 i<;>cases within d.level 1 4<;>cases within d.bvJ 1 64<;>simp
def fG (f:aL):List (List UInt8):=(f.buL.drop 1).map bJ.name
def tI (f:aL) (i:Nat):Bool:=match f.buL[i+1]? with
 | some d=>atH f i d
 | none=>false
def tK (f:aL):Bool:=(bwO (f.buL.length-1)).all (okL [] (fG f) (tI f))
theorem atG (f:aL):(fG f).length=f.buL.length-1:=by simp[fG]
theorem beH {C:Ctx} (L:oU C) (f:aL) (hf:f.Ok) (hz3:f.buL.length≤40) (h0:0<f.buL.length) (b:Bool) (K:cI) [Up K] (F:PF) (H:PH)
  (hF:(((((((PF.nil.set 1 (.buR f.cells)).set 5 (.buJ)).set 6 (.buJ)).set 7 (.buJ)).set 8 (.bool b)).set 13 (.int .i64 1)):PF).le F)
  (hK:∀ w H',fL H' w [] (fG f) (b&&tK f) (f.buL.length-1)→K (.exit 4) ((((((PF.nil.set 1 (.buR f.cells)).set 5 (w)).set 6 (.buJ)).set 7 (.buJ)).set 8 (.bool (b&&tK f)))) H'):aB.wp C (.loop uA) K F H:=by
 obtain⟨ok,hok⟩:∃ ok,okL [] (fG f) (tI f)=ok:=⟨_,rfl⟩
 unfold tK at hK
 rw[hok] at hK
 obtain⟨n,hn⟩:∃ n,f.buL.length=n+1:=⟨f.buL.length-1,by omega⟩
 have hnl:=atG f
 have hn1:f.buL.length-1=n:=by omega
 rw[hn1] at hK hnl
 refine wp_loop (α:=Nat × PV × PH) (fun s=>((((((PF.nil.set 1 (.buR f.cells)).set 5 (s.2.1)).set 6 (.buJ)).set 7 (.buJ)).set 8 (.bool (b&&(bwO s.1).all ok))).set 13 (.int .i64 (s.1+1:Nat)))) (fun s=>s.2.2) (fun s=>s.1≤n∧fL s.2.2 s.2.1 [] (fG f) (b&&(bwO s.1).all ok) s.1) (fun s=>n-s.1)
  (0,.buJ,H) ⟨bwZ _,⟨[],bA.nil.sY 1,fun _=>rfl⟩⟩ (by
   have e:(b&&(bwO 0).all ok)=b:=by cases b<;>rfl
   simp only[e]
   exact hF) PH.le_refl ?_
 rintro⟨i,w,H0⟩ ⟨hi,hG⟩
 simp only at hi hG ⊢
 have fin:∀ (c:Bool) (w':PV) (F':PF) (H':PH),i<n→(b&&(bwO (i+1)).all ok)=c→fL H' w' [] (fG f) true (i+1) →
   (((((((PF.nil.set 1 (.buR f.cells)).set 5 (w')).set 6 (.buJ)).set 7 (.buJ)).set 8 (.bool c)).set 13 (.int .i64 (i+1+1:Nat))):PF).le F' →
   eA (fun s:Nat × PV × PH=>((((((PF.nil.set 1 (.buR f.cells)).set 5 (s.2.1)).set 6 (.buJ)).set 7 (.buJ)).set 8 (.bool (b&&(bwO s.1).all ok))).set 13 (.int .i64 (s.1+1:Nat)))) (fun s=>s.2.2) (fun s=>s.1≤n∧fL s.2.2 s.2.1 [] (fG f) (b&&(bwO s.1).all ok) s.1) (fun s=>n-s.1) (n-i) K .normal F' H' :=
  fun c w' F' H' hlt hb hG' hF'=>aJ (i+1,w',H') ⟨hlt,hG'.aiU⟩ (by simp only; omega) (by simp only; rw[hb]; exact hF') PH.le_refl
 have buQ:=oI (p:=ok) i b
 have hacc:=fun h=>oH (p:=ok) (b:=b) hi h
 have stop:(b&&(bwO i).all ok)=(b&&(bwO n).all ok)→((b&&(bwO i).all ok)=true→i=n)→K (.exit 4) ((((((PF.nil.set 1 (.buR f.cells)).set 5 (w)).set 6 (.buJ)).set 7 (.buJ)).set 8 (.bool (b&&(bwO i).all ok)))) H0:=fun e e2=>by
  obtain⟨names,g1,g3⟩:=hG.ex
  have:=hK w H0 ⟨names,g1,fun h=>by
   have h':=e.trans h
   rw[g3 h',e2 h']⟩
  rwa [← e] at this
 generalize hc:(b&&(bwO i).all ok)=c at *
 simp only[go_sem,δ,γ,θ,uA,afI,bwN]
 by_cases hlt:i<n
 ·have buP:((i+1:Nat):Int)<(f.buL.length:Nat):=by omega
  cases c with
  | false =>
   simp only[go_sem,γ,buP]
   exact Up.up Lq (stop (hacc rfl).symm (fun h=>by cases h))
  | true =>
   obtain⟨names,g1,g3⟩:=hG.ex
   have hid:i+1<f.buL.length:=by omega
   have hat:=tJ hid
   have hin:i<(fG f).length:=by omega
   have hnm:(fG f)[i]=(f.buL[i+1]).name:=by simp[fG,Nat.add_comm]
   have hoki:ok i=(gI ([]++(fG f).take i) ((fG f).getD i [])&&atH f i f.buL[i+1]):=by
    rw[← hok]
    unfold okL tI
    rw[bxA hid]
   have hdo:=hf.dom _ (bwS hid)
   rw[hoki] at buQ
   unfold atH at buQ
   have e1:IntKind.i64.wrap (((i+1:Nat):Int)-1)=(i:Nat):=by rw[wrap_i64 Om Om]; omega
   have winc:IntKind.i64.wrap (((i+1:Nat):Int)+1)=((i+1+1:Nat):Int):=cY Om
   have hsm:=L.small _ hdo.1
   simp only[go_sem,δ,γ,θ,buP,afJ,hat]
   refine aP fun o ho=>?_
   have g4:=g1.new ho (.rows 7 [(f.buL[i+1]).cells])
   have g5:=g4.at 0 rfl
   simp only[go_sem,δ,γ]
   generalize H0.set o (.rows 7 [(f.buL[i+1]).cells])=H2 at *
   simp only[go_sem,δ,γ,θ,afK,g5]
   refine fL.call L.tomS (ns:=fG f) g4 (bwZ _) Om (g3 rfl) hin (by simp only[go_sem,γ,hnm]) fun w' H1 h1 hG1=>?_
   have g6:=h1.at 0 rfl
   generalize gI ([]++(fG f).take i) ((fG f).getD i [])=fb at *
   generalize hd:f.buL[i+1]=dd at *
   cases fb with
   | false =>
    simp only[go_sem,γ]
    refine bM .nil aUK PH.nil_le ?_
    simp only[go_sem,γ,reduceCtorEq,HW,lE,winc]
    exact fin false w' _ _ hlt (buQ.trans rfl) hG1 Lq
   | true =>
    simp only[go_sem,γ]
    refine bM .nil aUK PH.nil_le ?_
    simp only[go_sem,δ,γ,θ,reduceCtorEq,HW,g6]
    refine bF rfl (L.inn dd.level 1 4) rfl PH.nil_le ?_
    cases k0:within dd.level 1 4 with
    | false =>
     simp only[go_sem,γ,reduceCtorEq,lE,winc]
     exact fin false w' _ _ hlt (by rw[buQ,k0]<;>simp) hG1 Lq
    | true =>
     simp only[go_sem,δ,γ,θ,reduceCtorEq,g6,e1]
     refine bF rfl (L.inn dd.parent 0 (i:Nat)) rfl PH.nil_le ?_
     cases k1:within dd.parent 0 (i:Nat) with
     | false =>
      simp only[go_sem,γ,reduceCtorEq,lE,winc]
      exact fin false w' _ _ hlt (by rw[buQ,k0,k1]<;>simp) hG1 Lq
     | true =>
      obtain⟨p0,p1⟩:=within_iff.1 k1
      obtain⟨p,hp⟩:∃ p:Nat,dd.parent=p:=⟨dd.parent.toNat,by omega⟩
      have hpd:p<f.buL.length:=by omega
      obtain⟨lv,hlv⟩:∃ lv,(f.buL.map bJ.level).getD dd.parent.toNat 0=lv:=⟨_,rfl⟩
      have hpl:(f.buL[p]).level=lv:=by rw[← hlv,hp,bzO,mX hpd]
      rw[hlv] at buQ
      have hpat:=tJ hpd
      simp only[go_sem,δ,γ,θ,reduceCtorEq,g6,hp,hpat,hpl]
      cases k2:lv==IntKind.i64.wrap (dd.level-1) with
      | false =>
       simp only[go_sem,γ,reduceCtorEq,lE,winc]
       exact fin false w' _ _ hlt (by rw[buQ,k0,k1,k2]<;>simp) hG1 Lq
      | true =>
       simp only[go_sem,δ,γ,θ,reduceCtorEq,g6]
       refine bF rfl (L.inn dd.bvJ 1 64) rfl PH.nil_le ?_
       cases k3:within dd.bvJ 1 64 with
       | false =>
        simp only[go_sem,γ,reduceCtorEq,lE,winc]
        exact fin false w' _ _ hlt (by rw[buQ,k0,k1,k2,k3]<;>simp) hG1 Lq
       | true =>
        simp only[go_sem,δ,γ,reduceCtorEq,g6]
        refine bF (aUL _) hsm rfl PH.nil_le ?_
        simp only[go_sem,γ,lE,winc]
        exact fin _ w' _ _ hlt (by rw[buQ,k0,k1,k2,k3]<;>simp) hG1 Lq
 ·have buP:¬ ((i+1:Nat):Int)<(f.buL.length:Nat):=by omega
  have:i=n:=by omega
  subst this
  simp only[go_sem,γ,reduceCtorEq,buP]
  exact Up.up Lq (stop hc.symm (fun _=>rfl))
def atJ (f:aL) (d:cA):Bool:=within d.model 0 ((f.buI.length:Int)-1)&&(within d.machine 0 ((f.buL.length:Int)-1)&&((f.buL.map bJ.level).getD d.machine.toNat 0==4))
def jR (f:aL):List (List UInt8):=f.buH.map cA.name
def rM (f:aL) (i:Nat):Bool:=match f.buH[i]? with
 | some d=>atJ f d
 | none=>false
def uG (f:aL):Bool:=(bwO f.buH.length).all (okL (fG f) (jR f) (rM f))
theorem a2T {C:Ctx} (L:oU C) (f:aL) (hf:f.Ok) (hz3:f.buL.length≤40) (h0:0<f.buL.length) (hz4:f.buH.length≤24) (hz2:f.buI.length≤4) (b:Bool) (w0:PV) (K:cI) [Up K] (F:PF) (H:PH)
  (hG0:fL H w0 [] (fG f) b (f.buL.length-1)) (hF:(((((((PF.nil.set 1 (.buR f.cells)).set 5 (w0)).set 6 (.buJ)).set 7 (.buJ)).set 8 (.bool b)).set 15 (.int .i64 0)):PF).le F)
  (hK:∀ H',K (.exit 6) (((((PF.nil.set 1 (.buR f.cells)).set 6 (.buJ)).set 7 (.buJ)).set 8 (.bool (b&&uG f)))) H'):aB.wp C (.loop uB) K F H:=by
 obtain⟨ok,hok⟩:∃ ok,okL (fG f) (jR f) (rM f)=ok:=⟨_,rfl⟩
 unfold uG at hK
 rw[hok] at hK
 obtain⟨n,hn⟩:∃ n,f.buH.length=n:=⟨_,rfl⟩
 have hdl:=atG f
 have hnl:(jR f).length=n:=by simp[jR,hn]
 rw[hn] at hK
 refine wp_loop (α:=Nat × PV × PH) (fun s=>((((((PF.nil.set 1 (.buR f.cells)).set 5 (s.2.1)).set 6 (.buJ)).set 7 (.buJ)).set 8 (.bool (b&&(bwO s.1).all ok))).set 15 (.int .i64 s.1))) (fun s=>s.2.2) (fun s=>s.1≤n∧fL s.2.2 s.2.1 (fG f) (jR f) (b&&(bwO s.1).all ok) s.1) (fun s=>n-s.1)
  (0,w0,H) ⟨bwZ _,by
   obtain⟨names,q1,q2⟩:=hG0.ex
   have e:(b&&(bwO 0).all ok)=b:=by cases b<;>rfl
   refine⟨names,q1,fun h=>?_⟩
   simp only[e] at h
   rw[q2 h,byW,bxC Om]
   simp⟩ (by
   have e:(b&&(bwO 0).all ok)=b:=by cases b<;>rfl
   simp only[e]
   exact hF) PH.le_refl ?_
 rintro⟨i,w,H0⟩ ⟨hi,hG⟩
 simp only at hi hG ⊢
 have fin:∀ (c:Bool) (w':PV) (F':PF) (H':PH),i<n→(b&&(bwO (i+1)).all ok)=c→fL H' w' (fG f) (jR f) true (i+1) →
   (((((((PF.nil.set 1 (.buR f.cells)).set 5 (w')).set 6 (.buJ)).set 7 (.buJ)).set 8 (.bool c)).set 15 (.int .i64 (i+1:Nat))):PF).le F' →
   eA (fun s:Nat × PV × PH=>((((((PF.nil.set 1 (.buR f.cells)).set 5 (s.2.1)).set 6 (.buJ)).set 7 (.buJ)).set 8 (.bool (b&&(bwO s.1).all ok))).set 15 (.int .i64 s.1))) (fun s=>s.2.2) (fun s=>s.1≤n∧fL s.2.2 s.2.1 (fG f) (jR f) (b&&(bwO s.1).all ok) s.1) (fun s=>n-s.1) (n-i) K .normal F' H' :=
  fun c w' F' H' hlt hb hG' hF'=>aJ (i+1,w',H') ⟨hlt,hG'.aiU⟩ (by simp only; omega) (by simp only; rw[hb]; exact hF') PH.le_refl
 have buQ:=oI (p:=ok) i b
 have hacc:=fun h=>oH (p:=ok) (b:=b) hi h
 have stop:(b&&(bwO i).all ok)=(b&&(bwO n).all ok)→K (.exit 6) (((((PF.nil.set 1 (.buR f.cells)).set 6 (.buJ)).set 7 (.buJ)).set 8 (.bool (b&&(bwO i).all ok)))) H0:=fun e=>by
  rw[e]; exact hK H0
 generalize hc:(b&&(bwO i).all ok)=c at *
 simp only[go_sem,δ,γ,θ,uB,afL,bwN]
 by_cases hlt:i<n
 ·have buP:((i:Nat):Int)<(f.buH.length:Nat):=by omega
  cases c with
  | false =>
   simp only[go_sem,γ,buP]
   exact Up.up Lq (stop (hacc rfl).symm)
  | true =>
   obtain⟨names,g1,g3⟩:=hG.ex
   have hid:i<f.buH.length:=by omega
   have hat:=ajS hid
   have hin:i<(jR f).length:=by omega
   have hnm:(jR f)[i]=(f.buH[i]).name:=by simp[jR]
   have hoki:ok i=(gI (fG f++(jR f).take i) ((jR f).getD i [])&&atJ f f.buH[i]):=by
    rw[← hok]
    unfold okL rM
    rw[bxA hid]
   rw[hoki] at buQ
   unfold atJ at buQ
   have winc:IntKind.i64.wrap ((i:Int)+1)=((i+1:Nat):Int):=cY Om
   have e1:=aeQ (Om:f.buI.length≤1000)
   have e2:=aeQ (Om:f.buL.length≤1000)
   simp only[go_sem,δ,γ,θ,buP,afM,hat]
   refine aP fun o ho=>?_
   have g4:=g1.new ho (.rows 3 [(f.buH[i]).cells])
   have g5:=g4.at 0 rfl
   simp only[go_sem,δ,γ]
   generalize H0.set o (.rows 3 [(f.buH[i]).cells])=H2 at *
   simp only[go_sem,δ,γ,θ,afN,g5]
   refine fL.call L.tomS (base:=fG f) (ns:=jR f) g4 Om Om (g3 rfl) hin (by simp only[go_sem,γ,hnm]) fun w' H1 h1 hG1=>?_
   have g6:=h1.at 0 rfl
   generalize gI (fG f++(jR f).take i) ((jR f).getD i [])=fb at *
   generalize hd:f.buH[i]=dd at *
   cases fb with
   | false =>
    simp only[go_sem,γ,reduceCtorEq,HY,qO,winc]
    exact fin false w' _ _ hlt (buQ.trans rfl) hG1 Lq
   | true =>
    simp only[go_sem,δ,γ,θ,HY,g6,bwN,e1]
    refine aA (L.inn dd.model 0 ((f.buI.length:Int)-1)) rfl ?_
    cases k0:within dd.model 0 ((f.buI.length:Int)-1) with
    | false =>
     simp only[go_sem,γ,reduceCtorEq,qO,winc]
     exact fin false w' _ _ hlt (by rw[buQ,k0]<;>simp) hG1 Lq
    | true =>
     simp only[go_sem,δ,γ,θ,g6,bwN,e2]
     refine aA (L.inn dd.machine 0 ((f.buL.length:Int)-1)) rfl ?_
     cases k1:within dd.machine 0 ((f.buL.length:Int)-1) with
     | false =>
      simp only[go_sem,γ,reduceCtorEq,qO,winc]
      exact fin false w' _ _ hlt (by rw[buQ,k0,k1]<;>simp) hG1 Lq
     | true =>
      obtain⟨p0,p1⟩:=within_iff.1 k1
      obtain⟨p,hp⟩:∃ p:Nat,dd.machine=p:=⟨dd.machine.toNat,by omega⟩
      have hpd:p<f.buL.length:=by omega
      obtain⟨lv,hlv⟩:∃ lv,(f.buL.map bJ.level).getD dd.machine.toNat 0=lv:=⟨_,rfl⟩
      have hpl:(f.buL[p]).level=lv:=by rw[← hlv,hp,bzO,mX hpd]
      rw[hlv] at buQ
      have hpat:=tJ hpd
      simp only[go_sem,δ,γ,θ,g6,hp,hpat,hpl,qO,winc]
      exact fin _ w' _ _ hlt (by rw[buQ,k0,k1]<;>simp) hG1 Lq
 ·have buP:¬ ((i:Nat):Int)<(f.buH.length:Nat):=by omega
  have:i=n:=by omega
  subst this
  simp only[go_sem,γ,reduceCtorEq,buP]
  exact Up.up Lq (stop hc.symm)
theorem UO {xs:List Int} {k:Nat} (h:k<xs.length):(xs.map fun x=>[PV.int .i64 x])[k]?=some [.int .i64 xs[k]]:=by simp[h]
def zpF (f:aL) (w:PV) (o i:Nat) (c:Bool) (j:Nat):PF:=(((((((PF.nil.set 1 (.buR f.cells)).set 6 (w)).set 7 (.buJ)).set 8 (.bool c)).set 17 (.int .i64 i)).set 18 (.ptr o 17 0 0)).set 19 (.int .i64 j))
theorem a8G {C:Ctx} (f:aL) (w:PV) (o i:Nat) (p:cV) (hl:p.buI.length≤9223372036854775807) (j:Nat) (hj:j<p.buI.length) (b:Bool) (K:cI) [Up K] (F:PF) (H:PH) (ho:H o=some (.rows 17 [p.cells])) (hF:((zpF f w o i b j).set 20 (.int .i64 0)).le F)
  (hK:K (.exit 12) (zpF f w o i (b&&(p.buI.take j).all fun x=>x != p.buI[j]) j) H):aB.wp C (.loop HS) K F H:=by
 refine wp_loop (α:=Nat) (fun k=>(zpF f w o i (b&&(p.buI.take k).all fun x=>x != p.buI[j]) j).set 20 (.int .i64 k)) (fun _=>H) (fun k=>k≤j) (fun k=>j-k) 0 (bwZ _) (by
   have e:(b&&(p.buI.take 0).all fun x=>x != p.buI[j])=b:=by cases b<;>rfl
   simp only[e]
   exact hF) PH.le_refl ?_
 intro k hk
 have hs:∀ h:k<p.buI.length,(b&&(p.buI.take (k+1)).all fun x=>x != p.buI[j])=((b&&(p.buI.take k).all fun x=>x != p.buI[j])&&(p.buI[k] != p.buI[j])):=fun h=>by
  rw[byH h,List.all_append]
  simp[bzI]
 have fin:∀ (c:Bool) (F':PF),k<j→(b&&(p.buI.take (k+1)).all fun x=>x != p.buI[j])=c→((zpF f w o i c j).set 20 (.int .i64 (k+1:Nat))).le F'→eA (fun k:Nat=>(zpF f w o i (b&&(p.buI.take k).all fun x=>x != p.buI[j]) j).set 20 (.int .i64 k)) (fun _=>H) (fun k=>k≤j) (fun k=>j-k) (j-k) K .normal F' H :=
  fun c F' hlt e h=>aJ (k+1) hlt Om (by rw[e]; exact h) PH.le_refl
 unfold zpF at fin
 simp only[go_sem,γ,HS,afU,zpF]
 by_cases hlt:k<j
 ·have buP:(k:Int)<(j:Nat):=by omega
  have hk2:k<p.buI.length:=by omega
  have hs:=hs hk2
  generalize (b&&(p.buI.take k).all fun x=>x != p.buI[j])=c at *
  simp only[go_sem,buP]
  refine bM .nil dV PH.nil_le ?_
  cases c with
  | false =>
   simp only[go_sem,γ,reduceCtorEq,IB,IC,wZz k]
   exact fin false _ hlt (hs.trans rfl) Lq
  | true =>
   simp only[go_sem,δ,γ,θ,reduceCtorEq,IB,ho,UO hk2,UO hj,IC,wZz k]
   exact fin _ _ hlt (hs.trans rfl) Lq
 ·have buP:¬ (k:Int)<(j:Nat):=by omega
  have:k=j:=by omega
  subst this
  simp only[go_sem,buP]
  exact Up.up (by (repeat' (first|exact PF.nil_le|refine PF.aH ?_ ?_))<;>first|(simp only[go_sem,γ,zpF]<;>rfl)|rfl) hK
def FT (buI:Nat) (ms:List Int) (j:Nat):Bool:=within (ms.getD j 0) 0 ((buI:Int)-1)&&(ms.take j).all fun x=>x != ms.getD j 0
theorem a2O {C:Ctx} (L:oU C) (f:aL) (hz2:f.buI.length≤4) (w:PV) (o i:Nat) (p:cV) (hl:p.buI.length≤9223372036854775807) (b:Bool) (K:cI) [Up K] (F:PF) (H:PH) (ho:H o=some (.rows 17 [p.cells])) (hF:(zpF f w o i b 0).le F)
  (hK:K (.exit 10) ((((((PF.nil.set 1 (.buR f.cells)).set 6 (w)).set 7 (.buJ)).set 8 (.bool (b&&(bwO p.buI.length).all (FT f.buI.length p.buI)))).set 17 (.int .i64 i))) H):aB.wp C (.loop uC) K F H:=by
 obtain⟨ok,hok⟩:∃ ok,FT f.buI.length p.buI=ok:=⟨_,rfl⟩
 rw[hok] at hK
 refine wp_loop (α:=Nat) (fun j=>zpF f w o i (b&&(bwO j).all ok) j) (fun _=>H) (fun j=>j≤p.buI.length) (fun j=>p.buI.length-j) 0 (bwZ _) (by
   have e:(b&&(bwO 0).all ok)=b:=by cases b<;>rfl
   simp only[e]
   exact hF) PH.le_refl ?_
 intro j hj
 have buQ:=oI (p:=ok) j b
 have hacc:=fun h=>oH (p:=ok) (b:=b) hj h
 have fin:∀ (c:Bool) (F':PF),j<p.buI.length→(b&&(bwO (j+1)).all ok)=c→(zpF f w o i c (j+1)).le F'→eA (fun j:Nat=>zpF f w o i (b&&(bwO j).all ok) j) (fun _=>H) (fun j=>j≤p.buI.length) (fun j=>p.buI.length-j) (p.buI.length-j) K .normal F' H :=
  fun c F' hlt e h=>aJ (j+1) hlt Om (by rw[e]; exact h) PH.le_refl
 unfold zpF at fin
 have stop:(b&&(bwO j).all ok)=(b&&(bwO p.buI.length).all ok)→K (.exit 10) ((((((PF.nil.set 1 (.buR f.cells)).set 6 (w)).set 7 (.buJ)).set 8 (.bool (b&&(bwO j).all ok))).set 17 (.int .i64 i))) H:=fun e=>by
  rw[e]; exact hK
 generalize hc:(b&&(bwO j).all ok)=c at *
 simp only[go_sem,δ,γ,θ,uC,afR,zpF,ho,bwN]
 by_cases hlt:j<p.buI.length
 ·have buP:(j:Int)<(p.buI.length:Nat):=by omega
  cases c with
  | false =>
   simp only[go_sem,γ,buP]
   exact Up.up Lq (stop (hacc rfl).symm)
  | true =>
   have e1:=aeQ (Om:f.buI.length≤1000)
   have hg:p.buI.getD j 0=p.buI[j]:=by simp[bxI,hlt]
   have hoj:ok j=(within p.buI[j] 0 ((f.buI.length:Int)-1)&&(p.buI.take j).all fun x=>x != p.buI[j]):=by
    rw[← hok]
    unfold FT
    rw[hg]
   rw[hoj] at buQ
   simp only[go_sem,γ,buP]
   refine bM .nil aUK PH.nil_le ?_
   simp only[go_sem,δ,γ,θ,reduceCtorEq,afS,ho,UO hlt,bwN,e1]
   refine bF rfl (L.inn p.buI[j] 0 ((f.buI.length:Int)-1)) Sq PH.nil_le ?_
   simp only[go_sem,γ,afT]
   refine a8G f w o i p hl j hlt (within p.buI[j] 0 ((f.buI.length:Int)-1)) _ _ _ ho (by (repeat' (first|exact PF.nil_le|refine PF.aH ?_ ?_))<;>first|(simp only[go_sem,γ,zpF]<;>rfl)|rfl) ?_
   simp only[go_sem,γ,zpF,afV,wZz j]
   exact fin _ _ hlt (buQ.trans rfl) Lq
 ·have buP:¬ (j:Int)<(p.buI.length:Nat):=by omega
  have:j=p.buI.length:=by omega
  subst this
  simp only[go_sem,γ,reduceCtorEq,buP]
  exact Up.up Lq (stop hc.symm)
def aBL (buI:Nat) (p:cV):Bool:=FJ p.k p.m p.bvN p.s0 p.s1 p.s2 p.s3 p.s4&&(JM p.m p.repair p.target p.buV&&(decide (p.buI.length>0)&&(bwO p.buI.length).all (FT buI p.buI)))
theorem bcJ (buI:Nat) (p:cV):gX buI p=aBL buI p:=by
 unfold gX aBL
 rw[bcE,beZ]
 have h1:decide (p.buI.length≠0)=decide (p.buI.length>0):=decide_eq_decide.2 Om
 have h2:(bwO p.buI.length).all (fun j=>within (p.buI.getD j 0) 0 ((buI:Int)-1)&&!(p.buI.take j).contains (p.buI.getD j 0))=(bwO p.buI.length).all (FT buI p.buI):=by
  congr 1
  funext j
  unfold FT
  congr 1
  generalize p.buI.getD j 0=x
  induction p.buI.take j with
  | nil=>rfl
  | cons a t ih =>
   rw[List.contains_cons,List.all_cons,← ih,Bool.not_or,bne,BEq.comm]
 rw[h1,h2]
 cases FJ p.k p.m p.bvN p.s0 p.s1 p.s2 p.s3 p.s4<;>cases JM p.m p.repair p.target p.buV<;>cases decide (p.buI.length>0)<;>simp
structure agD (C:Ctx):Prop extends oU C where
 dur:∀ (m:Int) (rep:List RF),iR rep→∀ t h:RF,t.Ok→h.Ok→aE C 69 [.int .i64 m,frs rep,.agg t.cells,.agg h.cells] .nil (aC (.bool (JM m rep t h)))
def jD (f:aL):List (List UInt8):=f.buM.map cV.name
def FS (f:aL) (i:Nat):Bool:=match f.buM[i]? with
 | some p=>aBL f.buI.length p
 | none=>false
def abN (f:aL):Bool:=(bwO f.buM.length).all (okL [] (jD f) (FS f))
theorem beJ {C:Ctx} (L:agD C) (f:aL) (hf:f.Ok) (hz5:f.buM.length≤4) (hz2:f.buI.length≤4) (b:Bool) (K:cI) [Up K] (F:PF) (H:PH)
  (hF:((((((PF.nil.set 1 (.buR f.cells)).set 6 (.buJ)).set 7 (.buJ)).set 8 (.bool b)).set 17 (.int .i64 0)):PF).le F)
  (hK:∀ H',K (.exit 8) ((((PF.nil.set 1 (.buR f.cells)).set 7 (.buJ)).set 8 (.bool (b&&abN f)))) H'):aB.wp C (.loop uD) K F H:=by
 obtain⟨ok,hok⟩:∃ ok,okL [] (jD f) (FS f)=ok:=⟨_,rfl⟩
 unfold abN at hK
 rw[hok] at hK
 have hnl:(jD f).length=f.buM.length:=by simp[jD]
 refine wp_loop (α:=Nat × PV × PH) (fun s=>(((((PF.nil.set 1 (.buR f.cells)).set 6 (s.2.1)).set 7 (.buJ)).set 8 (.bool (b&&(bwO s.1).all ok))).set 17 (.int .i64 s.1))) (fun s=>s.2.2) (fun s=>s.1≤f.buM.length∧fL s.2.2 s.2.1 [] (jD f) (b&&(bwO s.1).all ok) s.1) (fun s=>f.buM.length-s.1)
  (0,.buJ,H) ⟨bwZ _,⟨[],bA.nil.sY 1,fun _=>rfl⟩⟩ (by
   have e:(b&&(bwO 0).all ok)=b:=by cases b<;>rfl
   simp only[e]
   exact hF) PH.le_refl ?_
 rintro⟨i,w,H0⟩ ⟨hi,hG⟩
 simp only at hi hG ⊢
 have fin:∀ (c:Bool) (w':PV) (F':PF) (H':PH),i<f.buM.length→(b&&(bwO (i+1)).all ok)=c→fL H' w' [] (jD f) true (i+1) →
   ((((((PF.nil.set 1 (.buR f.cells)).set 6 (w')).set 7 (.buJ)).set 8 (.bool c)).set 17 (.int .i64 (i+1:Nat))):PF).le F' →
   eA (fun s:Nat × PV × PH=>(((((PF.nil.set 1 (.buR f.cells)).set 6 (s.2.1)).set 7 (.buJ)).set 8 (.bool (b&&(bwO s.1).all ok))).set 17 (.int .i64 s.1))) (fun s=>s.2.2) (fun s=>s.1≤f.buM.length∧fL s.2.2 s.2.1 [] (jD f) (b&&(bwO s.1).all ok) s.1) (fun s=>f.buM.length-s.1) (f.buM.length-i) K .normal F' H' :=
  fun c w' F' H' hlt hb hG' hF'=>aJ (i+1,w',H') ⟨hlt,hG'.aiU⟩ (by simp only; omega) (by simp only; rw[hb]; exact hF') PH.le_refl
 have buQ:=oI (p:=ok) i b
 have hacc:=fun h=>oH (p:=ok) (b:=b) hi h
 have stop:(b&&(bwO i).all ok)=(b&&(bwO f.buM.length).all ok)→K (.exit 8) ((((PF.nil.set 1 (.buR f.cells)).set 7 (.buJ)).set 8 (.bool (b&&(bwO i).all ok)))) H0:=fun e=>by
  rw[e]; exact hK H0
 generalize hc:(b&&(bwO i).all ok)=c at *
 simp only[go_sem,δ,γ,θ,uD,afO,bwN]
 by_cases hlt:i<f.buM.length
 ·have buP:(i:Int)<(f.buM.length:Nat):=by omega
  cases c with
  | false =>
   simp only[go_sem,γ,buP]
   exact Up.up Lq (stop (hacc rfl).symm)
  | true =>
   obtain⟨names,g1,g3⟩:=hG.ex
   have hat:=nZ hlt
   have hin:i<(jD f).length:=by omega
   have hnm:(jD f)[i]=(f.buM[i]).name:=by simp[jD]
   have hoki:ok i=(gI ([]++(jD f).take i) ((jD f).getD i [])&&aBL f.buI.length f.buM[i]):=by
    rw[← hok]
    unfold okL FS
    rw[bxA hlt]
   have hpo:=hf.buX _ (bwS hlt)
   rw[hoki] at buQ
   unfold aBL at buQ
   have winc:IntKind.i64.wrap ((i:Int)+1)=((i+1:Nat):Int):=cY Om
   simp only[go_sem,δ,γ,θ,buP,afP,hat]
   refine aP fun o ho=>?_
   have g4:=g1.new ho (.rows 17 [(f.buM[i]).cells])
   have g5:=g4.at 0 rfl
   simp only[go_sem,δ,γ]
   generalize H0.set o (.rows 17 [(f.buM[i]).cells])=H2 at *
   simp only[go_sem,δ,γ,θ,afQ,g5]
   refine fL.call L.tomS (ns:=jD f) g4 (bwZ _) Om (g3 rfl) hin (by simp only[go_sem,γ,hnm]) fun w' H1 h1 hG1=>?_
   have g6:=h1.at 0 rfl
   generalize gI ([]++(jD f).take i) ((jD f).getD i [])=fb at *
   generalize hd:f.buM[i]=p at *
   have rest:∀ (c:Bool) (F':PF),(zpF f w' o i c 0).le F'→(c&&(bwO p.buI.length).all (FT f.buI.length p.buI))=(b&&(bwO (i+1)).all ok) →
     aB.wp C (.loop uC) (dR 10 (dR 9 (gW C (aB.wp C (.region ID)) (eA (fun s:Nat × PV × PH=>(((((PF.nil.set 1 (.buR f.cells)).set 6 (s.2.1)).set 7 (.buJ)).set 8 (.bool (b&&(bwO s.1).all ok))).set 17 (.int .i64 s.1))) (fun s=>s.2.2) (fun s=>s.1≤f.buM.length∧fL s.2.2 s.2.1 [] (jD f) (b&&(bwO s.1).all ok) s.1) (fun s=>f.buM.length-s.1) (f.buM.length-i) K)))) F' H1:=by
    intro c F' hF' hcc
    refine a2O L.tooU f hz2 w' o i p hpo.buI c _ _ _ g6 hF' ?_
    rw[hcc]
    simp only[go_sem,γ,ID,winc]
    exact fin _ w' _ _ hlt rfl hG1 Lq
   cases fb with
   | false =>
    simp only[go_sem,γ,reduceCtorEq,IA,qP]
    exact rest false _ (by (repeat' (first|exact PF.nil_le|refine PF.aH ?_ ?_))<;>first|(simp only[go_sem,γ,zpF]<;>rfl)|rfl) (by rw[buQ]; rfl)
   | true =>
    simp only[go_sem,δ,γ,θ,IA,g6]
    refine aA (L.nums p.k p.m p.bvN p.s0 p.s1 p.s2 p.s3 p.s4) Sq ?_
    cases k0:FJ p.k p.m p.bvN p.s0 p.s1 p.s2 p.s3 p.s4 with
    | false =>
     simp only[go_sem,γ,reduceCtorEq,qP]
     exact rest false _ (by (repeat' (first|exact PF.nil_le|refine PF.aH ?_ ?_))<;>first|(simp only[go_sem,γ,zpF]<;>rfl)|rfl) (by rw[buQ,k0]; rfl)
    | true =>
     simp only[go_sem,δ,γ,θ,g6]
     refine aA (L.dur p.m p.repair hpo.repair p.target p.buV hpo.target hpo.buV) Sq ?_
     cases k1:JM p.m p.repair p.target p.buV with
     | false =>
      simp only[go_sem,γ,reduceCtorEq,qP]
      exact rest false _ (by (repeat' (first|exact PF.nil_le|refine PF.aH ?_ ?_))<;>first|(simp only[go_sem,γ,zpF]<;>rfl)|rfl) (by rw[buQ,k0,k1]; rfl)
     | true =>
      have hgt:decide (((p.buI.length:Nat):Int)>0)=decide (p.buI.length>0):=decide_eq_decide.2 Om
      simp only[go_sem,δ,γ,θ,g6,bwN,hgt,qP]
      exact rest _ _ (by (repeat' (first|exact PF.nil_le|refine PF.aH ?_ ?_))<;>first|(simp only[go_sem,γ,zpF]<;>rfl)|rfl) (by rw[buQ,k0,k1]; rfl)
 ·have buP:¬ (i:Int)<(f.buM.length:Nat):=by omega
  have:i=f.buM.length:=by omega
  subst this
  simp only[go_sem,γ,reduceCtorEq,buP]
  exact Up.up Lq (stop hc.symm)
def nH (r:bJ):Bool:=(r.name==[])&&((r.level==0)&&((r.parent==-1)&&((r.bvJ==0)&&(cH (val r.bvB.num) (val r.bvB.den)&&(oG r.bvB==0)))))
def aVX (f:aL):Bool:=match f.buL with
 | []=>false
 | r::_=>nH r
def a6J (f:aL):Bool:=within f.bvX 1 4&&(mO f.buS.length f.buI.length f.buL.length f.buH.length f.buM.length f.buK.length&&(decide (0<f.buL.length)&&((((((ER f&&uO f)&&aVX f)&&tK f)&&uG f)&&abN f)&&arB f)))
theorem aIM (n:Nat) (p q:Nat→Bool):(bwO n).all (fun i=>p i&&q i)=((bwO n).all p&&(bwO n).all q):=by
 induction n with
 | zero=>rfl
 | succ n ih =>
  simp only[List.range_succ,List.all_append,ih,List.all_cons,List.all_nil,byL]
  cases (bwO n).all p<;>cases (bwO n).all q<;>cases p n<;>simp
theorem uV {α:Type} (l:List α) (p:α→Bool):(bwO l.length).all (fun i=>(l.map p).getD i false)=l.all p:=by
 refine Bool.eq_iff_iff.2 ?_
 rw[bxL,bxL]
 constructor
 ·intro h x hx
  obtain⟨i,hi,rfl⟩:=byP hx
  have:=h i (byD.2 hi)
  simpa [bxI,hi] using this
 ·intro h i hi
  have hi:=byD.1 hi
  simp[bxI,hi,h _ (bwS hi)]
theorem BJ (ns:List (List UInt8)) (n:Nat) (hn:ns.length=n) (P:Nat→Bool):(bwO n).all (okL [] ns P)=(distinct ns&&(bwO n).all P):=by
 subst hn
 have:okL [] ns P=fun i=>(isName (ns.getD i [])&&!(ns.take i).contains (ns.getD i []))&&P i:=by
  funext i
  rfl
 rw[this,aIM]
 rfl
theorem bcF (base ns:List (List UInt8)) (P Q:Nat→Bool):((bwO base.length).all (okL [] base P)&&(bwO ns.length).all (okL base ns Q))=(distinct (base++ns)&&((bwO base.length).all P&&(bwO ns.length).all Q)):=by
 have e1:okL base ns Q=fun i=>(isName (ns.getD i [])&&!(base++ns.take i).contains (ns.getD i []))&&Q i:=by
  funext i
  rfl
 have e2:distinct (base++ns)=(distinct base&&(bwO ns.length).all fun i=>isName (ns.getD i [])&&!(base++ns.take i).contains (ns.getD i [])):=by
  unfold distinct
  rw[bwW,List.range_add,List.all_append,List.all_map]
  congr 1
  ·refine Bool.eq_iff_iff.2 ?_
   rw[bxL,bxL]
   refine forall_congr' fun i=>forall_congr' fun hi=>?_
   have hi:=byD.1 hi
   have a1:(base++ns).getD i []=base.getD i []:=by
    simp only[bxI]
    rw[bzJ hi]
   have a2:(base++ns).take i=base.take i:=by rw[List.take_append_of_le_length Om]
   rw[a1,a2]
  ·refine Bool.eq_iff_iff.2 ?_
   rw[bxL,bxL]
   refine forall_congr' fun i=>forall_congr' fun _=>?_
   have a1:(base++ns).getD (base.length+i) []=ns.getD i []:=by
    simp only[bxI]
    rw[bzA Om]
    congr 2
    omega
   have a2:(base++ns).take (base.length+i)=base++ns.take i:=by rw[List.take_append,bxC Om]; congr 2; omega
   simp only[Function.comp,a1,a2]
 rw[BJ base base.length rfl P,e1,aIM,e2]
 cases distinct base<;>cases (bwO base.length).all P<;>simp
theorem a6L (r:bJ):(decide (r.name=[])&&decide (r.level=0)&&decide (r.parent=-1)&&decide (r.bvJ=0)&&cC r.bvB&&!bW r.bvB)=nH r:=by
 have h1:decide (r.name=[])=(r.name==[]):=by cases r.name<;>rfl
 have h2:decide (r.level=0)=(r.level==0):=by generalize r.level=x; by_cases h:x=0<;>simp[h]
 have h3:decide (r.parent=-1)=(r.parent==-1):=by generalize r.parent=x; by_cases h:x=-1<;>simp[h]
 have h4:decide (r.bvJ=0)=(r.bvJ==0):=by generalize r.bvJ=x; by_cases h:x=0<;>simp[h]
 have h5:(cC r.bvB&&!bW r.bvB)=(cH (val r.bvB.num) (val r.bvB.den)&&(oG r.bvB==0)):=by
  rw[GD]
  by_cases h:val r.bvB.num=0
  ·have ha:bW r.bvB=false:=by unfold bW; simp[h]
   rw[ha]
   simp only[bxB,byL]
   cases hv:cH (val r.bvB.num) (val r.bvB.den) with
   | false =>
    unfold cC lN
    rw[hv]
    rfl
   | true =>
    obtain⟨v1,-,-⟩:=eR.1 hv
    unfold cC lN
    rw[hv,if_pos rfl,UP hv,h]
    unfold kD
    have hb:val r.bvB.den/bwQ 0 (val r.bvB.den)=1:=by rw[Nat.gcd_zero_left,Nat.div_self (byN v1)]
    have b0:bZ (0/bwQ 0 (val r.bvB.den))=0:=by rw[Nat.zero_div]; exact gU
    have b1:bZ 1=1:=by rw[mI (by decide),gU]
    simp only[hb,b0,b1]
    simp
  ·have ha:bW r.bvB=true:=by unfold bW; simp[h]
   rw[ha]
   simp
 unfold nH
 rw[h1,h2,h3,h4]
 simp only[bzI] at h5 ⊢
 rw[h5]
theorem a3X (f:aL) {r:bJ} {t:List bJ} (h:f.buL=r::t):wR f r t=(nH r&&(bwO t.length).all (tI f)):=by
 unfold wR
 rw[a6L]
 congr 2
 funext i
 unfold tI
 rw[h,List.getElem?_cons_succ]
 cases t[i]? with
 | none=>rfl
 | some d=>exact a9Q f i d
theorem aXZ (f:aL):f.buH.all (fV f)=(bwO f.buH.length).all (rM f):=by
 have:rM f=fun i=>(f.buH.map (fV f)).getD i false:=by
  funext i
  unfold rM
  rw[bxI,bxW]
  cases f.buH[i]? with
  | none=>rfl
  | some d =>
   show atJ f d=fV f d
   unfold atJ fV
   have:decide ((f.buL.map bJ.level).getD d.machine.toNat 0=4)=((f.buL.map bJ.level).getD d.machine.toNat 0==4):=by
    generalize (f.buL.map bJ.level).getD d.machine.toNat 0=u
    by_cases h:u=4<;>simp[h]
   rw[this,bzI]
 rw[this,uV]
theorem a0J (f:aL):f.buM.all (gX f.buI.length)=(bwO f.buM.length).all (FS f):=by
 have:FS f=fun i=>(f.buM.map (gX f.buI.length)).getD i false:=by
  funext i
  unfold FS
  rw[bxI,bxW]
  cases f.buM[i]? with
  | none=>rfl
  | some d=>exact (bcJ _ d).symm
 rw[this,uV]
theorem bcO (f:aL):a6J f=dH f:=by
 have hm:ahE f.buS.length=iJ f:=by
  funext m
  unfold ahE iJ
  rw[bzI]
 have hvv:aGC f.buM.length=lO f:=rfl
 have hs:(within f.bvX 1 4&&mO f.buS.length f.buI.length f.buL.length f.buH.length f.buM.length f.buK.length)=kR f:=by
  unfold kR mO
  simp only[bzI]
 unfold a6J dH ER uO abN arB
 rw[BJ _ _ (by rw[bwN]),BJ _ _ (by rw[bwN]),BJ _ _ (by rw[jD,bwN]),BJ _ _ (by rw[bwN]),uV,uV,uV,hm,hvv,a0J,aXZ,← bzI,hs]
 unfold lT aVX
 cases hd:f.buL with
 | nil=>simp
 | cons r t =>
  have hlen:decide (0<f.buL.length)=true:=by rw[hd]; simp
  rw[hd] at hlen
  rw[hlen,bwY]
  simp only
  rw[a3X f hd]
  have hn:fG f=(f.buL.drop 1).map bJ.name:=rfl
  rw[hd] at hn
  have hl:(fG f).length=t.length:=by rw[hn]; simp
  have two:=bcF (fG f) (jR f) (tI f) (rM f)
  rw[hl,show (jR f).length=f.buH.length by simp[jR]] at two
  have e1:tK f=(bwO t.length).all (okL [] (fG f) (tI f)):=by
   unfold tK
   rw[hd]
   rfl
  have e2:uG f=(bwO f.buH.length).all (okL (fG f) (jR f) (rM f)):=rfl
  rw[e1,e2,← hn]
  rw[show f.buH.map cA.name=jR f from rfl,show f.buM.map cV.name=jD f from rfl]
  generalize (bwO t.length).all (okL [] (fG f) (tI f))=a at *
  generalize (bwO f.buH.length).all (okL (fG f) (jR f) (rM f))=b at *
  generalize distinct (fG f++jR f)=c at *
  generalize (bwO t.length).all (tI f)=d at *
  generalize (bwO f.buH.length).all (rM f)=e at *
  generalize kR f=s
  generalize nH r=ro
  generalize distinct (f.buS.map cD.name)=n1
  generalize f.buS.all jN=n2
  generalize distinct (f.buI.map cP.name)=n3
  generalize f.buI.all (iJ f)=n4
  generalize distinct (jD f)=n5
  generalize (bwO f.buM.length).all (FS f)=n6
  generalize distinct (f.buK.map dW.name)=n7
  generalize f.buK.all (lO f)=n8
  have:(s&&(((((((n1&&n2)&&(n3&&n4))&&ro)&&a)&&b)&&(n5&&n6))&&(n7&&n8)))=(s&&(ro&&((n1&&n2)&&((n3&&n4)&&((a&&b)&&((n5&&n6)&&(n7&&n8))))))):=by
   cases s<;>cases ro<;>cases n1<;>cases n2<;>cases n3<;>cases n4<;>simp[bzI]
  rw[this,two]
  cases s<;>cases ro<;>cases n1<;>cases n2<;>cases n3<;>cases n4<;>cases c<;>cases d<;>cases e<;>simp
  cases n5<;>cases n6<;>cases n7<;>cases n8<;>rfl
theorem a6K (f:aL) (h:0<f.buL.length):aVX f=nH f.buL[0]:=by
 obtain⟨a,b,c,d,e,g,i⟩:=f
 cases d with
 | nil=>simp at h
 | cons r t=>rfl
theorem a2V {C:Ctx} (L:agD C) (f:aL) (hf:f.Ok):AN.wp C (aS OR.res (aC (.bool (dH f)))) (PF.args [.agg f.cells]) .nil:=by
 have hX:=bcO f
 unfold a6J at hX
 have fail:∀ (F:PF) (H:PH),dH f=false→F 2=some (.bool false)→aS [.tmp 2] (aC (.bool (dH f))) .ret F H:=fun F H e h=>by
  rw[e]
  exact aU (vs:=[.bool false]) (.inr rfl) .nil (by simp only[go_sem,h]) PH.nil_le ⟨rfl,rfl⟩
 simp only[go_sem,δ,γ,θ,AN,aqA,aqB,OR]
 refine aA (L.inn f.bvX 1 4) rfl ?_
 cases k0:within f.bvX 1 4 with
 | false =>
  rw[k0,bwT] at hX
  simp only[go_sem,γ,bxB,xZ]
  exact fail _ _ hX.symm rfl
 | true =>
 rw[k0,bwY] at hX
 simp only[go_sem,δ,γ,θ,bwU,bwN]
 refine aA (L.sizes f.buS.length f.buI.length f.buL.length f.buH.length f.buM.length f.buK.length) rfl ?_
 cases k1:mO f.buS.length f.buI.length f.buL.length f.buH.length f.buM.length f.buK.length with
 | false =>
  rw[k1,bwT] at hX
  simp only[go_sem,γ,reduceCtorEq,bxB,xZ]
  exact fail _ _ hX.symm rfl
 | true =>
 rw[k1,bwY] at hX
 obtain⟨hz1,hz2,hz3,hz4,hz5,hz6⟩:=MX k1
 by_cases h0:f.buL.length=0
 ·rw[decide_eq_false Om,bwT] at hX
  simp only[go_sem,δ,γ,θ,reduceCtorEq,bwU,bwN,bX (Om:((f.buL.length:Nat):Int)=0),xZ]
  exact fail _ _ hX.symm rfl
 have h00:0<f.buL.length:=by omega
 rw[decide_eq_true h00,bwY] at hX
 simp only[go_sem,δ,γ,θ,reduceCtorEq,bwU,bwN,bD (Om:((f.buL.length:Nat):Int)≠0),aqC,aqD,aqE]
 refine beI L.tooU f hf hz1 _ _ _ Lq fun H1=>?_
 simp only[go_sem,afD]
 refine a2U L.tooU f hf k1 (ER f) _ _ _ Lq fun H2=>?_
 have hd0:=tJ h00
 have hsh:=(hf.dom _ (bwS h00)).1
 have hrp:=a6K f h00
 rw[hrp] at hX
 generalize f.buL[0]=r at *
 have rest:∀ (c:Bool) (F:PF) (H:PH),((((((PF.nil.set 1 (.buR f.cells)).set 5 (.buJ)).set 6 (.buJ)).set 7 (.buJ)).set 8 (.bool c)):PF).le F→c=((ER f&&uO f)&&nH r) →
   aB.wp C (.seq (.seq (.region HV) (.block 4 (.loop uA))) (.seq (.seq (.region HX) (.block 6 (.loop uB))) (.seq (.seq (.region HZ) (.block 8 (.loop uD))) (.seq (.seq (.region IE) (.block 14 (.loop uE))) (.seq (.region IH) .ret))))) (aS [.tmp 2] (aC (.bool (dH f)))) F H:=by
  intro c F H hF hc
  refine rX _ (fun _ _ _ _ a b=>Up.up a b) hF ?_
  simp only[go_sem,HV]
  refine beH L.tooU f hf hz3 h00 c _ _ _ Lq fun w H3 hG=>?_
  simp only[go_sem,HX]
  refine a2T L.tooU f hf hz3 h00 hz4 hz2 (c&&tK f) w _ _ _ hG Lq fun H4=>?_
  simp only[go_sem,HZ]
  refine beJ L f hf hz5 hz2 ((c&&tK f)&&uG f) _ _ _ Lq fun H5=>?_
  simp only[go_sem,IE]
  refine beK L.tooU f hf k1 (((c&&tK f)&&uG f)&&abN f) _ _ _ Lq fun H6=>?_
  simp only[go_sem,γ,IH]
  refine aU (vs:=[.bool (dH f)]) (.inr rfl) .nil ?_ PH.nil_le ⟨rfl,rfl⟩
  rw[← hX,hc]
  simp only[go_sem,γ]
 simp only[aB.wp,go_sem] at rest
 simp only[go_sem,ν,δ,γ,θ,afH,hd0]
 refine aP fun o ho=>?_
 have g0:(H2.set o (.rows 7 [r.cells])) o=some (.rows 7 [r.cells]):=fJ ..
 simp only[go_sem,δ,γ]
 generalize H2.set o (.rows 7 [r.cells])=H3 at *
 cases k2:(ER f&&uO f) with
 | false =>
  simp only[go_sem,ο,γ,reduceCtorEq,HU]
  exact rest false _ _ Lq (by rw[k2]; rfl)
 | true =>
  simp only[go_sem,ο,δ,γ,θ,HU,g0]
  cases k3:r.name==[] with
  | false =>
   simp only[go_sem,ο,γ,reduceCtorEq]
   exact rest false _ _ Lq (by rw[k2]; unfold nH; rw[k3]; rfl)
  | true =>
   simp only[go_sem,ο,δ,γ,θ,g0]
   cases k4:r.level==0 with
   | false =>
    simp only[go_sem,ο,γ,reduceCtorEq]
    exact rest false _ _ Lq (by rw[k2]; unfold nH; rw[k3,k4]; rfl)
   | true =>
    simp only[go_sem,ο,δ,γ,θ,g0]
    cases k5:r.parent==-1 with
    | false =>
     simp only[go_sem,γ,reduceCtorEq]
     exact rest false _ _ Lq (by rw[k2]; unfold nH; rw[k3,k4,k5]; rfl)
    | true =>
     simp only[go_sem,δ,γ,θ,g0]
     cases k6:r.bvJ==0 with
     | false =>
      simp only[go_sem,γ,reduceCtorEq]
      exact rest false _ _ Lq (by rw[k2]; unfold nH; rw[k3,k4,k5,k6]; rfl)
     | true =>
      simp only[go_sem,δ,γ,g0]
      refine aA (L.valid _ hsh) rfl ?_
      cases k7:cH (val r.bvB.num) (val r.bvB.den) with
      | false =>
       simp only[go_sem,γ,reduceCtorEq]
       exact rest false _ _ Lq (by rw[k2]; unfold nH; rw[k3,k4,k5,k6,k7]; rfl)
      | true =>
       simp only[go_sem,δ,γ,g0]
       refine aA (L.sign _ hsh k7) rfl ?_
       simp only[go_sem,γ]
       exact rest _ _ _ Lq (by rw[k2]; unfold nH; rw[k3,k4,k5,k6,k7]; rfl)
structure cK (C:Ctx):Prop where
 r24:aM C 24 BE
 r26:aM C 26 WW
 r30:aM C 30 aDW
 r31:aM C 31 acV
 r32:aM C 32 aEI
 r33:aM C 33 udiv
 r34:aM C 34 aEX
 r35:aM C 35 adE
 r36:aM C 36 aFA
 r37:aM C 37 aFI
 r38:aM C 38 adM
 r39:aM C 39 BT
 r40:aM C 40 adD
 r41:aM C 41 NM
 r42:aM C 42 NN
 r43:aM C 43 adH
 r44:aM C 44 NW
 r45:aM C 45 uup
 r46:aM C 46 aiQ
 r47:aM C 47 aFV
 r48:aM C 48 OC
 r49:aM C 49 adP
 r50:aM C 50 QD
 r51:aM C 51 OD
 r52:aM C 52 BY
 r53:aM C 53 aeA
 r54:aM C 54 aeB
 r55:aM C 55 aGO
 r56:aM C 56 OG
 r57:aM C 57 adN
 r58:aM C 58 BV
 r59:aM C 59 aeC
 r60:aM C 60 OF
 r61:aM C 61 tT
 r62:aM C 62 CA
 r63:aM C 63 OH
 r64:aM C 64 BZ
 r65:aM C 65 CB
 r66:aM C 66 aHH
 r67:aM C 67 OR
 r68:aM C 68 aGU
 r69:aM C 69 aGS
 r70:aM C 70 OK
 r71:aM C 71 OL
 r72:aM C 72 wN
 r73:aM C 73 OP
 r74:aM C 74 OQ
 r75:aM C 75 CC
 r76:aM C 76 uT
 r82:aM C 82 abZ
 r85:aM C 85 acA
 r86:aM C 86 BR
 r89:aM C 89 aCR
 r91:aM C 91 same
 r95:aM C 95 avO
 r96:aM C 96 awJ
 r97:aM C 97 KC
 r98:aM C 98 ZN
 r99:aM C 99 ZO
 r100:aM C 100 ZP
 r101:aM C 101 gone
 r102:aM C 102 ZQ
 r103:aM C 103 KD
 r104:aM C 104 gin
 r105:aM C 105 avQ
 r106:aM C 106 avR
 r107:aM C 107 ZT
 r108:aM C 108 ZU
 r109:aM C 109 KL
 r110:aM C 110 ZV
 r111:aM C 111 agR
 r112:aM C 112 avU
 r113:aM C 113 JQ
 r114:aM C 114 atN
 r115:aM C 115 PI
 r116:aM C 116 uI
 r117:aM C 117 TU
 r118:aM C 118 KB
 r119:aM C 119 atK
 r120:aM C 120 mW
 r121:aM C 121 JZ
 r122:aM C 122 ZM
 r123:aM C 123 PR
 r124:aM C 124 BC
 r125:aM C 125 BD
 r126:aM C 126 uN
 r127:aM C 127 ayP
 r128:aM C 128 aaS
 r129:aM C 129 azF
 r130:aM C 130 azL
 r131:aM C 131 azP
 r132:aM C 132 abE
 r133:aM C 133 azV
 r134:aM C 134 aAF
 r135:aM C 135 abH
 r136:aM C 136 BH
 r137:aM C 137 KY
 r138:aM C 138 rA
 r139:aM C 139 vP
 r140:aM C 140 LE
 r141:aM C 141 LF
 r142:aM C 142 sK
 r143:aM C 143 nup
 r144:aM C 144 PM.begin
 r145:aM C 145 PM.step
 r146:aM C 146 aFC
 r153:aM C 153 BS
 r156:aM C 156 xN
 r160:aM C 160 wC
 r161:aM C 161 NF
 r240:aM C 240 DN
 r241:aM C 241 YE
 r242:aM C 242 YQ
 r243:aM C 243 asM
 r244:aM C 244 JG
 r245:aM C 245 xN
 r246:aM C 246 AX
 r247:aM C 247 MM
 r248:aM C 248 JJ
 r249:aM C 249 YP
 r250:aM C 250 BK
 r251:aM C 251 abL
 r252:aM C 252 abJ
 r253:aM C 253 BL
 r254:aM C 254 MM
 r255:aM C 255 abR
 r256:aM C 256 abQ
 r257:aM C 257 qk
 r258:aM C 258 sS
 r260:aM C 260 sM
 r261:aM C 261 MG
theorem tQ {C:Ctx} (c:cK C):oC C :=
 have len:∀ xs,Lim xs→xs.length≤35184372087808→aE C 138 [aD xs] .nil (aC (.int .i64 (nl (val xs):Nat))):=fun xs h l=>c.r138.go (aVC xs h l) rfl
 {length:=len
  large:=fun xs h l=>c.r137.go (aZJ xs (len xs h l)) rfl
  sized:=fun xs h l=>(c.r141.go (aZO xs h (len xs h l)) rfl).seen
  trim:=fun xs h l=>(c.r135.go (a5S xs h l (len xs h l)) rfl).seen
  make:=fun v h=>c.r132.go (a5P v h len) rfl
  cmp:=fun xs ys hx hy lx ly=>c.r129.go (bbU xs ys hx hy lx ly (len xs hx lx) (len ys hy ly)) rfl }
theorem bjI {C:Ctx} (c:cK C):aqR C :=
 {subtract:=fun A W Z v f o hW hv hl h1 hf bvY=>c.r142.go (aAL A W Z v f hW hv hl h1 hf bvY o) rfl
  restore:=fun A W Z v o hW hv hl h1=>c.r139.go (aHV A W Z v hW hv hl h1 o) rfl }
theorem a5M {C:Ctx} (c:cK C):arG C :=
 {L:=tQ c
  D:=bjI c
  up:=fun a s ha hs h1=>c.r143.go (bgD a s ha hs h1) rfl
  short:=fun a d ha h0 hd h1=>c.r140.go (aZM (tQ c) a d ha h0 hd h1) rfl
  lengthO:=fun xs o hx hl=>c.r138.go (aHU xs hx hl o) rfl }
theorem ayO {C:Ctx} (c:cK C) (A B:Nat) (hB:B≠0) (hA:nl A≤900) (hBl:nl B≤900):aE C 136 [aD (aF A),aD (aF B)] .nil (aC (nM A B)) :=
 (c.r136.go (aUX (a5M c) A B hB hA hBl) rfl).seen
theorem vN {C:Ctx} (c:cK C):pP C :=
 {tQ c with
  bits:=fun xs h l=>c.r128.go (a5N xs h l ((tQ c).length xs h l)) rfl
  add:=fun xs ys hx hy lx ly=>(c.r127.go (bbR (tQ c) xs ys hx hy lx ly) rfl).seen
  sub:=fun xs ys hx hy lx ly=>(c.r134.go (bcC (tQ c) xs ys hx hy lx ly) rfl).seen
  mul:=fun xs ys hx hy lx ly=>(c.r133.go (bcA (tQ c) xs ys hx hy lx ly) rfl).seen
  gcd:=fun xs ys hx hy lx ly=>(c.r131.go (bbY (tQ c) (ayO c) xs ys hx hy lx ly) rfl).seen
  div:=fun xs ys hx hy lx ly=>(c.r130.go (bbW (tQ c) (ayO c) xs ys hx hy lx ly) rfl).seen }
theorem PJ {C:Ctx} (c:cK C):CD C :=
 {vN c with
  times:=fun a b ha hb la lb na nb=>c.r121.go (aYJ (vN c) a b ha hb la lb na nb) rfl
  zero:=fun neg a b ha la=>c.r122.go (a4D (vN c) neg a b ha la) rfl
  valid:=fun neg a b ha hb la lb=>c.r118.go (aYL (vN c) neg a b ha hb la lb) rfl
  abs:=fun v h1 h2=>c.r119.go (a9T (vN c) v h1 h2) rfl
  lowest:=fun neg a b ha hb la lb na nb h0=>(c.r120.go (aTQ (vN c) neg a b ha hb la lb na nb h0) rfl).seen }
theorem aYI {C:Ctx} (c:cK C) (x y:RF) (hx:x.Ok) (hy:y.Ok):aE C 113 [.agg x.cells,.agg y.cells] .nil (aC (frV (gD x.v y.v))) :=
 (c.r113.go (a9V (PJ c) x.neg y.neg x.num x.den y.num y.den hx.1 hx.2.1 hy.1 hy.2.1 hx.2.2.1 hx.2.2.2 hy.2.2.1 hy.2.2.2) rfl).seen
theorem aTS {C:Ctx} (c:cK C):aqQ C :=
 {PJ c with
  frac:=fun n d hn hd=>(c.r115.go (a4B (PJ c) n d hn.1 hn.2 hd.1 hd.2) rfl).seen
  red:=fun x hx=>by
   rw[← aVR]
   exact (c.r116.go (aTT (PJ c) x.neg x.num x.den hx.1 hx.2.1 hx.2.2.1 hx.2.2.2) rfl).seen
  ord:=fun x y hx hy=>(c.r114.go (a9X (PJ c) x.neg y.neg x.num x.den y.num y.den hx.1 hx.2.1 hy.1 hy.2.1 hx.2.2.1 hx.2.2.2 hy.2.2.1 hy.2.2.2) rfl).seen
  plus:=aYI c
  tot:=fun l hl=>(c.r117.go (baD (PJ c) (aYI c) l hl.all hl.fits) rfl).seen }
theorem PG {C:Ctx} (c:cK C):pO C :=
 have inn:∀ n lo hi:Int,aE C 104 [.int .i64 n,.int .i64 lo,.int .i64 hi] .nil (aC (.bool (within n lo hi))):=fun n lo hi=>(c.r104.go (bfC n lo hi) rfl).seen
 have tC:∀ x:RF,x.Ok→aE C 97 [.agg x.cells] .nil (aC (.bool (bW x))):=fun x hx=>(c.r97.go (aYN (vN c) x hx) rfl).seen
 have lim:∀ x:RF,x.Ok→aE C 105 [.agg x.cells] .nil (aC (.bool (cC x))):=fun x hx=>(c.r105.go (baJ (aTS c) x hx) rfl).seen
 have letter:∀ n:Nat,aE C 126 [.int .u8 n] .nil (aC (.bool (eJ n))):=fun n=>c.r126.go (aUN n) rfl
 have digit:∀ n:Nat,aE C 124 [.int .u8 n] .nil (aC (.bool (jX n))):=fun n=>c.r124.go (aYY n) rfl
 {aTS c with
  inn:=inn
  tC:=tC
  lim:=lim
  one:=fun x hx=>(c.r101.go (baN (aTS c) x hx) rfl).seen
  allf:=fun p fn l hl h=>(c.r99.go (a4H p fn l hl h) rfl).seen
  alli:=fun p fn l hl h=>(c.r100.go (a4J p fn l hl h) rfl).seen
  allb:=fun p fn l hl h=>(c.r98.go (a4F p fn l hl h) rfl).seen
  ends1:=fun b=>(c.r103.go (aYP b) rfl).seen
  num1:=fun n=>(c.r107.go (a4O inn n) rfl).seen
  rate1:=fun x hx=>(c.r109.go (aYS lim tC x hx) rfl).seen
  name:=fun s=>c.r123.go (a5H letter (fun n=>c.r125.go (aZB letter digit n) rfl) s) rfl }
theorem aYG {C:Ctx} (c:cK C):arE C :=
 {PG c with
  num:=fun p hp=>(c.r106.go (baL (PG c) p hp) rfl).seen
  rate:=fun p hp=>(c.r108.go (a4Q (PG c) p hp) rfl).seen
  uniq:=fun l hl=>(c.r110.go (a4T (PG c) l hl) rfl).seen }
theorem aYH {C:Ctx} (c:cK C):WN C :=
 {aYG c with
  ends:=fun l hl he=>(c.r102.go (a4M (PG c) l hl he) rfl).seen }
theorem bfA {C:Ctx} (c:cK C):iW C :=
 {aYH c with
  law:=fun l hl=>(c.r95.go (baH (aYH c) l hl) rfl).seen
  pol:=fun p n hp hn=>(c.r112.go (baP (aYG c) p hp n hn) rfl).seen
  buU:=fun f hf=>(c.r111.go (baF (PG c) f hf) rfl).seen }
theorem aJU {C:Ctx} (c:cK C) (f:aL) (hf:f.Ok):aE C 96 [.agg f.cells] .nil (aC (.int .i64 (oS f))):=(c.r96.go (baR (bfA c) f hf) rfl).seen
theorem rS {C:Ctx} (c:cK C):mT C:={ trimM:=fun xs h l=>c.r38.go (a7M xs h l) rfl }
theorem a0L {C:Ctx} (c:cK C):arH C :=
 {rS c with
  make:=fun v h=>(c.r35.go (a7E (rS c) v h) rfl).seen
  large:=fun xs h l=>(c.r41.go (a1H (rS c) xs h l) rfl).seen
  cmp:=fun xs ys hx hy lx ly=>c.r32.go (bdE (rS c) xs ys hx hy lx ly) rfl }
theorem a0N {C:Ctx} (c:cK C):arK C :=
 {a0L c with
  minus:=fun a b ha hb hle hl h1=>(c.r42.go (a1J (rS c) a b ha hb hle hl h1) rfl).seen
  times:=fun a b ha hb h1 h2=>(c.r44.go (a1L (rS c) a b ha hb h1 h2) rfl).seen }
theorem aCD {C:Ctx} (c:cK C):WS C :=
 {a0N c with
  plus:=fun a b ha hb h1 h2=>(c.r43.go (a7K (rS c) a b ha hb h1 h2) rfl).seen }
theorem bgI {C:Ctx} (c:cK C):IV C :=
 {aCD c with
  bits:=fun xs h l=>c.r31.go (a6Y (rS c) xs h l) rfl
  upM:=fun a n ha h1 hn h0=>c.r45.go (bgV (rS c) a n ha h1 hn h0) rfl
  down:=fun a n ha h1 hn=>(c.r40.go (a7C (rS c) a n ha h1 hn) rfl).seen }
theorem aCB {C:Ctx} (c:cK C):WR C :=
 {a0L c with
  divide:=fun A B hB hA hBl=>(c.r39.go (aWM (bgI c) A B hB hA hBl) rfl).seen }
theorem a0M {C:Ctx} (c:cK C):arI C :=
 {aCB c with
  gcd:=fun a b ha hb la lb=>(c.r34.go (bdI (aCB c) a b ha hb la lb) rfl).seen
  div:=fun a b ha hb la lb=>(c.r33.go (bdG (aCB c) a b ha hb la lb) rfl).seen }
theorem a8U {C:Ctx} (c:cK C):aSN C :=
 {a0M c with
  lowest:=fun neg a b ha hb la lb na nb h0=>(c.r58.go (aWU (a0M c) neg a b ha hb la lb na nb h0) rfl).seen
  size:=fun v hv=>c.r59.go (a8A v hv.1 hv.2) rfl }
theorem aCC {C:Ctx} (c:cK C):arJ C :=
 {a8U c with
  fmk:=fun n d hn hd=>(c.r50.go (a7U (a8U c) n d hn hd) rfl).seen }
theorem aVP {C:Ctx} (c:cK C):aqS C :=
 {aCC c with
  int:=fun n hn=>(c.r47.go (bdU (aCC c) n hn) rfl).seen
  mul:=fun a b ha hb la lb=>(c.r36.go (bdK (a0N c) a b ha hb la lb) rfl).seen
  add:=fun a b ha hb la lb=>(c.r30.go (bdC (aCD c) a b ha hb la lb) rfl).seen
  sub:=fun a b ha hb la lb=>(c.r37.go (bdQ (aCD c) a b ha hb la lb) rfl).seen }
theorem aCE {C:Ctx} (c:cK C):WT C :=
 {aVP c with
  valid:=fun x hx=>c.r56.go (a2F (aVP c) x.neg x.num x.den hx.1 hx.2.1 hx.2.2.1 hx.2.2.2) rfl
  big:=fun x=>c.r48.go (a1Z x.1 (aF x.2.1) (aF x.2.2)) rfl }
theorem a0O {C:Ctx} (c:cK C):arL C :=
 {aCE c with
  fits:=fun x=>(c.r57.go (a7P (aCE c) x) rfl).seen
  red:=fun x hx=>(c.r52.go (aWW (aCE c) x hx) rfl).seen
  prod:=fun a b ha hb la lb na nb=>c.r60.go (a2D (aVP c) a b ha hb la lb na nb) rfl }
theorem MK {C:Ctx} (c:cK C):uU C :=
 {a0O c with
  order:=fun x y hx hy vx vy=>c.r51.go (a2B (a0O c) x y hx hy vx vy) rfl }
theorem a8V {C:Ctx} (c:cK C):aSO C :=
 {MK c with
  less:=fun x y hx hy vx vy=>c.r49.go (a7S (MK c) x y hx hy vx vy) rfl
  same:=fun x y hx hy vx vy=>c.r53.go (a7W (MK c) x y hx hy vx vy) rfl
  sign:=fun x hx vx=>c.r54.go (a7Y (MK c) x hx vx) rfl
  plus:=fun x y hx hy=>(c.r46.go (bdS (MK c) x y hx hy) rfl).seen }
theorem aCA {C:Ctx} (c:cK C):WQ C :=
 {a8V c with
  sum:=fun l hl hf=>(c.r55.go (bdX (a8V c) l hl hf) rfl).seen
  inn:=fun n lo hi=>c.r76.go (aXH n lo hi) rfl
  code:=fun k m=>c.r61.go (a6N k m) rfl }
theorem aNQ {C:Ctx} (c:cK C):afZ C :=
 {aCA c with
  small:=fun x hx=>c.r74.go (a2R (aCA c) x hx) rfl
  nums:=fun k m q s0 s1 s2 s3 s4=>c.r72.go (aIJ (aCA c) k m q s0 s1 s2 s3 s4) rfl
  sizes:=fun x1 x2 x3 x4 x5 x6=>c.r73.go (a2P x1 x2 x3 x4 x5 x6) rfl }
theorem aNR {C:Ctx} (c:cK C):agA C :=
 {aNQ c with
  smalls:=fun l hl n=>c.r75.go (aXF (aNQ c) l hl n) rfl }
theorem aNS {C:Ctx} (c:cK C):agB C :=
 {aNR c with
  reps:=fun l hl m=>c.r66.go (beF (aNR c) l hl m) rfl }
theorem aNT {C:Ctx} (c:cK C):agC C :=
 have letter:∀ n:Nat,aE C 65 [.int .u8 n] .nil (aC (.bool (eJ n))):=fun n=>c.r65.go (aXC n) rfl
 have digit:∀ n:Nat,aE C 63 [.int .u8 n] .nil (aC (.bool (jX n))):=fun n=>c.r63.go (a2H n) rfl
 {aNS c with
  name:=fun s=>c.r62.go (aXA letter (fun n=>c.r64.go (aWY letter digit n) rfl) s) rfl
  index:=fun l hl s=>c.r71.go (a2M l hl s) rfl }
theorem aNU {C:Ctx} (c:cK C):mS C :=
 {aNT c with
  fresh:=fun l hl s w H hH=>c.r70.go (a2K (aNT c) l hl s w H hH) rfl }
theorem bcL {C:Ctx} (c:cK C):oU C :=
 {aNU c with
  law:=fun l hl=>c.r68.go (beD (aNU c) l hl) rfl }
theorem bcM {C:Ctx} (c:cK C):agD C :=
 {bcL c with
  dur:=fun m rep hr t h ht hh=>c.r69.go (beB (aNS c) m rep hr t h ht hh) rfl }
theorem aiD {C:Ctx} (c:cK C) (f:aL) (hf:f.Ok):aE C 67 [.agg f.cells] .nil (aC (.bool (dH f))):=c.r67.go (a2V (bcM c) f hf) rfl
theorem bgM {C:Ctx} (c:cK C) (f:aL) (l:List (List Int)) (hf:f.Ok) (hl:jU l):aE C 153 [.agg f.cells,lay l] .nil (aC (.bool (iU f l))) :=
 (c.r153.go (aIE ⟨fun f hf=>(c.r161.go (a1D (aJU c) f hf) rfl).seen,fun f l v hV hl hv hvf=>(c.r160.go (aWJ ⟨fun f v hv h=>(c.r156.go (aDQ f hv v h) rfl).seen⟩ f hV l hl v hv hvf) rfl).seen⟩ f hf l hl) rfl).seen
theorem aCJ {C:Ctx} (c:cK C):WU C :=
 {val:=aJU c
  valid:=aiD c
  shaped:=bgM c
  rshaped:=fun f l hf hl=>c.r86.go (aIC ⟨aiD c,fun f v hv h=>(c.r82.go (a6P f hv v h) rfl).seen,fun f row hl=>c.r89.go (bcS f row hl) rfl⟩ f hf l hl) rfl }
theorem aVU {C:Ctx} (c:cK C) (l:List Int) (x:Int) (h:l.length≤1000000000000000):aE C 260 [ints l,.int .i64 x] .nil (aC (.bool (l.contains x))):=c.r260.go (aAZ l x (c.r261.go (a0H l h x) rfl)) rfl
theorem bgL {C:Ctx} (c:cK C) (f:aL) (now:List (List Int)) (r:Int) (down:List Int) (hf:f.Ok) (hl:jU now) (hd:down.length≤1000000000000000):aE C 252 [.agg f.cells,lay now,.int .i64 r,ints down] .nil (aC (.bool (kW f now r down))) :=
 c.r252.go (a5Y f now r down (c.r250.go (aVL (aCJ c) f hf now hl r) rfl) (fun hu=>by
  obtain⟨h1,h2,h3,h4⟩:=aoG hu
  exact c.r251.go (a6A ⟨aVU c⟩ f (VF.of h1) now hl h2 r h3 h4 down hd) rfl)) rfl
theorem bcP {C:Ctx} (c:cK C) (f:aL) (now:List (List Int)) (r:Int) (down:List Int) (hf:f.Ok) (hl:jU now) (hd:down.length≤1000000000000000):aE C 256 [.agg f.cells,lay now,.int .i64 r,ints down] .nil (aC (.bool (kW f now r down))) :=
 c.r256.go (a6F f now r down (c.r253.go (aVN (aCJ c) (fun f hf=>c.r258.go (aHI (aCJ c) f hf) rfl) f hf now hl r) rfl) (fun hu=>by
  obtain⟨h1,h2,h3,h4⟩:=aoG hu
  exact c.r255.go (a6H ⟨fun l x h=>c.r254.go (aNW l h x) rfl,fun f v hV h=>c.r257.go (bjL f hV v h) rfl⟩ f (VF.of h1) now hl h2 r h3 h4 down hd) rfl)) rfl
theorem aVV {C:Ctx} (c:cK C):CE C :=
 {fmk:=(aCC c).fmk
  next:=fun l T o n a hn ha=>c.r240.go (a3V l T.1 T.2 o n a hn ha) rfl }
theorem a8W {C:Ctx} (c:cK C):nO C :=
 {aVV c with
  frac:=fun n d h1 h2 h0=>c.r241.go (a3M (aVV c) n d h1 h2 h0) rfl
  name:=fun ch n hn=>c.r242.go (a3T ch n hn) rfl }
theorem bjO {C:Ctx} (c:cK C):AO C :=
 {a8W c with
  dom:=fun o7 ext w1 w2 wd w4 w5 w6 ds hds lev par up H0 hH=>c.r243.go (a9J (a8W c) o7 ext w1 w2 wd w4 w5 w6 ds hds lev par up H0 hH) rfl }
theorem a8X {C:Ctx} (c:cK C):AP C :=
 {aVV c with
  size:=fun f v hV h=>(c.r245.go (aDQ f hV v h) rfl).seen
  has:=fun l x h=>c.r247.go (aNW l h x) rfl }
theorem bjP {C:Ctx} (c:cK C):aXK C :=
 {aVV c with
  fleet:=fun l T o vols a hv ha=>exactly (c.r244.go (aXU (bjO c) T o vols a hv ha) rfl)
  layout:=fun l T o a f ha hF hV h1=>exactly (c.r246.go (aTJ (a8X c) T o a ha f hF hV h1) rfl)
  rooms:=fun l T o a f ha hf hv h1=>exactly (c.r248.go (aXX (a8X c) T o a ha f hv h1 (c.r85.go (aDB ⟨aiD c⟩ f hf []) rfl)) rfl) }
theorem bsB {C:Ctx} (c:cK C) (s:AR C):a8H C :=
 {begin:=fun n=>c.r144.go (a3B n) rfl
  step:=fun n p w e=>c.r145.go (bdA n p w e) rfl
  same:=fun xs ys h=>c.r91.go (bcQ xs ys h) rfl
  upd:=fun ws p w h1 h2=>(c.r146.go (bdO s ws h1 h2 p w) rfl).bgQ }
theorem bjN {C:Ctx} (c:cK C) (s:AR C) (r:aM C 259 aaF) (l down:List Int) (T:TpM l) (n:Int):aE C 259 [ints l,ints down,.int .i64 n] .nil (aC (.bool true)) :=
 r.go (a5D
  {within:=fun x n hn=>c.r24.go (aUP x n hn) rfl
   awak:=c.r26.go (aXL (bsB c s)) rfl
   made:=fun l T=>c.r249.go (a3R (bjP c) T) rfl
   fits:=bgL c
   rfits:=bcP c } l down T n) rfl
end Go.PM
