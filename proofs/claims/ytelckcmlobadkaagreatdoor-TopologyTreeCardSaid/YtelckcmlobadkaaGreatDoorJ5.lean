/-
  Texts of ours, joined: R2W3 R2W4 R2W5 R2W6 R2W7 R2W8 Jn1 Jn2 L11P1 L11W2 L11W3 L11W4 Jn3. No condition.
-/
import Derived.Test.YtelckcmlobadkaaGreatDoorJ1
import Derived.Test.YtelckcmlobadkaaGreatDoorJ2
import Derived.Test.YtelckcmlobadkaaGreatDoorJ3
import Derived.Test.YtelckcmlobadkaaGreatDoorJ4

set_option linter.unusedSimpArgs false
set_option linter.unusedVariables false
open Nat renaming reduceEqDiff → γ, reduceAdd → δ, reduceSub → ε, reduceMul → ζ, reduceLT → η, reduceLeDiff → θ, reduceBEq → τ
open Int renaming reduceLT → ι, reduceLE → κ, reduceEq → μ, reduceToNat → ν, reduceAdd → ξ, reduceNeg → ο, reduceBEq → ρ, reduceBNe → σ
open List renaming reduceReplicate → υ
open List renaming length_map → baF, replicate → baH, length_append → baI, length_singleton → baL, getElem_mem → baN, mem_cons → baP, getElem?_eq_getElem → baQ, take_of_length_le → baS, length_take → baV, range → baW, not_mem_nil → baY, drop_zero → bbG, getD_eq_getElem?_getD → bbI, append_assoc → bbJ, map_cons → bbK, mem_map → bbL, getElem?_eq_none → bbO, take_length → bbP, all_eq_true → bbQ, getElem?_eq_some_iff → bbR, getElem?_map → bbU, getElem_map → bbW, getElem_of_mem → bbX, append_nil → bbY, length_drop → bbZ, map_append → bcA, drop_eq_getElem_cons → bcD, mem_append → bcE, mem_range → bcF, Sublist → bcK, length_nil → bcL, map_nil → bcM, length_cons → bcN, take_succ_eq_append_getElem → bcO, mem_of_getElem? → bcS, take_append_drop → bcT, nodup_append → bcU, ext_getElem → bcZ, getElem?_append_left → bdA, length_set → bdB, getElem?_append_right → bdE, getElem?_take → bdF, set_append_right → bdG, drop_of_length_le → bdL
open Nat renaming gcd → baG, le_refl → baJ, mul_add → baO, zero_le → baR, lt_or_ge → baU, mul_assoc → baX, mul_comm → bbA, add_mul → bbD, mul_le_mul_right → bbE, zero_add → bbF, mod_eq_of_lt → bbH, mod_lt → bbM, pow_succ → bbS, eq_zero_or_pos → bcB, min_eq_left → bcC, add_assoc → bcG, add_zero → bcH, mul_le_mul_left → bcI, le_trans → bcP, pos_of_ne_zero → bcQ, pow_pos → bcR, div_lt_iff_lt_mul → bcV, div_le_self → bdC, div_add_mod → bdH, div_eq_of_lt → bdI
open Option renaming map_eq_some_iff → baK, map_some → bbN, some → bcJ, getD_some → bcX, bind_eq_some_iff → bdJ, bind_some → bdM
open Bool renaming not_true → baM, false_and → baT, not_false → baZ, and_eq_true → bbB, true_and → bbC, and_false → bbV, and_true → bcY
open Array renaming replicate → bbT, length_toList → bcW, getElem?_eq_getElem → bdK, getElem?_eq_some_iff → bdN
open Int renaming toNat_natCast → bdD
namespace Go.PM
open Go Go.Na
def rX (a:List Nat) (i:Nat):Nat:=a.getD i 0
theorem aiW {a:List Nat} (h:Lim a) (i:Nat):rX a i<4294967296:=by
 unfold rX
 rw[bbI]
 rcases baU i a.length with h1 | h1
 ·rw[baQ h1]; exact h _ (baN h1)
 ·rw[bbO h1]; decide
theorem NK {a:List Nat} {i:Nat} (h:i<a.length):rX a i=a[i]:=by simp[rX,bbI,h]
theorem EE {a:List Nat} {i:Nat} (h:¬ i<a.length):rX a i=0:=by simp[rX,bbI,h]
theorem JH (a:List Nat) (i:Nat):val (a.take (i+1))=val (a.take i)+4294967296 ^ i*rX a i:=by
 rcases baU i a.length with h | h
 ·rw[NK h]; exact bQ a h
 ·rw[EE (by omega),baS (by omega),baS (by omega)]; simp
def pO (a b:List Nat) (v:PV) (c i:Nat):PF:=(((((PF.nil.set 0 (aF a)).set 1 (aF b)).set 5 (v)).set 6 (.int .u64 c)).set 7 (.int .i64 i))
theorem aSF {C:Ctx} (L:mE C) (a b:List Nat) (ha:Lim a) (hb:Lim b) (h1:a.length≤8388608) (h2:b.length≤8388608) :
  CX.wp C (aZ WD.res (bW (aF (aG (val a+val b))))) (PF.args [aF a,aF b]) .nil:=by
 simp -implicitDefEqProofs only[go_sem,CX,auV,auW,auX,auY,WD]
 refine wp_loop (α:=List Nat × Nat × PV × PH) (fun s=>pO a b s.2.2.1 s.2.1 s.1.length) (fun s=>s.2.2.2)
  (fun s=>s.1.length≤max a.length b.length+1∧(s.1.length≤max a.length b.length∨s.2.1=0)∧Lim s.1∧s.2.1≤1∧val s.1+4294967296 ^ s.1.length*s.2.1=val (a.take s.1.length)+val (b.take s.1.length)∧bA s.2.2.2 1 s.2.2.1 (aE s.1)) (fun s=>max a.length b.length+1-s.1.length) ([],0,.nils,.nil)
  ⟨by simp,by simp,by simp[Lim],by simp,by simp[val],.nil⟩ ?_ PH.nil_le ?_
 ·unfold pO
  (repeat' (first|exact PF.nil_le|refine PF.aA ?_ ?_))<;>first|(simp -implicitDefEqProofs only[go_sem,γ,reduceCtorEq]<;>rfl)|rfl
 rintro⟨P,c,v,H0⟩ ⟨hP,hPc,hLim,hc,hval,hO⟩
 simp only at hP hPc hLim hc hval hO ⊢
 have hda:=aiW ha P.length
 have hdb:=aiW hb P.length
 have hta:=JH a P.length
 have htb:=JH b P.length
 generalize hx:rX a P.length=x at *
 generalize hy:rX b P.length=y at *
 have ex:IntKind.u64.wrap ((x:Nat):Int)=((x:Nat):Int):=aW (by omega)
 have ey:IntKind.u64.wrap ((y:Nat):Int)=((y:Nat):Int):=aW (by omega)
 have e1:IntKind.u64.wrap ((c:Int)+(x:Int))=((c+x:Nat):Int):=dZ (by omega)
 have e2:IntKind.u64.wrap (((c+x:Nat):Int)+(y:Int))=((c+x+y:Nat):Int):=dZ (by omega)
 have hra:P.length<a.length→(aE a)[P.length]?=some [.int .u32 ((x:Nat):Int)]:=fun h=>by rw[bJ a h,← hx,NK h]
 have hrb:P.length<b.length→(aE b)[P.length]?=some [.int .u32 ((y:Nat):Int)]:=fun h=>by rw[bJ b h,← hy,NK h]
 have hxa:¬ P.length<a.length→x=0:=fun h=>by rw[← hx,EE h]
 have hyb:¬ P.length<b.length→y=0:=fun h=>by rw[← hy,EE h]
 have body:(P.length≤max a.length b.length)→∀ K:cD,(∀ P' c' v' F2 H2,P'.length=P.length+1→Lim P'→c'≤1→(P.length+1≤max a.length b.length∨c'=0)→val P'+4294967296 ^ P'.length*c'=val (a.take (P.length+1))+val (b.take (P.length+1))→(pO a b v' c' P'.length).le F2→bA H2 1 v' (aE P')→K .normal F2 H2) →
   ∀ F:PF,(pO a b v c P.length).le F→aC.wp C (.seq (.block 1 (.seq (.region QN) (.seq (.seq (.region QO) (.cond (.tmp 29) (.region QP) .skip)) (.seq (.seq (.region CY) (.cond (.tmp 40) (.region CZ) .skip)) (.seq (.region vO) (.region vP)))))) (.region vQ)) K F H0:=by
  intro hle K hK F hF
  have g0:F 0=some (aF a):=hF 0 _ (by unfold pO; simp -implicitDefEqProofs only[go_sem,reduceCtorEq])
  have g1:F 1=some (aF b):=hF 1 _ (by unfold pO; simp -implicitDefEqProofs only[go_sem,γ,reduceCtorEq])
  have g5:F 5=some v:=hF 5 _ (by unfold pO; simp -implicitDefEqProofs only[go_sem,γ,reduceCtorEq])
  have g6:F 6=some (.int .u64 c):=hF 6 _ (by unfold pO; simp -implicitDefEqProofs only[go_sem,γ,reduceCtorEq])
  have g7:F 7=some (.int .i64 P.length):=hF 7 _ (by unfold pO; simp -implicitDefEqProofs only[go_sem,γ,reduceCtorEq])
  have fin:∀ F':PF,F' 0=some (aF a)→F' 1=some (aF b)→F' 5=some v→F' 7=some (.int .i64 P.length)→F' 8=some (.int .u64 (c+x+y:Nat)) →
    aC.wp C (.seq (.region vO) (.region vP)) (eO 1 (kE C (aC.wp C (.region vQ)) K)) F' H0:=by
   intro F' q0 q1 q5 q7 q8
   have hb1:(1:Nat)*1≤16777216:=by decide
   generalize ht:c+x+y=t at *
   have htt:t<2*4294967296:=by omega
   simp -implicitDefEqProofs only[go_sem,υ,γ,η,ζ,vO,q5,q8,hb1,bV]
   refine eZ (src:=[[.int .u32 ((t%4294967296:Nat):Int)]]) hO rfl (mM (by omega)) fun v' H' hO' _=>?_
   rw[mN] at hO'
   simp -implicitDefEqProofs only[go_sem,γ,vP,q8,sL,vQ,q7,aL (show P.length<9223372036854775807 by omega)]
   refine hK (P++[t%4294967296]) (t/4294967296) v' _ H' (by simp) (hLim.app fun y hy=>by simp at hy; subst hy; omega) (by omega) ?_ ?_ ?_ hO'
   ·rcases baU P.length (max a.length b.length) with h | h
    ·exact .inl h
    ·right
     have h1:=hxa (by omega)
     have h2:=hyb (by omega)
     omega
   ·rw[fX,baI,baL,hta,htb,bbS,baX,bcG,← baO]
    rw[show t%4294967296+4294967296*(t/4294967296)=t from Nat.mod_add_div t 4294967296]
    have h3:4294967296 ^ P.length*t=4294967296 ^ P.length*c+4294967296 ^ P.length*x+4294967296 ^ P.length*y:=by rw[← ht,baO,baO]
    omega
   ·unfold pO
    rw[baI,baL]
    repeat' first|exact PF.nil_le|refine PF.aA ?_ ?_|rfl|assumption
  simp only[aC.wp,go_sem] at fin
  simp -implicitDefEqProofs only[go_sem,γ,reduceCtorEq,QN,g6,QO,g7,g0]
  by_cases c1:P.length<a.length
  ·have c1':(P.length:Int)<(a.length:Nat):=by omega
   simp -implicitDefEqProofs only[go_sem,γ,reduceCtorEq,c1',QP,g0,g7,hra c1,ex,e1,CY,g1]
   by_cases c2:P.length<b.length
   ·have c2':(P.length:Int)<(b.length:Nat):=by omega
    simp -implicitDefEqProofs only[go_sem,γ,c2',CZ,g1,g7,hrb c2,ey,e2]
    exact fin _ (by simp -implicitDefEqProofs only[go_sem,reduceCtorEq,g0]) (by simp -implicitDefEqProofs only[go_sem,γ,g1]) (by simp -implicitDefEqProofs only[go_sem,γ,g5]) (by simp -implicitDefEqProofs only[go_sem,γ,g7]) rfl
   ·have c2':¬ (P.length:Int)<(b.length:Nat):=by omega
    have h0:=hyb c2
    simp -implicitDefEqProofs only[go_sem,c2']
    exact fin _ (by simp -implicitDefEqProofs only[go_sem,reduceCtorEq,g0]) (by simp -implicitDefEqProofs only[go_sem,γ,g1]) (by simp -implicitDefEqProofs only[go_sem,γ,g5]) (by simp -implicitDefEqProofs only[go_sem,γ,g7]) (by simp -implicitDefEqProofs only[go_sem,γ,h0])
  ·have c1':¬ (P.length:Int)<(a.length:Nat):=by omega
   have h0:=hxa c1
   simp -implicitDefEqProofs only[go_sem,γ,c1',CY,g1,g7]
   by_cases c2:P.length<b.length
   ·have c2':(P.length:Int)<(b.length:Nat):=by omega
    have e2':IntKind.u64.wrap ((c:Int)+(y:Int))=((c+x+y:Nat):Int):=by rw[h0]; exact dZ (by omega)
    simp -implicitDefEqProofs only[go_sem,γ,c2',CZ,g1,g7,hrb c2,ey,e2']
    exact fin _ (by simp -implicitDefEqProofs only[go_sem,reduceCtorEq,g0]) (by simp -implicitDefEqProofs only[go_sem,γ,g1]) (by simp -implicitDefEqProofs only[go_sem,γ,g5]) (by simp -implicitDefEqProofs only[go_sem,γ,g7]) rfl
   ·have c2':¬ (P.length:Int)<(b.length:Nat):=by omega
    have h0':=hyb c2
    simp -implicitDefEqProofs only[go_sem,c2']
    exact fin _ (by simp -implicitDefEqProofs only[go_sem,reduceCtorEq,g0]) (by simp -implicitDefEqProofs only[go_sem,γ,g1]) (by simp -implicitDefEqProofs only[go_sem,γ,g5]) (by simp -implicitDefEqProofs only[go_sem,γ,g7]) (by simp -implicitDefEqProofs only[go_sem,γ,h0,h0'])
 simp only[aC.wp,go_sem] at body
 have hexit:¬ P.length<a.length→¬ P.length<b.length→c=0→∀ F:PF,F 5=some v→aC.wp C (.seq (.region JC) .ret) (aZ [.tmp 4] (bW (aF (aG (val a+val b))))) F H0:=by
  intro n1 n2 n3 F f5
  have hV:val P=val a+val b:=by
   rw[n3,baS (by omega),baS (by omega)] at hval
   omega
  have hs:=L.trim _ hLim (by omega)
  rw[hV] at hs
  simp -implicitDefEqProofs only[go_sem,JC,f5]
  refine pQ hs hO rfl fun F1 H1 _=>?_
  simp -implicitDefEqProofs only[go_sem]
  exact aY (.inr rfl) .nil rfl PH.nil_le ⟨.refl _,rfl⟩
 simp only[aC.wp,go_sem] at hexit
 simp -implicitDefEqProofs only[go_sem,γ,reduceCtorEq,agO,auZ,pO]
 by_cases c1:P.length<a.length
 ·have c1':(P.length:Int)<(a.length:Nat):=by omega
  simp -implicitDefEqProofs only[go_sem,γ,reduceCtorEq,c1']
  refine body (by omega) _ ?_ _ (by unfold pO; (repeat' (first|exact PF.nil_le|refine PF.aA ?_ ?_))<;>first|(simp -implicitDefEqProofs only[go_sem,γ,reduceCtorEq]<;>rfl)|rfl)
  intro P' c' v' F2 H2 e1 e2 e3 e4 e5 e6 e7
  rw[← e1] at e5 e4
  exact aH (α:=List Nat × Nat × PV × PH) (P',c',v',H2) ⟨by simp only; omega,e4,e2,e3,e5,e7⟩ (by simp only; omega) e6 PH.le_refl
 ·have c1':¬ (P.length:Int)<(a.length:Nat):=by omega
  simp -implicitDefEqProofs only[go_sem,γ,reduceCtorEq,c1']
  by_cases c2:P.length<b.length
  ·have c2':(P.length:Int)<(b.length:Nat):=by omega
   simp -implicitDefEqProofs only[go_sem,γ,reduceCtorEq,c2']
   refine body (by omega) _ ?_ _ (by unfold pO; (repeat' (first|exact PF.nil_le|refine PF.aA ?_ ?_))<;>first|(simp -implicitDefEqProofs only[go_sem,γ,reduceCtorEq]<;>rfl)|rfl)
   intro P' c' v' F2 H2 e1 e2 e3 e4 e5 e6 e7
   rw[← e1] at e5 e4
   exact aH (α:=List Nat × Nat × PV × PH) (P',c',v',H2) ⟨by simp only; omega,e4,e2,e3,e5,e7⟩ (by simp only; omega) e6 PH.le_refl
  ·have c2':¬ (P.length:Int)<(b.length:Nat):=by omega
   simp -implicitDefEqProofs only[go_sem,γ,reduceCtorEq,c2']
   by_cases c3:c=0
   ·have c3':¬ (c:Int)>0:=by omega
    simp -implicitDefEqProofs only[go_sem,c3']
    exact hexit c1 c2 c3 _ rfl
   ·have c3':(c:Int)>0:=by omega
    simp -implicitDefEqProofs only[go_sem,c3']
    refine body (by omega) _ ?_ _ (by unfold pO; (repeat' (first|exact PF.nil_le|refine PF.aA ?_ ?_))<;>first|(simp -implicitDefEqProofs only[go_sem,γ,reduceCtorEq]<;>rfl)|rfl)
    intro P' c' v' F2 H2 e1 e2 e3 e4 e5 e6 e7
    rw[← e1] at e5 e4
    exact aH (α:=List Nat × Nat × PV × PH) (P',c',v',H2) ⟨by simp only; omega,e4,e2,e3,e5,e7⟩ (by simp only; omega) e6 PH.le_refl
structure aIC (C:Ctx):Prop extends aIB C where
 plus:∀ a b,Lim a→Lim b→a.length≤8388608→b.length≤8388608→aJ C 43 [aF a,aF b] .nil (aK (aF (aG (val a+val b))))
end Go.PM
namespace Go.PM
open Go Go.Na
def atR (k:Nat) (v:Nat):PF:=((PF.nil.set 3 (.int .i64 k)).set 4 (.int .u32 v))
theorem aRS {C:Ctx} (L:mE C) (xs:List Nat) (hx:Lim xs) (lx:xs.length≤16777216) :
  CN.wp C (aZ VQ.res (aK (.int .i64 (bY (val xs):Nat)))) (PF.args [aF xs]) .nil:=by
 simp -implicitDefEqProofs only[go_sem,reduceCtorEq,CN,atT,atU,VQ]
 refine aB (L.trim xs hx lx) rfl ?_
 have bx:=eK hx
 simp -implicitDefEqProofs only[go_sem,γ,reduceCtorEq,atV,baF,bG,vN]
 by_cases c1:nl (val xs)=0
 ·simp -implicitDefEqProofs only[go_sem,decide_eq_true c1,atW]
  refine bZ (.inr rfl) rfl ?_
  have:val xs=0:=gZ.1 c1
  simp[cU,this,iD]
 obtain⟨n,hn⟩:∃ n,nl (val xs)=n+1:=⟨nl (val xs)-1,by omega⟩
 obtain⟨t,ht,ht0⟩:=asL (xs:=aG (val xs)) (bB _) (by rw[aV]; exact hn)
 have htl:t<4294967296:=bB _ t (bcS ht)
 have hv:val xs=val ((aG (val xs)).take n)+4294967296 ^ n*t:=by
  have:=aV (val xs)
  have hnl:n<(aG (val xs)).length:=by rw[bG]; omega
  have hg:(aG (val xs))[n]=t:=by rw[baQ hnl] at ht; exact bcJ.inj ht
  conv=>lhs; rw[← this,← baS (l:=aG (val xs)) (i:=n+1) (by rw[bG]; omega)]
  rw[bQ _ hnl,hg]
 have hb:bY (val xs)=32*n+bY t:=by
  have h3:=dY ((bB (val xs)).take n)
  rw[baV,bG,bcC (by omega)] at h3
  have hk:=aiQ (lo:=val ((aG (val xs)).take n)) (k:=32*n) (hi:=t) (by rw[Nat.pow_mul]; exact h3) ht0
  rw[← hk,Nat.pow_mul]
  exact congrArg bY hv
 have hrow:(aE (aG (val xs)))[n]?=some [.int .u32 (t:Nat)]:=by
  simp[aE,ht]
 have e1:IntKind.i64.wrap (((nl (val xs):Nat):Int)-1)=(n:Int):=by rw[wrap_i64 (by omega) (by omega)]; omega
 have e2:IntKind.i64.wrap (32*(n:Int))=((32*n:Nat):Int):=by rw[wrap_i64 (by omega) (by omega)]; omega
 simp -implicitDefEqProofs only[go_sem,γ,reduceCtorEq,decide_eq_false c1,atX,atY,baF,bG,e1,e2,hrow]
 refine wp_loop (α:=Nat × Nat) (fun a=>atR a.1 a.2) (fun _=>.nil) (fun a=>a.1+bY a.2=32*n+bY t∧a.2<4294967296) (fun a=>a.2) (32*n,t) ⟨rfl,htl⟩ ?_ PH.nil_le ?_
 ·unfold atR
  (repeat' (first|exact PF.nil_le|refine PF.aA ?_ ?_))<;>first|(simp -implicitDefEqProofs only[go_sem,γ,reduceCtorEq]<;>rfl)|rfl
 rintro⟨k,v⟩ ⟨hk,hlt⟩
 simp only at hk hlt
 have hk32:bY t≤32:=(jE t 32).2 htl
 simp -implicitDefEqProofs only[go_sem,γ,atS,atZ,atR]
 by_cases c2:(v:Int)>0
 ·have hv0:v≠0:=by omega
  have hsh:IntKind.u32.wrap (Int.tdiv (v:Int) 2)=((v/2:Nat):Int):=by
   rw[show Int.tdiv (v:Int) 2=((v/2:Nat):Int) from Int.ofNat_tdiv v 2,bV,bbH (by omega)]
  simp -implicitDefEqProofs only[go_sem,μ,γ,c2,auA,auB,hsh,aL (show k<9223372036854775807 by omega)]
  refine aH (k+1,v/2) ⟨?_,?_⟩ (Nat.div_lt_self (by omega) (by decide)) ?_ PH.nil_le
  ·have:=nJ hv0
   simp only; omega
  ·simp only; omega
  ·(repeat' (first|exact PF.nil_le|refine PF.aA ?_ ?_))<;>first|(simp -implicitDefEqProofs only[go_sem,γ]<;>rfl)|rfl
 ·have:v=0:=by omega
  subst this
  simp -implicitDefEqProofs only[go_sem,γ,c2,agB]
  refine bZ (.inr rfl) rfl ?_
  rw[iD] at hk
  simp only[cU,PV.int.injEq,true_and]
  omega
theorem adC (n:Nat):4294967296 ^ (n/32)*2 ^ (n%32)=2 ^ n:=by
 rw[show (4294967296:Nat)=2 ^ 32 by decide,← Nat.pow_mul,← Nat.pow_add]
 congr 1
 omega
theorem aMG (n:Nat):IntKind.i64.wrap (Int.tdiv (n:Int) 32)=IntKind.i64.wrap ((n/32:Nat):Int):=by
 rw[show Int.tdiv (n:Int) 32=((n/32:Nat):Int) from Int.ofNat_tdiv n 32]
theorem aML (n:Nat):Int.tmod (n:Int) 32=((n%32:Nat):Int):=Int.ofNat_tmod n 32
def aSL (a:List Nat) (n:Nat) (v:PV) (c i:Nat):PF:=(((((PF.nil.set 0 (aF a)).set 1 (.int .i64 n)).set 5 (v)).set 6 (.int .u64 c)).set 7 (.int .i64 i))
theorem aZF {C:Ctx} (L:mE C) (a:List Nat) (n:Nat) (ha:Lim a) (h1:a.length≤8388608) (hn:n≤8388608) (h0:a.length=0→val a=0) :
  QR.wp C (aZ uup.res (mD 1 (aE (aG (val a*2 ^ n))))) (PF.args [aF a,.int .i64 n]) .nil:=by
 simp -implicitDefEqProofs only[go_sem,γ,reduceCtorEq,QR,aNJ,aNK,uup,baF,vN]
 by_cases c0:a.length=0
 ·simp -implicitDefEqProofs only[go_sem,decide_eq_true c0,aNL]
  rw[h0 c0,Nat.zero_mul,eU]
  exact yR (.inr rfl) rfl
 have ez:IntKind.i64.wrap (Int.tdiv (n:Int) 32)=((n/32:Nat):Int):=by rw[aMG,QT (by omega)]
 have em:=aML n
 have eu:IntKind.u64.wrap ((n%32:Nat):Int)=((n%32:Nat):Int):=aW (by omega)
 have hsp:=adC n
 have hs:n%32<32:=bbM _ (by decide)
 have hz:n/32≤8388608:=by omega
 generalize hzz:n/32=z at *
 generalize hss:n%32=s at *
 have hm1:((z:Nat):Int)*((4:Nat):Int)≤140737488355328:=by omega
 have hm2:((z:Nat):Int)≤9223372036854775807:=by omega
 have hzr:baH z [PV.int .u32 0]=aE (baH z 0):=by
  simp[aE]
 have h2s:2 ^ s≤2147483648:=Nat.pow_le_pow_right (show 0<2 by decide) (show s≤31 by omega)
 have h2s0:0<2 ^ s:=bcR (by decide)
 simp -implicitDefEqProofs only[go_sem,μ,γ,decide_eq_false c0,aNM,ez,hm1,hm2,hzr]
 refine aP fun o ho=>?_
 simp -implicitDefEqProofs only[go_sem,γ,aNN,aNO]
 refine wp_loop (α:=List Nat × Nat × Nat × PV × PH) (fun t=>aSL a n t.2.2.2.1 t.2.1 t.2.2.1) (fun t=>t.2.2.2.2)
  (fun t=>t.2.2.1≤a.length∧t.1.length=z+t.2.2.1∧Lim t.1∧t.2.1<2 ^ s∧val t.1+4294967296 ^ t.1.length*t.2.1=val (a.take t.2.2.1)*2 ^ n∧bA t.2.2.2.2 1 t.2.2.2.1 (aE t.1)) (fun t=>a.length-t.2.2.1) (baH z 0,0,0,.osl o 1 0 z,PH.nil.set o (.rows 1 (aE (baH z 0))))
  ⟨by simp,by simp,rG _,h2s0,by simp[val,oL],.inr ⟨o,aE (baH z 0),by rw[bN,List.length_replicate],by simp -implicitDefEqProofs only[go_sem],by rw[bN]; exact baJ _,bbP⟩⟩ ?_ PH.le_refl ?_
 ·unfold aSL
  (repeat' (first|exact PF.nil_le|refine PF.aA ?_ ?_))<;>first|(simp -implicitDefEqProofs only[go_sem,γ,reduceCtorEq]<;>rfl)|rfl
 rintro⟨P,c,i,v,H0⟩ ⟨hi,hP,hLim,hc,hval,hO⟩
 simp only at hi hP hLim hc hval hO ⊢
 simp -implicitDefEqProofs only[go_sem,γ,reduceCtorEq,aDQ,aNP,aSL]
 by_cases c1:i<a.length
 ·have c1':(i:Int)<(a.length:Nat):=by omega
  have hai:=ha _ (baN c1)
  have hta:=bQ a c1
  have hax:=bJ a c1
  generalize hx:a[i]=x at *
  have hxs:x*2 ^ s≤4294967295*2147483648:=Nat.mul_le_mul (by omega) h2s
  have ex:IntKind.u64.wrap ((x:Nat):Int)=((x:Nat):Int):=aW (by omega)
  have hxs':2 ^ s*x=x*2 ^ s:=bbA _ _
  have esh:shift .shl .u64 (x:Int) (s:Int)=some (.int .u64 ((2 ^ s*x:Nat):Int)):=CB (by omega) (by omega)
  have eor:=orI (a:=2 ^ s*x) (b:=c) (n:=c+2 ^ s*x) (by omega) (by omega) (by rw[Nat.or_comm]; exact arF hc (by omega)) (by omega)
  have hdig:(c+2 ^ s*x)/4294967296<2 ^ s:=by
   rw[bcV (by decide)]
   have:2 ^ s*(x+1)≤2 ^ s*4294967296:=bcI _ (by omega)
   rw[baO,Nat.mul_one] at this
   omega
  have hb1:(1:Nat)*1≤16777216:=by decide
  simp -implicitDefEqProofs only[go_sem,μ,υ,γ,η,ζ,reduceCtorEq,c1',aNQ,hax,ex,em,eu,esh,eor,aNR,bV,hb1]
  refine eZ (src:=[[.int .u32 (((c+2 ^ s*x)%4294967296:Nat):Int)]]) hO rfl (mM (by omega)) fun v' H' hO' _=>?_
  rw[mN] at hO'
  simp -implicitDefEqProofs only[go_sem,γ,reduceCtorEq,aNS,sL,aDR,aL (show i<9223372036854775807 by omega)]
  refine aH (P++[(c+2 ^ s*x)%4294967296],(c+2 ^ s*x)/4294967296,i+1,v',H') ⟨by simp only; omega,by simp; omega,hLim.app fun y hy=>by simp at hy; subst hy; exact bbM _ (by decide),hdig,?_,hO'⟩ (by simp only; omega) ?_ PH.le_refl
  ·simp only
   have hp:4294967296 ^ P.length*(2 ^ s*x)=4294967296 ^ i*x*2 ^ n:=by
    rw[hP,Nat.pow_add,← hsp]
    rw[baX,Nat.mul_left_comm (4294967296 ^ i),← baX (4294967296 ^ z),bbA (4294967296 ^ z*2 ^ s),baX,bbA x]
   rw[fX,baI,baL,bbS,baX,bcG,← baO,Nat.mod_add_div,hta,baO,bbD,← bcG,hval,hp]
  ·(repeat' (first|exact PF.nil_le|refine PF.aA ?_ ?_))<;>first|(simp -implicitDefEqProofs only[go_sem,γ,reduceCtorEq]<;>rfl)|rfl
 ·have e:i=a.length:=by omega
  subst e
  have c1':¬ ((a.length:Nat):Int)<(a.length:Nat):=by omega
  have hb1:(1:Nat)*1≤16777216:=by decide
  have hV:val (P++[c])=val a*2 ^ n:=by
   rw[fX,hval,bbP]
  have hLc:Lim (P++[c]):=hLim.app fun x hx=>by simp at hx; omega
  have ec:IntKind.u32.wrap ((c:Nat):Int)=((c:Nat):Int):=by rw[bV,bbH (by omega)]
  simp -implicitDefEqProofs only[go_sem,υ,γ,η,ζ,reduceCtorEq,c1',aDS,ec,hb1]
  refine eZ (src:=[[.int .u32 ((c:Nat):Int)]]) hO rfl (mM (by omega)) fun v' H' hO' _=>?_
  rw[mN] at hO'
  have hs:=L.trimM _ hLc (by simp; omega)
  rw[hV] at hs
  refine ahM hs hO' rfl fun F1 H1 _ r H2 hr _=>?_
  simp -implicitDefEqProofs only[go_sem]
  exact aLN (.inr rfl) hr rfl
def IT (a:List Nat) (n:Nat) (v:PV) (i:Nat):PF:=((((PF.nil.set 0 (aF a)).set 1 (.int .i64 n)).set 5 (v)).set 6 (.int .i64 i))
theorem aRW {C:Ctx} (L:mE C) (a:List Nat) (n:Nat) (ha:Lim a) (h1:a.length≤8388608) (hn:n≤1000000000) :
  CR.wp C (aZ VY.res (bW (aF (aG (val a/2 ^ n))))) (PF.args [aF a,.int .i64 n]) .nil:=by
 have ez:IntKind.i64.wrap (Int.tdiv (n:Int) 32)=((n/32:Nat):Int):=by rw[aMG,QT (by omega)]
 have em:=aML n
 have eu:IntKind.u64.wrap ((n%32:Nat):Int)=((n%32:Nat):Int):=aW (by omega)
 have hsp:=adC n
 have hs:n%32<32:=bbM _ (by decide)
 have hz:n/32≤1000000000:=by omega
 generalize hzz:n/32=z at *
 generalize hss:n%32=s at *
 simp -implicitDefEqProofs only[go_sem,μ,γ,reduceCtorEq,CR,auI,auJ,VY,baF,ez]
 by_cases c0:a.length≤z
 ·have c0':((z:Nat):Int)≥(a.length:Nat):=by omega
  have hq:val a/2 ^ n=0:=by
   refine bdI (Nat.lt_of_lt_of_le (dY ha) ?_)
   rw[← hsp]
   exact bcP (Nat.pow_le_pow_right (by decide) c0) (Nat.le_mul_of_pos_right _ (bcR (by decide)))
  simp -implicitDefEqProofs only[go_sem,c0',auK]
  rw[hq,eU]
  exact aY (vs:=[.nils]) (.inr rfl) .nil rfl PH.nil_le ⟨.nil 1,rfl⟩
 have c0':¬ ((z:Nat):Int)≥(a.length:Nat):=by omega
 have hR:val a/2 ^ n=val (a.drop z)/2 ^ s:=by
  rw[qI ha (by omega),← hsp,Nat.div_div_eq_div_mul]
 have hLd:Lim (a.drop z):=ha.drop z
 simp -implicitDefEqProofs only[go_sem,μ,γ,c0',auL,auM,ez]
 refine wp_loop (α:=List Nat × PV × PH) (fun t=>IT a n t.2.1 (z+t.1.length)) (fun t=>t.2.2)
  (fun t=>z+t.1.length≤a.length∧t.1=cS t.1.length (val (a.drop z)/2 ^ s)∧bA t.2.2 1 t.2.1 (aE t.1)) (fun t=>a.length-t.1.length) ([],.nils,.nil)
  ⟨by simp; omega,rfl,.nil⟩ ?_ PH.nil_le ?_
 ·unfold IT
  (repeat' (first|exact PF.nil_le|refine PF.aA ?_ ?_))<;>first|(simp -implicitDefEqProofs only[go_sem,γ,reduceCtorEq,bcL]<;>rfl)|rfl
 rintro⟨P,v,H0⟩ ⟨hP,hD,hO⟩
 simp only at hP hD hO ⊢
 simp -implicitDefEqProofs only[go_sem,γ,reduceCtorEq,agC,auN,IT]
 have hlimP:Lim P:=by rw[hD]; exact jP _ _
 by_cases c1:z+P.length<a.length
 ·have c1':((z+P.length:Nat):Int)<(a.length:Nat):=by omega
  have hai:=ha _ (baN c1)
  have hax:=bJ a c1
  have hkl:P.length≤(a.drop z).length:=by rw[bbZ]; omega
  have hvd:=qI hLd hkl
  have hdrop:(a.drop z).drop P.length=a[z+P.length]::a.drop (z+P.length+1):=by
   rw[List.drop_drop,bcD c1]
  generalize hx:a[z+P.length]=x at *
  have ex:IntKind.u64.wrap ((x:Nat):Int)=((x:Nat):Int):=aW (by omega)
  have hb1:(1:Nat)*1≤16777216:=by decide
  have ew:IntKind.i64.wrap (((z+P.length:Nat):Int)+1)=((z+P.length+1:Nat):Int):=aL (by omega)
  have fin:∀ (t:Nat) (F:PF),t<18446744073709551616→val (a.drop z)/4294967296 ^ P.length%(4294967296*4294967296)=t→F 0=some (aF a)→F 1=some (.int .i64 n)→F 5=some v→F 6=some (.int .i64 (z+P.length:Nat))→F 7=some (.int .u64 t) →
    ∀ K:cD,(∀ v' F2 H2,(IT a n v' (z+(P.length+1))).le F2→bA H2 1 v' (aE (P++[t/2 ^ s%4294967296]))→(P++[t/2 ^ s%4294967296])=cS (P.length+1) (val (a.drop z)/2 ^ s)→K .normal F2 H2) →
    aC.wp C (.region QM) (eO 1 (kE C (aC.wp C (.region IU)) K)) F H0:=by
   intro t F ht hte f0 f1 f5 f6 f7 K hK
   have esh:shift .shr .u64 (t:Int) (s:Int)=some (.int .u64 ((t/2 ^ s:Nat):Int)):=aZA (by omega)
   simp -implicitDefEqProofs only[go_sem,μ,υ,γ,η,ζ,QM,f5,f7,f1,em,eu,esh,bV,hb1]
   refine eZ (src:=[[.int .u32 ((t/2 ^ s%4294967296:Nat):Int)]]) hO rfl (mM (by omega)) fun v' H' hO' _=>?_
   rw[mN] at hO'
   simp -implicitDefEqProofs only[go_sem,γ,IU,f6,ew]
   refine hK v' _ H' ?_ hO' ?_
   ·unfold IT
    repeat' first|exact PF.nil_le|refine PF.aA ?_ ?_|rfl|assumption
   ·rw[rB,← hD]
    congr 2
    have e:val (a.drop z)/4294967296 ^ P.length=t%4294967296+4294967296*(t/4294967296+4294967296*(val (a.drop z)/4294967296 ^ P.length/(4294967296*4294967296))):=by
     have:=Nat.mod_add_div (val (a.drop z)/4294967296 ^ P.length) (4294967296*4294967296)
     rw[hte] at this
     have h2:=Nat.mod_add_div t 4294967296
     rw[baO,← bcG,h2,← baX]
     exact this.symm
    have:=MK hs e
    rw[this]
    congr 2
    have h2:=Nat.mod_add_div t 4294967296
    omega
  simp only[aC.wp,go_sem] at fin
  simp -implicitDefEqProofs only[go_sem,γ,reduceCtorEq,c1',auO,hax,ex,auP,ew]
  by_cases c2:z+P.length+1<a.length
  ·have c2':((z+P.length+1:Nat):Int)<(a.length:Nat):=by omega
   have hai2:=ha _ (baN c2)
   have hax2:=bJ a c2
   rw[bcD c2] at hdrop
   generalize hy:a[z+P.length+1]=y at *
   have ey:IntKind.u64.wrap ((y:Nat):Int)=((y:Nat):Int):=aW (by omega)
   have esh:shift .shl .u64 (y:Int) ((32:Nat):Int)=some (.int .u64 ((2 ^ 32*y:Nat):Int)):=CB (by decide) (by omega)
   have eor:=orI (a:=x) (b:=2 ^ 32*y) (n:=x+2 ^ 32*y) (by omega) (by omega) (arF (by omega) (by omega)) (by omega)
   simp -implicitDefEqProofs only[go_sem,γ,reduceCtorEq,c2',auQ,ew,hax2,ey,show shift .shl .u64 (y:Int) 32=_ from esh,eor]
   refine fin (x+2 ^ 32*y) _ (by omega) ?_ rfl rfl rfl rfl rfl _ ?_
   ·rw[← hvd,hdrop]
    simp only[val]
    omega
   ·intro v' F2 H2 e1 e2 e3
    refine aH (α:=List Nat × PV × PH) (P++[(x+2 ^ 32*y)/2 ^ s%4294967296],v',H2) ⟨by simp; omega,by simpa using e3,e2⟩ (by simp; omega) ?_ PH.le_refl
    simp only[baI,baL]
    exact e1
  ·have c2':¬ ((z+P.length+1:Nat):Int)<(a.length:Nat):=by omega
   rw[bdL (l:=a) (i:=z+P.length+1) (by omega)] at hdrop
   simp -implicitDefEqProofs only[go_sem,c2']
   refine fin x _ (by omega) ?_ rfl rfl rfl rfl rfl _ ?_
   ·rw[← hvd,hdrop]
    simp only[val]
    omega
   ·intro v' F2 H2 e1 e2 e3
    refine aH (α:=List Nat × PV × PH) (P++[x/2 ^ s%4294967296],v',H2) ⟨by simp; omega,by simpa using e3,e2⟩ (by simp; omega) ?_ PH.le_refl
    simp only[baI,baL]
    exact e1
 ·have e:z+P.length=a.length:=by omega
  have c1':¬ ((z+P.length:Nat):Int)<(a.length:Nat):=by omega
  have hV:val P=val (a.drop z)/2 ^ s:=by
   rw[hD]
   refine kX (Nat.lt_of_le_of_lt (bdC _ _) ?_)
   have:=dY hLd
   rw[bbZ] at this
   rw[show P.length=a.length-z by omega]
   exact this
  have hs:=L.trim _ hlimP (by omega)
  rw[hV,← hR] at hs
  simp -implicitDefEqProofs only[go_sem,γ,reduceCtorEq,c1',agD]
  refine pQ hs hO rfl fun F1 H1 _=>?_
  simp -implicitDefEqProofs only[go_sem]
  exact aY (.inr rfl) .nil rfl PH.nil_le ⟨.refl _,rfl⟩
end Go.PM
namespace Go.PM
open Go Go.Na
structure DV (C:Ctx):Prop extends aIC C where
 bits:∀ xs,Lim xs→xs.length≤16777216→aJ C 31 [aF xs] .nil (aK (.int .i64 (bY (val xs):Nat)))
 upM:∀ (a:List Nat) (n:Nat),Lim a→a.length≤8388608→n≤8388608→(a.length=0→val a=0)→aJ C 45 [aF a,.int .i64 n] .nil (mD 1 (aE (aG (val a*2 ^ n))))
 down:∀ (a:List Nat) (n:Nat),Lim a→a.length≤8388608→n≤1000000000→aJ C 40 [aF a,.int .i64 n] .nil (aK (aF (aG (val a/2 ^ n))))
def udS:Spec:=fun name vs=>match name,vs with
 | 35,[.int _ v]=>some ([],fun _=>aK (aF (aG v.toNat)))
 | 44,[x,y]=>some ([],fun _=>aK (aF (aG (val (iP x)*val (iP y)))))
 | 32,[x,.osl q _ _ _]=>some ([q],fun H0 r H'=>H'=H0∧∀ xs,Lim xs→H0 q=some (.rows 1 (aE xs))→r=.int .i64 (dB (val (iP x)) (val xs)))
 | _,_=>none
theorem aRV (v:Nat):udS 35 [.int .u64 v]=some ([],fun _=>aK (aF (aG v))):=rfl
theorem aMZ (x y:List Nat):udS 44 [aF x,aF y]=some ([],fun _=>aK (aF (aG (val x*val y)))):=by
 show some ([],fun _=>aK (aF (aG (val (iP (aF x))*val (iP (aF y))))))=_; rw[eF,eF]
theorem aOD (q:Nat) (x L:List Nat):(PH.nil.set q (.rows 1 (aE L)))=(PH.nil.set q (.rows 1 (aE L)))∧∀ xs,Lim xs→(PH.nil.set q (.rows 1 (aE L))) q=some (.rows 1 (aE xs))→(PV.int .i64 (dB (val x) (val L)))=.int .i64 (dB (val (iP (aF x))) (val xs)):=by
 refine⟨rfl,fun xs hx e=>?_⟩
 rw[jK] at e
 have:aE L=aE xs:=(bX.rows.inj (bcJ.inj e)).2
 rw[GO this,eF]
def duF (n o lx:Nat) (y:List Nat) (top oq lq:Nat) (k:Int):PF :=
 ((((((PF.nil.set 10 (.int .i64 n)).set 11 (.osl o 1 0 lx)).set 12 (aF y)).set 13 (.int .u64 top)).set 14 (.osl oq 1 0 lq)).set 15 (.int .i64 k))
abbrev cW (X:List Nat) (Z:List (List PV)):List (List PV):=aE X++Z
theorem DI {X:List Nat} {Z:List (List PV)} {i:Nat} (h:i<X.length):(cW X Z)[i]?=some [.int .u32 ((X[i]:Nat):Int)]:=by
 rw[cW,bdA (by rw[bN]; exact h),bJ X h]
theorem agZ {X:List Nat} {Z:List (List PV)} {i:Nat} (h:i<X.length) (v:Nat):(cW X Z).set i [.int .u32 (v:Int)]=cW (X.set i v) Z:=by
 rw[cW,List.set_append_left _ _ (by rw[bN]; exact h),eM]
theorem agY {X:List Nat} {Z:List (List PV)} {j m:Nat} (h:j+m≤X.length):((cW X Z).drop j).take m=aE ((X.drop j).take m):=by
 rw[cW,List.drop_append_of_le_length (by rw[bN]; omega),List.take_append_of_le_length (by rw[bbZ,bN]; omega)]
 unfold aE
 rw[← List.map_drop,← List.map_take]
theorem aZE {C:Ctx} (L:DV C) (n o lx:Nat) (y:List Nat) (top oq lq j:Nat) (X:List Nat) (Z:List (List PV)) (hne:oq≠o) (hy:Lim y) (hX:Lim X) (hlx:X.length=lx) (hl:lx≤5000) (hj:j+(y.length+1)≤lx) (hy0:0<val y)
  (qv:bX) (g0:Nat) (hg:val ((X.drop j).take (y.length+1))/val y≤g0) (hg0:g0<4294967296) (K:cD) (F:PF) (H:PH) (hF:((duF n o lx y top oq lq j).set 17 (.int .u64 g0)).le F) (hH:((PH.nil.set o (.rows 1 (cW X Z))).set oq qv).le H)
  (hK:∀ F' H',((duF n o lx y top oq lq j).set 17 (.int .u64 (val ((X.drop j).take (y.length+1))/val y:Nat))).le F'→((PH.nil.set o (.rows 1 (cW X Z))).set oq qv).le H'→K .normal F' H') :
  aC.wp C (.block 4 (.loop qT)) K F H:=by
 have hne':¬ o=oq:=fun h=>hne h.symm
 have hWl:((X.drop j).take (y.length+1)).length=y.length+1:=by rw[baV,bbZ]; omega
 have hWL:Lim ((X.drop j).take (y.length+1)):=(hX.drop _).take _
 have hcut:=agY (X:=X) (Z:=Z) (j:=j) (m:=y.length+1) (by omega)
 have hoff:j+(y.length+1)≤(cW X Z).length:=by rw[cW,baI,bN]; omega
 have hWn:aE ((X.drop j).take (y.length+1))≠[]:=fun h=>by
  have:=congrArg List.length h
  rw[bN,hWl] at this
  simp at this
 generalize hW:(X.drop j).take (y.length+1)=W at *
 generalize hqq:val W/val y=qq at *
 simp -implicitDefEqProofs only[go_sem]
 refine wp_loop (α:=Nat) (fun g=>(duF n o lx y top oq lq j).set 17 (.int .u64 g)) (fun _=>(PH.nil.set o (.rows 1 (cW X Z))).set oq qv) (fun g=>qq≤g∧g<4294967296) (fun g=>g) g0 ⟨hg,hg0⟩ hF hH ?_
 rintro g ⟨hge,hlt⟩
 have e1:IntKind.i64.wrap ((j:Int)+((y.length:Nat):Int))=((j+y.length:Nat):Int):=fD (by omega)
 have e2:IntKind.i64.wrap (((j+y.length:Nat):Int)+1)=((j+y.length+1:Nat):Int):=aL (by omega)
 have b1:(j:Int)≤((j+y.length+1:Nat):Int):=by omega
 have b2:((j+y.length+1:Nat):Int)≤(lx:Nat):=by omega
 have b3:j+y.length+1-j=y.length+1:=by omega
 have mk:=L.make g (by omega)
 have tm:=L.times y (aG g) hy (bB _) (by omega) (by
  have h1:nl g≤1:=lP (by rw[Nat.pow_one]; exact hlt)
  rw[bG]; omega)
 rw[aV] at tm
 have hnt:(aG (val y*g)).length≤16777216:=by
  have h1:nl g≤1:=lP (by rw[Nat.pow_one]; exact hlt)
  have h2:=rJ (a:=val y) (b:=g) (eK hy) h1
  rw[bG]; omega
 have cm:=L.cmp (aG (val y*g)) W (bB _) hWL hnt (by omega)
 rw[aV] at cm
 simp -implicitDefEqProofs only[go_sem,qT]
 refine cC .nil udS PH.nil_le ?_
 simp -implicitDefEqProofs only[go_sem,γ,MY,duF]
 refine cN (aRV g) mk (by simp -implicitDefEqProofs only[go_sem,γ]) PH.nil_le ?_
 simp -implicitDefEqProofs only[go_sem]
 have tS:=aMZ y (aG g)
 rw[aV] at tS
 refine cN tS tm (by simp -implicitDefEqProofs only[go_sem,γ]) PH.nil_le ?_
 simp -implicitDefEqProofs only[go_sem,γ,reduceCtorEq,baF,e1,e2,b1,b2,b3]
 refine uJ (src:=aE W) ?_ ?_ (fun h=>absurd h hWn) fun _ o' ho'=>?_
 ·simp -implicitDefEqProofs only[go_sem,hne',hoff,hcut]
 ·unfold roomFor
  rw[bN,hWl]
  simp only[maxLen]; omega
 refine⟨PH.nil_le,?_⟩
 rw[bN,hWl]
 have n1:¬ o'=oq:=(fN.1 ho').1
 refine aOF (o:=o') (s:=1) (rs:=aE W) (vs:=[aF (aG (val y*g)),.osl o' 1 0 (y.length+1)]) (v:=.int .i64 (dB (val y*g) (val W))) rfl (.int _ _) (by simp -implicitDefEqProofs only[go_sem]) ?_ ?_ ?_ (by simp -implicitDefEqProofs only[go_sem,γ]) PH.nil_le ?_
 ·rw[bbK,bbK,bcM,yI (by rw[bN,hWl]; exact baJ _),baS (by rw[bN,hWl]; exact baJ _)]
  exact cm
 ·have:=aOD o' (aG (val y*g)) W
  rw[aV] at this
  exact this
 ·rintro r H' ⟨h1,h2⟩
  have:=h2 W hWL (by rw[jK])
  rw[eF,aV] at this
  exact⟨this,h1⟩
 simp -implicitDefEqProofs only[go_sem,γ]
 by_cases c:val W<val y*g
 ·have hc:dB (val y*g) (val W)=1:=by
   unfold dB
   rw[if_neg (by omega),if_pos c]
  have hq:qq<g:=by rw[← hqq]; exact (bcV hy0).2 (by rw[bbA]; exact c)
  have ew:IntKind.u64.wrap ((g:Int)-1)=((g-1:Nat):Int):=by rw[wrap_u64 (by omega) (by omega)]; omega
  simp -implicitDefEqProofs only[go_sem,γ,hc,show (1:Int)>0 by decide,MZ,ew]
  refine aH (g-1) ⟨by omega,by omega⟩ (by omega) ?_ ?_
  ·(repeat' (first|exact PF.nil_le|refine PF.aA ?_ ?_))<;>first|(simp -implicitDefEqProofs only[go_sem,γ]<;>rfl)|rfl
  ·refine PH.aA (PH.aA PH.nil_le ?_) ?_
   ·have n2:¬ o=o':=fun h=>by
     subst h
     rw[aU,if_neg hne',jK] at ho'
     cases ho'
    simp -implicitDefEqProofs only[go_sem,n2,hne']
   ·have n3:¬ oq=o':=fun h=>n1 h.symm
    simp -implicitDefEqProofs only[go_sem,n3]
 ·have hc:¬ dB (val y*g) (val W)>0:=by
   unfold dB
   rw[if_neg c]
   split<;>decide
  have hq:g=qq:=by
   have:g≤qq:=by rw[← hqq]; exact (Nat.le_div_iff_mul_le hy0).2 (by rw[bbA]; omega)
   omega
  simp -implicitDefEqProofs only[go_sem,hc]
  refine hK _ _ ?_ ?_
  ·unfold duF
   (repeat' (first|exact PF.nil_le|refine PF.aA ?_ ?_))<;>first|(simp -implicitDefEqProofs only[go_sem,γ,← hq]<;>rfl)|rfl
  ·refine PH.aA (PH.aA PH.nil_le ?_) ?_
   ·have n2:¬ o=o':=fun h=>by
     subst h
     rw[aU,if_neg hne',jK] at ho'
     cases ho'
    simp -implicitDefEqProofs only[go_sem,n2,hne']
   ·have n3:¬ oq=o':=fun h=>n1 h.symm
    simp -implicitDefEqProofs only[go_sem,n3]
theorem aUZ (R k:Nat) (h:k<nl R):∃ h':k<(aG R).length,(aG R)[k]=R/4294967296 ^ k%4294967296:=by
 have hl:k<(aG R).length:=by rw[bG]; exact h
 refine⟨hl,?_⟩
 have h1:=qI (bB R) (Nat.le_of_lt hl)
 rw[aV,bcD hl] at h1
 have h2:=bB R _ (baN hl)
 simp only[val] at h1
 rw[← h1,Nat.add_mul_mod_self_left,bbH h2]
theorem aPP (R k:Nat) (h:nl R≤k):R/4294967296 ^ k%4294967296=0:=by
 rw[bdI ((gB R k).1 h)]
theorem aVZ {A P W Z:List Nat} {i:Nat} (hP:P.length=i) (hi:i<W.length) (v:Nat):(A++(P++W.drop i)++Z).set (A.length+i) v=A++((P++[v])++W.drop (i+1))++Z :=
 GO (by rw[← eM]; exact yT hP hi v)
theorem a1P {C:Ctx} (n o lx:Nat) (y:List Nat) (top oq lq j:Nat) (X:List Nat) (Z:List (List PV)) (hne:oq≠o) (hlx:X.length=lx) (hl:lx≤5000) (hj:j+(y.length+1)≤lx)
  (qv:bX) (g R:Nat) (K:cD) (F:PF) (H:PH) (hF:((((duF n o lx y top oq lq j).set 17 (.int .u64 g)).set 18 (aF (aG R))).set 19 (.int .i64 0)).le F) (hH:((PH.nil.set o (.rows 1 (cW X Z))).set oq qv).le H)
  (hK:∀ F' H',((duF n o lx y top oq lq j).set 17 (.int .u64 g)).le F'→((PH.nil.set o (.rows 1 (cW (X.take j++cS (y.length+1) R++X.drop (j+(y.length+1))) Z))).set oq qv).le H'→K .normal F' H') :
  aC.wp C (.block 6 (.loop qU)) K F H:=by
 have hne':¬ o=oq:=fun h=>hne h.symm
 have hA:(X.take j).length=j:=by rw[baV]; omega
 have hWl:((X.drop j).take (y.length+1)).length=y.length+1:=by rw[baV,bbZ]; omega
 have hZl:(X.drop (j+(y.length+1))).length=lx-(j+(y.length+1)):=by rw[bbZ,hlx]
 have hsplit:X.take j++(X.drop j).take (y.length+1)++X.drop (j+(y.length+1))=X:=by
  rw[bbJ,← List.drop_drop,bcT,bcT]
 rw[← hsplit] at hH
 generalize hAA:X.take j=A at *
 generalize hWW:(X.drop j).take (y.length+1)=W at *
 generalize hZZ:X.drop (j+(y.length+1))=Zx at *
 simp -implicitDefEqProofs only[go_sem]
 refine wp_loop (α:=List Nat) (fun P=>(((duF n o lx y top oq lq j).set 17 (.int .u64 g)).set 18 (aF (aG R))).set 19 (.int .i64 P.length)) (fun P=>(PH.nil.set o (.rows 1 (cW (A++(P++W.drop P.length)++Zx) Z))).set oq qv)
  (fun P=>P.length≤y.length+1∧P=cS P.length R) (fun P=>y.length+1-P.length) [] ⟨baR _,rfl⟩ hF (by simpa using hH) ?_
 rintro P ⟨hP,hD⟩
 simp -implicitDefEqProofs only[go_sem,γ,qU,NA,duF]
 by_cases c:P.length<y.length+1
 ·have c':(P.length:Int)≤(y.length:Nat):=by omega
  have ei:IntKind.i64.wrap ((j:Int)+(P.length:Int))=((j+P.length:Nat):Int):=fD (by omega)
  have hlen:(A++(P++W.drop P.length)++Zx).length=lx:=by
   simp only[baI,bbZ]; omega
  have hi:j+P.length<(A++(P++W.drop P.length)++Zx).length:=by omega
  have b1:((j+P.length:Nat):Int)<(lx:Nat):=by omega
  have r1:=DI (Z:=Z) hi
  have s1:=agZ (Z:=Z) hi 0
  have hi2:j+P.length<((A++(P++W.drop P.length)++Zx).set (j+P.length) 0).length:=by rw[bdB]; exact hi
  have hput:=fun v=>aVZ (A:=A) (P:=P) (W:=W) (Z:=Zx) (i:=P.length) rfl (by omega) v
  rw[hA] at hput
  generalize hXX:A++(P++W.drop P.length)++Zx=XX at *
  have r2:(cW (A++((P++[0])++W.drop (P.length+1))++Zx) Z)[j+P.length]?=some [.int .u32 ((0:Nat):Int)]:=by
   rw[← hput 0,DI hi2,List.getElem_set_self]
  have s2:∀ v,(cW (A++((P++[0])++W.drop (P.length+1))++Zx) Z).set (j+P.length) [.int .u32 ((v:Nat):Int)]=cW (A++((P++[v])++W.drop (P.length+1))++Zx) Z:=by
   intro v
   rw[← hput 0,agZ hi2,List.set_set,hput]
  have hnext:=rB P.length R
  rw[← hD] at hnext
  have ew:IntKind.i64.wrap ((P.length:Int)+1)=((P.length+1:Nat):Int):=aL (by omega)
  simp -implicitDefEqProofs only[go_sem,γ,c',NB,ei,b1,hne',r1,show ([PV.int .u32 (0:Int)])=[PV.int .u32 ((0:Nat):Int)] from rfl,s1,NC,bG]
  by_cases c2:P.length<nl R
  ·have c2':(P.length:Int)<(nl R:Nat):=by omega
   obtain⟨hl',hv⟩:=aUZ R P.length c2
   have hr:=bJ (aG R) hl'
   rw[hv] at hr
   simp -implicitDefEqProofs only[go_sem,γ,c2',ND,hr,ei,b1,hne',r2,s2,List.set_set,hput,xT,ew]
   refine aH (P++[R/4294967296 ^ P.length%4294967296]) ⟨by simp; omega,by rw[baI,baL]; exact hnext.symm⟩ (by simp; omega) ?_ ?_
   ·rw[baI,baL]
    (repeat' (first|exact PF.nil_le|refine PF.aA ?_ ?_))<;>first|(simp -implicitDefEqProofs only[go_sem,γ]<;>rfl)|rfl
   ·rw[baI,baL]
    refine PH.aA (PH.aA PH.nil_le ?_) ?_<;>simp -implicitDefEqProofs only[go_sem,hne',show ¬ oq=o from hne]
  ·have c2':¬ (P.length:Int)<(nl R:Nat):=by omega
   have hv:=aPP R P.length (by omega)
   rw[hv] at hnext
   simp -implicitDefEqProofs only[go_sem,γ,c2',hput,xT,ew]
   refine aH (P++[0]) ⟨by simp; omega,by rw[baI,baL]; exact hnext.symm⟩ (by simp; omega) ?_ ?_
   ·rw[baI,baL]
    (repeat' (first|exact PF.nil_le|refine PF.aA ?_ ?_))<;>first|(simp -implicitDefEqProofs only[go_sem,γ]<;>rfl)|rfl
   ·rw[baI,baL]
    refine PH.aA (PH.aA PH.nil_le ?_) ?_<;>simp -implicitDefEqProofs only[go_sem,hne',show ¬ oq=o from hne]
 ·have c':¬ (P.length:Int)≤(y.length:Nat):=by omega
  have e:P.length=y.length+1:=by omega
  simp -implicitDefEqProofs only[go_sem,c']
  refine hK _ _ (by unfold duF; (repeat' (first|exact PF.nil_le|refine PF.aA ?_ ?_))<;>first|(simp -implicitDefEqProofs only[go_sem,γ]<;>rfl)|rfl) ?_
  have h2:A++cS (y.length+1) R++Zx=A++(P++W.drop P.length)++Zx:=by
   rw[bdL (by omega),bbY,← e,← hD]
  rw[h2]
  exact PH.le_refl
end Go.PM
namespace Go.PM
open Go Go.Na
theorem aPG {y W:List Nat} {m:Nat} (hy:Lim y) (hW:Lim W) (hly:y.length=m+1) (hlW:W.length=m+2) (ht:0<y[m]):val W/val y≤(4294967296*W[m+1]+W[m])/y[m]:=by
 have h1:=bQ y (show m<y.length by omega)
 rw[baS (by omega)] at h1
 have h2:=bQ W (show m+1<W.length by omega)
 rw[baS (by omega),bQ W (show m<W.length by omega)] at h2
 have h3:=dY (hW.take m)
 rw[baV,bcC (by omega)] at h3
 have hp:0<4294967296 ^ m:=bcR (by decide)
 have hb:4294967296 ^ m*y[m]≤val y:=by omega
 have hpos:0<4294967296 ^ m*y[m]:=Nat.mul_pos hp ht
 have e:val W=val (W.take m)+4294967296 ^ m*(4294967296*W[m+1]+W[m]):=by
  rw[h2,bbS,baO,baX]; omega
 refine bcP (Nat.div_le_div_left hb hpos) ?_
 rw[← Nat.div_div_eq_div_mul,e,Nat.add_mul_div_left _ _ hp,bdI h3,bbF]
 exact baJ _
theorem aNA {C:Ctx} (L:DV C) (U0 n o lx lq oq m:Nat) (y z:List Nat) (hne:oq≠o) (hy:Lim y) (hly:y.length=m+1) (ht:0<y[m]) (hlu:lx=lq+(m+1)) (hmax:lx≤5000) (X:List Nat) (hI:lJ U0 (val y) (m+1) lx lq lq X (baH lq 0)) (K:cD) (F:PF) (H:PH)
  (hF:(duF n o lx y (y[m]) oq lq ((lq:Int)-1)).le F) (hH:((PH.nil.set o (.rows 1 (cW X (aE z)))).set oq (.rows 1 (aE (baH lq 0)))).le H)
  (hK:∀ X' Q' F' H',lJ U0 (val y) (m+1) lx lq 0 X' Q'→(duF n o lx y (y[m]) oq lq (-1)).le F'→((PH.nil.set o (.rows 1 (cW X' (aE z)))).set oq (.rows 1 (aE Q'))).le H'→K .normal F' H') :
  aC.wp C (.block 2 (.loop qV)) K F H:=by
 have hne':¬ o=oq:=fun h=>hne h.symm
 have hne2:¬ oq=o:=hne
 have hV:val y<4294967296 ^ (m+1):=by have:=dY hy; rw[hly] at this; exact this
 have hV0:0<val y:=by
  have h1:=bQ y (show m<y.length by omega)
  rw[baS (by omega)] at h1
  have:0<4294967296 ^ m*y[m]:=Nat.mul_pos (bcR (by decide)) ht
  omega
 have htl:=hy _ (baN (show m<y.length by omega))
 generalize htop:y[m]=top at *
 simp -implicitDefEqProofs only[go_sem]
 refine wp_loop (α:=Nat × List Nat × List Nat) (fun t=>duF n o lx y top oq lq ((t.1:Int)-1)) (fun t=>(PH.nil.set o (.rows 1 (cW t.2.1 (aE z)))).set oq (.rows 1 (aE t.2.2)))
  (fun t=>t.1≤lq∧lJ U0 (val y) (m+1) lx lq t.1 t.2.1 t.2.2) (fun t=>t.1) (lq,X,baH lq 0) ⟨baJ _,hI⟩ hF hH ?_
 rintro⟨k,X,Q⟩ ⟨hk,hI⟩
 simp only at hk hI
 simp -implicitDefEqProofs only[go_sem,γ,qV,MT,duF]
 by_cases h0:0<k
 ·obtain⟨j,rfl⟩:∃ j,k=j+1:=⟨k-1,by omega⟩
  have hz:((j+1:Nat):Int)-1=(j:Int):=by omega
  have hge:(j:Int)≥0:=by omega
  have dst:=aiZ hI hV (by omega) hlu
  rw[show m+1+1=m+2 from rfl] at dst
  obtain⟨hlt,hI'⟩:=dst
  have hXl:=hI.lu'
  have hQl:=hI.lq'
  have hWl:((X.drop j).take (m+2)).length=m+2:=by rw[baV,bbZ]; omega
  have hWL:Lim ((X.drop j).take (m+2)):=(hI.limU.drop _).take _
  have hg1:m+1<((X.drop j).take (m+2)).length:=by omega
  have hg0:m<((X.drop j).take (m+2)).length:=by omega
  have a1:j+(m+1)<X.length:=by omega
  have a0:j+m<X.length:=by omega
  have w1:((X.drop j).take (m+2))[m+1]=X[j+(m+1)]:=by simp
  have w0:((X.drop j).take (m+2))[m]=X[j+m]:=by simp
  have hgu:=aPG hy hWL hly hWl (by rw[htop]; exact ht)
  rw[w1,w0,htop] at hgu
  have r1:=DI (Z:=aE z) a1
  have r0:=DI (Z:=aE z) a0
  have l1:=hI.limU _ (baN a1)
  have l0:=hI.limU _ (baN a0)
  generalize hx1:X[j+(m+1)]=x1 at *
  generalize hx0:X[j+m]=x0 at *
  have e1:IntKind.i64.wrap ((j:Int)+((y.length:Nat):Int))=((j+(m+1):Nat):Int):=by rw[hly]; exact fD (by omega)
  have e0:IntKind.i64.wrap (((j+(m+1):Nat):Int)-1)=((j+m:Nat):Int):=by rw[wrap_i64 (by omega) (by omega)]; omega
  have b1:((j+(m+1):Nat):Int)<(lx:Nat):=by omega
  have b0:((j+m:Nat):Int)<(lx:Nat):=by omega
  have ex1:IntKind.u64.wrap ((x1:Nat):Int)=((x1:Nat):Int):=aW (by omega)
  have ex0:IntKind.u64.wrap ((x0:Nat):Int)=((x0:Nat):Int):=aW (by omega)
  have esh:shift .shl .u64 (x1:Int) 32=some (.int .u64 ((2 ^ 32*x1:Nat):Int)):=CB (s:=32) (by omega) (by omega)
  have e32:(2:Nat) ^ 32=4294967296:=by decide
  have eor:=orI (a:=2 ^ 32*x1) (b:=x0) (n:=2 ^ 32*x1+x0) (by omega) (by omega) (Nat.two_pow_add_eq_or_of_lt (by omega) x1).symm (by omega)
  rw[e32] at esh eor
  have hdd:¬ ((top:Nat):Int)=0:=by omega
  have hq64:(4294967296*x1+x0)/top<18446744073709551616:=Nat.lt_of_le_of_lt (bdC _ _) (by omega)
  have equo:IntKind.u64.wrap (Int.tdiv ((4294967296*x1+x0:Nat):Int) ((top:Nat):Int))=(((4294967296*x1+x0)/top:Nat):Int):=by
   rw[show Int.tdiv ((4294967296*x1+x0:Nat):Int) ((top:Nat):Int)=(((4294967296*x1+x0)/top:Nat):Int) from rfl]
   exact aW hq64
  have hqB:val ((X.drop j).take (m+2))/val y<4294967296:=(bcV hV0).2 (by rw[bbA]; exact hlt)
  have hcut:=agY (X:=X) (Z:=aE z) (j:=j) (m:=m+2) (by omega)
  have hoff:j+(m+2)≤(cW X (aE z)).length:=by rw[cW,baI,bN]; omega
  have hrest:val ((X.drop j).take (m+2))-val y*(val ((X.drop j).take (m+2))/val y)=val ((X.drop j).take (m+2))%val y:=by
   have:=bdH (val ((X.drop j).take (m+2))) (val y)
   omega
  have hmulle:val y*(val ((X.drop j).take (m+2))/val y)≤val ((X.drop j).take (m+2)):=Nat.mul_div_le _ _
  clear w1 w0
  have gu:=fun g0=>aZE (C:=C) L n o lx y top oq lq j X (aE z) hne hy hI.limU hXl hmax (by omega) hV0 (.rows 1 (aE Q)) g0
  rw[hly,show m+1+1=m+2 from rfl] at gu
  generalize hW:(X.drop j).take (m+2)=W at *
  generalize hqq:val W/val y=qq at *
  have hWn:aE W≠[]:=fun h=>by
   have:=congrArg List.length h
   rw[bN,hWl] at this
   simp at this
  have tail:∀ (g0:Nat) (F:PF) (H:PH),qq≤g0→g0<4294967296→((duF n o lx y top oq lq j).set 17 (.int .u64 g0)).le F→((PH.nil.set o (.rows 1 (cW X (aE z)))).set oq (.rows 1 (aE Q))).le H →
    aC.wp C (.seq (.block 4 (.loop qT)) (.seq (.region xR) (.seq (.seq (.region xS) (.block 6 (.loop qU))) (.region xU)))) (eO 3 (kE C (aC.wp C (.region xV)) (fV (fun (t:Nat × List Nat × List Nat)=>duF n o lx y top oq lq ((t.1:Int)-1)) (fun t=>(PH.nil.set o (.rows 1 (cW t.2.1 (aE z)))).set oq (.rows 1 (aE t.2.2))) (fun t=>t.1≤lq∧lJ U0 (val y) (m+1) lx lq t.1 t.2.1 t.2.2) (fun t=>t.1) (j+1) (eO 2 K)))) F H:=by
   intro g0 F H hg hgB hF hH
   have gu:=gu g0 hg hgB
   simp -implicitDefEqProofs only[go_sem] at gu
   simp -implicitDefEqProofs only[go_sem]
   refine gu _ F H hF hH ?_
   intro F1 H1 hF1 hH1
   have f11:F1 11=some (.osl o 1 0 lx):=hF1 11 _ (by unfold duF; simp -implicitDefEqProofs only[go_sem,γ])
   have f12:F1 12=some (aF y):=hF1 12 _ (by unfold duF; simp -implicitDefEqProofs only[go_sem,γ])
   have f15:F1 15=some (.int .i64 j):=hF1 15 _ (by unfold duF; simp -implicitDefEqProofs only[go_sem,γ])
   have f17:F1 17=some (.int .u64 (qq:Nat)):=hF1 17 _ (by unfold duF; simp -implicitDefEqProofs only[go_sem,γ])
   have f10:F1 10=some (.int .i64 n):=hF1 10 _ (by unfold duF; simp -implicitDefEqProofs only[go_sem,γ])
   have f13:F1 13=some (.int .u64 top):=hF1 13 _ (by unfold duF; simp -implicitDefEqProofs only[go_sem,γ])
   have f14:F1 14=some (.osl oq 1 0 lq):=hF1 14 _ (by unfold duF; simp -implicitDefEqProofs only[go_sem,γ])
   have ho:H1 o=some (.rows 1 (cW X (aE z))):=hH1 o _ (by simp -implicitDefEqProofs only[go_sem,hne'])
   have hoq:H1 oq=some (.rows 1 (aE Q)):=hH1 oq _ (by simp -implicitDefEqProofs only[go_sem])
   have b3:(j:Int)≤((j+(m+1)+1:Nat):Int):=by omega
   have b4:((j+(m+1)+1:Nat):Int)≤(lx:Nat):=by omega
   have b5:j+(m+1)+1-j=m+2:=by omega
   have e2:IntKind.i64.wrap (((j+(m+1):Nat):Int)+1)=((j+(m+1)+1:Nat):Int):=aL (by omega)
   simp -implicitDefEqProofs only[go_sem,γ,reduceCtorEq,xR,f11,f15,f12,baF,e1,e2,b3,b4,b5]
   refine uJ (src:=aE W) ?_ ?_ (fun h=>absurd h hWn) fun _ o' ho'=>?_
   ·simp -implicitDefEqProofs only[go_sem,ho,hoff,hcut]
   ·unfold roomFor
    rw[bN,hWl]
    simp only[maxLen]; omega
   rw[bN,hWl]
   have n1:¬ oq=o':=fun h=>by subst h; rw[hoq] at ho'; cases ho'
   have n2:¬ o=o':=fun h=>by subst h; rw[ho] at ho'; cases ho'
   have nq:nl qq≤1:=lP (by rw[Nat.pow_one]; exact hqB)
   have tm:=L.times y (aG qq) hy (bB _) (by omega) (by rw[bG]; omega)
   rw[aV] at tm
   have nW:=eK hWL
   have mn:=L.minus W (aG (val y*qq)) hWL (bB _) (by rw[aV]; exact hmulle) (by rw[bG]; exact bcP (fZ hmulle) nW) (by omega)
   rw[aV,hrest] at mn
   have hWt:(aE W).take (m+2)=aE W:=baS (by rw[bN]; omega)
   simp -implicitDefEqProofs only[go_sem,f17]
   refine aB (L.make qq (by omega)) (by simp -implicitDefEqProofs only[go_sem,γ]) ?_
   simp -implicitDefEqProofs only[go_sem,f12]
   refine aB tm (by simp -implicitDefEqProofs only[go_sem,γ]) ?_
   simp -implicitDefEqProofs only[go_sem]
   refine nD (o:=o') (s:=1) (rs:=aE W) mn (by simp -implicitDefEqProofs only[go_sem]) (by simp -implicitDefEqProofs only[go_sem,γ,show m+2≤W.length by omega,hWt]) ?_
   simp -implicitDefEqProofs only[go_sem,γ,xS]
   have hfx:(cW X (aE z)).map (fun r=>r.map (PV.cZ o' 1 (aE W)))=cW X (aE z):=by
    have:cW X (aE z)=aE (X++z):=by simp[cW,aE]
    rw[this]; exact nZ _ _ _ _
   have hfq:(aE Q).map (fun r=>r.map (PV.cZ o' 1 (aE W)))=aE Q:=nZ _ _ _ _
   have ur:=a1P (C:=C) n o lx y top oq lq j X (aE z) hne hXl hmax (by omega) (.rows 1 (aE Q)) qq (val W%val y)
   rw[hly,show m+1+1=m+2 from rfl] at ur
   simp -implicitDefEqProofs only[go_sem] at ur
   refine ur _ _ _ ?_ ?_ ?_
   ·unfold duF
    (repeat' (first|exact PF.nil_le|refine PF.aA ?_ ?_))<;>first|(simp -implicitDefEqProofs only[go_sem,γ,f10,f11,f12,f13,f14,f15,f17,n1,n2]<;>rfl)|rfl
   ·refine PH.aA (PH.aA PH.nil_le ?_) ?_
    ·simp -implicitDefEqProofs only[go_sem,hne',n2,ho,bX.frz,hfx]
    ·simp -implicitDefEqProofs only[go_sem,n1,hoq,bX.frz,hfq]
   intro F3 H3 hF3 hH3
   have k10:F3 10=some (.int .i64 n):=hF3 10 _ (by unfold duF; simp -implicitDefEqProofs only[go_sem,γ])
   have k11:F3 11=some (.osl o 1 0 lx):=hF3 11 _ (by unfold duF; simp -implicitDefEqProofs only[go_sem,γ])
   have k12:F3 12=some (aF y):=hF3 12 _ (by unfold duF; simp -implicitDefEqProofs only[go_sem,γ])
   have k13:F3 13=some (.int .u64 top):=hF3 13 _ (by unfold duF; simp -implicitDefEqProofs only[go_sem,γ])
   have k14:F3 14=some (.osl oq 1 0 lq):=hF3 14 _ (by unfold duF; simp -implicitDefEqProofs only[go_sem,γ])
   have k15:F3 15=some (.int .i64 j):=hF3 15 _ (by unfold duF; simp -implicitDefEqProofs only[go_sem,γ])
   have k17:F3 17=some (.int .u64 qq):=hF3 17 _ (by unfold duF; simp -implicitDefEqProofs only[go_sem,γ])
   have ho3:H3 o=some (.rows 1 (cW (X.take j++cS (m+2) (val W%val y)++X.drop (j+(m+2))) (aE z))):=hH3 o _ (by simp -implicitDefEqProofs only[go_sem,hne'])
   have hq3:H3 oq=some (.rows 1 (aE Q)):=hH3 oq _ (by simp -implicitDefEqProofs only[go_sem])
   have hjq:j<Q.length:=by omega
   have rq:=bJ Q hjq
   have hjl:(j:Int)<(lq:Nat):=by omega
   have sq:=eM Q j qq
   have ec:IntKind.u32.wrap ((qq:Nat):Int)=((qq:Nat):Int):=by rw[bV,bbH hqB]
   have ej:IntKind.i64.wrap ((j:Int)-1)=(j:Int)-1:=wrap_i64 (by omega) (by omega)
   simp -implicitDefEqProofs only[go_sem,γ,xU,k14,k15,k17,hjl,hq3,rq,ec,sq,xV,ej]
   refine aH (α:=Nat × List Nat × List Nat) (j,_,_) ⟨by simp only; omega,hI'⟩ (by simp only; omega) ?_ ?_
   ·unfold duF
    (repeat' (first|exact PF.nil_le|refine PF.aA ?_ ?_))<;>first|(simp -implicitDefEqProofs only[go_sem,γ,k10,k11,k12,k13,k14]<;>rfl)|rfl
   ·refine PH.aA (PH.aA PH.nil_le ?_) ?_
    ·simp -implicitDefEqProofs only[go_sem,hne',ho3]
    ·simp -implicitDefEqProofs only[go_sem]
  simp only[aC.wp,go_sem] at tail
  simp -implicitDefEqProofs only[go_sem,hz,hge]
  refine cC .nil eE PH.nil_le ?_
  simp -implicitDefEqProofs only[go_sem,γ,reduceCtorEq,MU,e1,e0,b1,b0,hne',r1,r0,ex1,ex0,esh,eor,MV,hdd,equo,MW]
  by_cases c:(4294967296*x1+x0)/top>4294967295
  ·have c':(((4294967296*x1+x0)/top:Nat):Int)>4294967295:=by omega
   simp -implicitDefEqProofs only[go_sem,c',MX]
   exact tail 4294967295 _ _ (by omega) (by decide) (by unfold duF; (repeat' (first|exact PF.nil_le|refine PF.aA ?_ ?_))<;>first|(simp -implicitDefEqProofs only[go_sem,γ]<;>rfl)|rfl) PH.le_refl
  ·have c':¬ (((4294967296*x1+x0)/top:Nat):Int)>4294967295:=by omega
   simp -implicitDefEqProofs only[go_sem,c']
   exact tail _ _ _ hgu (by omega) (by unfold duF; (repeat' (first|exact PF.nil_le|refine PF.aA ?_ ?_))<;>first|(simp -implicitDefEqProofs only[go_sem,γ]<;>rfl)|rfl) PH.le_refl
 ·have:k=0:=by omega
  subst this
  have hz:¬ ((0:Nat):Int)-1≥0:=by decide
  simp -implicitDefEqProofs only[go_sem,hz]
  refine hK X Q _ _ hI ?_ PH.le_refl
  unfold duF
  (repeat' (first|exact PF.nil_le|refine PF.aA ?_ ?_))<;>first|(simp -implicitDefEqProofs only[go_sem,ο,γ,show ((0:Nat):Int)-1=-1 from rfl]<;>rfl)|rfl
end Go.PM
namespace Go.PM
open Go Go.Na
def aRU (a:List Nat) (d q k r:Nat):PF:=(((((PF.nil.set 0 (aF a)).set 1 (aF [d])).set 6 (.osl q 1 0 a.length)).set 7 (.int .u64 r)).set 8 (.int .i64 ((k:Int)-1)))
theorem aHM {C:Ctx} (L:DV C) (a:List Nat) (d:Nat) (ha:Lim a) (hd0:0<d) (hd:d<4294967296) (h1:a.length≤1000) (F:PF) (f0:F 0=some (aF a)) (f1:F 1=some (aF [d])) :
  aC.wp C (.seq (.region CO) (.seq (.region CP) (.seq (.seq (.region CQ) (.block 0 (.loop xL))) (.seq (.region xM) .ret)))) (aZ [.tmp 4,.tmp 5] (bW (mW (val a) d))) F .nil:=by
 have hm1:((a.length:Nat):Int)*((4:Nat):Int)≤140737488355328:=by omega
 have hm2:((a.length:Nat):Int)≤9223372036854775807:=by omega
 have hz:baH a.length [PV.int .u32 0]=aE (baH a.length 0++[]):=by
  simp[aE]
 simp -implicitDefEqProofs only[go_sem,γ,CO,f0,baF,hm1,hm2,hz]
 refine aP fun o ho=>?_
 simp -implicitDefEqProofs only[go_sem,γ,reduceCtorEq,CP,CQ,f0,baF]
 refine wp_loop (α:=Nat × List Nat × Nat) (fun t=>aRU a d o t.1 t.2.2) (fun t=>PH.nil.set o (.rows 1 (aE (baH t.1 0++t.2.1))))
  (fun t=>t.1+t.2.1.length=a.length∧Lim t.2.1∧t.2.2<d∧val t.2.1*d+t.2.2=val (a.drop t.1)) (fun t=>t.1) (a.length,[],0) ⟨by simp,by simp[Lim],hd0,by simp[val]⟩ ?_ ?_ ?_
 ·unfold aRU
  (repeat' (first|exact PF.nil_le|refine PF.aA ?_ ?_))<;>first|(simp -implicitDefEqProofs only[go_sem,γ,reduceCtorEq,f0,f1,wrap_i64 (show -9223372036854775808≤((a.length:Nat):Int)-1 by omega) (show ((a.length:Nat):Int)-1≤9223372036854775807 by omega)]<;>rfl)|rfl
 ·exact PH.aA PH.nil_le (by simp -implicitDefEqProofs only[go_sem])
 rintro⟨k,S,r⟩ ⟨hk,hLim,hr,hval⟩
 simp only at hk hLim hr hval
 simp -implicitDefEqProofs only[go_sem,γ,reduceCtorEq,xL,VV,aRU]
 by_cases h0:0<k
 ·obtain⟨m,rfl⟩:∃ m,k=m+1:=⟨k-1,by omega⟩
  have hzz:((m+1:Nat):Int)-1=(m:Int):=by omega
  have hge:(m:Int)≥0:=by omega
  have hml:m<a.length:=by omega
  have hlt:(m:Int)<(a.length:Nat):=by omega
  have hai:=ha _ (baN hml)
  have hdrop:val (a.drop m)=a[m]+4294967296*val (a.drop (m+1)):=by rw[bcD hml]; rfl
  have hax:=bJ a hml
  generalize hx:a[m]=x at *
  have ex:IntKind.u64.wrap ((x:Nat):Int)=((x:Nat):Int):=aW (by omega)
  have ed:IntKind.u64.wrap ((d:Nat):Int)=((d:Nat):Int):=aW (by omega)
  have esh:shift .shl .u64 (r:Int) 32=some (.int .u64 ((2 ^ 32*r:Nat):Int)):=CB (s:=32) (by omega) (by omega)
  have e32:(2:Nat) ^ 32=4294967296:=by decide
  have eor:=orI (a:=2 ^ 32*r) (b:=x) (n:=2 ^ 32*r+x) (by omega) (by omega) (Nat.two_pow_add_eq_or_of_lt (by omega) r).symm (by omega)
  rw[e32] at esh eor
  have hq:(4294967296*r+x)/d<4294967296:=by
   rw[bcV hd0]
   have:4294967296*(r+1)≤4294967296*d:=bcI _ hr
   omega
  have hdd:¬ ((d:Nat):Int)=0:=by omega
  have equo:IntKind.u64.wrap (Int.tdiv ((4294967296*r+x:Nat):Int) ((d:Nat):Int))=(((4294967296*r+x)/d:Nat):Int):=by
   rw[show Int.tdiv ((4294967296*r+x:Nat):Int) ((d:Nat):Int)=(((4294967296*r+x)/d:Nat):Int) from rfl]
   exact aW (by omega)
  have erem:Int.tmod ((4294967296*r+x:Nat):Int) ((d:Nat):Int)=(((4294967296*r+x)%d:Nat):Int):=rfl
  have ec:IntKind.u32.wrap (((4294967296*r+x)/d:Nat):Int)=(((4294967296*r+x)/d:Nat):Int):=by rw[bV,bbH hq]
  have hrep:baH (m+1) 0++S=baH m 0++(0::S):=by
   rw[List.replicate_succ',bbJ]; rfl
  have hin:(aE (baH m 0++(0::S)))[m]?=some [.int .u32 ((0:Nat):Int)]:=by
   rw[bJ _ (by simp)]; simp
  have hrow:(aE (baH m 0++(0::S))).set m [.int .u32 (((4294967296*r+x)/d:Nat):Int)]=aE (baH m 0++(((4294967296*r+x)/d)::S)):=by
   rw[eM,bdG _ _ (by simp)]; simp
  simp -implicitDefEqProofs only[go_sem,ν,γ,reduceCtorEq,hzz,hge,VW,esh,hax,ex,eor,VX,ed,hdd,equo,ec,hlt,hrep,hin,hrow,MP,erem,MQ]
  refine aH (m,((4294967296*r+x)/d)::S,(4294967296*r+x)%d) ⟨by simp only[bcN]; omega,fun y hy=>?_,bbM _ hd0,?_⟩ (by simp only; omega) ?_ (PH.aA PH.nil_le (by simp -implicitDefEqProofs only[go_sem]))
  ·rw[baP] at hy
   rcases hy with rfl | hy
   ·exact hq
   ·exact hLim y hy
  ·simp only[val]
   rw[hdrop,← hval,bbD,baO,baX]
   have:=bdH (4294967296*r+x) d
   rw[bbA d] at this
   omega
  ·(repeat' (first|exact PF.nil_le|refine PF.aA ?_ ?_))<;>first|(simp -implicitDefEqProofs only[go_sem,γ,reduceCtorEq,wrap_i64 (show -9223372036854775808≤(m:Int)-1 by omega) (show (m:Int)-1≤9223372036854775807 by omega)]<;>rfl)|rfl
 ·have:k=0:=by omega
  subst this
  have hzz:¬ ((0:Nat):Int)-1≥0:=by decide
  rw[bbG] at hval
  have hS:S.length=a.length:=by omega
  have hq:val S=val a/d:=by
   rw[← hval,bbA,Nat.mul_add_div hd0,bdI hr,bcH]
  have hrm:r=val a%d:=by rw[← hval,bbA,Nat.mul_add_mod,bbH hr]
  have hn0:baH 0 0++S=S:=by simp
  have hl:=L.trim S hLim (by omega)
  have hSt:(aE S).take a.length=aE S:=baS (by rw[bN]; omega)
  simp -implicitDefEqProofs only[go_sem,υ,γ,reduceCtorEq,hzz,xM,List.nil_append]
  refine nD (o:=o) (s:=1) (rs:=aE S) hl (by simp -implicitDefEqProofs only[go_sem]) (by simp -implicitDefEqProofs only[go_sem,γ,reduceCtorEq,hSt,show a.length≤S.length by omega]) ?_
  simp -implicitDefEqProofs only[go_sem,γ,reduceCtorEq]
  refine aB (L.make r (by omega)) (by simp -implicitDefEqProofs only[go_sem,γ,reduceCtorEq]) ?_
  simp -implicitDefEqProofs only[go_sem,γ,reduceCtorEq]
  refine aY (vs:=[aF (aG (val S)),aF (aG r)]) (.inr rfl) .nil (by simp -implicitDefEqProofs only[go_sem,γ,reduceCtorEq]<;>rfl) PH.nil_le ⟨?_,rfl⟩
  rw[hq,hrm]
  exact .refl _
end Go.PM
namespace Go.PM
open Go Go.Na
theorem aTA {B m:Nat} (h:nl B=m+1):32*m<bY B∧bY B≤32*(m+1):=by
 refine⟨?_,(sV B (m+1)).2 (by omega)⟩
 rcases baU (32*m) (bY B) with h1 | h1
 ·exact h1
 ·have:=(sV B m).1 h1
  omega
theorem aTB {B:Nat} (h:B≠0):2 ^ (bY B-1)≤B:=by
 rcases baU B (2 ^ (bY B-1)) with h1 | h1
 ·have h2:=(jE B _).2 h1
  have h3:bY B≠0:=fun e=>h (gG.1 e)
  omega
 ·exact h1
theorem aHN {C:Ctx} (L:DV C) (A B:Nat) (hB:B≠0) (hA:nl A≤512) (hBl:nl B≤512) :
  uG.wp C (aZ yY.res (bW (mW A B))) (PF.args [aF (aG A),aF (aG B)]) .nil:=by
 have LA:=bB A
 have LB:=bB B
 have vA:=aV A
 have vB:=aV B
 have lA:(aG A).length=nl A:=rfl
 have lB:(aG B).length=nl B:=rfl
 simp -implicitDefEqProofs only[go_sem,γ,reduceCtorEq,uG,VR,VS,yY]
 refine aB (L.cmp _ _ LA LB (by omega) (by omega)) rfl ?_
 rw[vA,vB]
 by_cases c1:A<B
 ·have hc:dB A B<0:=by simp[dB,c1]
  simp -implicitDefEqProofs only[go_sem,γ,reduceCtorEq,hc,VT]
  refine aB (L.trim _ LA (by omega)) rfl ?_
  rw[vA]
  simp -implicitDefEqProofs only[go_sem,γ]
  refine aY (vs:=[.nils,aF (aG A)]) (.inr rfl) .nil rfl PH.nil_le ⟨?_,rfl⟩
  rw[mW,bdI c1,bbH c1,eU]
  exact CoL.tup (CoL.cons (.nil 1) (CoL.cons (.refl _) .nil))
 have hc:¬ dB A B<0:=by
  unfold dB
  rw[if_neg c1]
  split<;>decide
 have hB0:0<B:=bcQ hB
 have hnB:nl B≠0:=fun h=>hB (gZ.1 h)
 simp -implicitDefEqProofs only[go_sem,γ,hc,VU,baF,lB]
 by_cases c2:nl B=1
 ·have hBB:B<4294967296:=by have:=(gB B 1).1 (by omega); simpa using this
  have hlb:aG B=[B]:=kT hB hBB
  have sh:=aHM (C:=C) L (aG A) B LA hB0 hBB (by omega)
  rw[vA] at sh
  simp only[aC.wp,go_sem] at sh
  simp -implicitDefEqProofs only[go_sem,bS (show ((nl B:Nat):Int)=1 by omega)]
  exact sh _ rfl (by simp -implicitDefEqProofs only[go_sem,γ,hlb])
 obtain⟨m,hm⟩:∃ m,nl B=m+1:=⟨nl B-1,by omega⟩
 have hm1:1≤m:=by omega
 obtain⟨hb1,hb2⟩:=aTA hm
 obtain⟨n,hn⟩:∃ n,n+bY B=32*(m+1):=⟨32*(m+1)-bY B,by omega⟩
 have hn32:n<32:=by omega
 have hp2:0<2 ^ n:=bcR (by decide)
 have hBlt:B<2 ^ bY B:=(jE B _).1 (baJ _)
 have hBge:=aTB hB
 have hVhi:B*2 ^ n<4294967296 ^ (m+1):=by
  have:B*2 ^ n<2 ^ bY B*2 ^ n:=Nat.mul_lt_mul_of_pos_right hBlt hp2
  rw[← Nat.pow_add,show bY B+n=32*(m+1) by omega,Nat.pow_mul] at this
  exact this
 have hVlo:4294967296 ^ m*2147483648≤B*2 ^ n:=by
  have:2 ^ (bY B-1)*2 ^ n≤B*2 ^ n:=bbE _ hBge
  rw[← Nat.pow_add,show bY B-1+n=32*m+31 by omega,Nat.pow_add,Nat.pow_mul] at this
  exact this
 have nV:nl (B*2 ^ n)=m+1:=by
  have h1:=(gB (B*2 ^ n) (m+1)).2 hVhi
  rcases baU (nl (B*2 ^ n)) (m+1) with h | h
  ·have:=(gB (B*2 ^ n) m).1 (by omega)
   have hpp:0<4294967296 ^ m:=bcR (by decide)
   omega
  ·omega
 have hV0:B*2 ^ n≠0:=Nat.mul_ne_zero hB (by omega)
 have nU1:nl (A*2 ^ n)≤nl A+1:=rJ (baJ _) (lP (by rw[Nat.pow_one]; exact Nat.pow_lt_pow_right (a:=2) (m:=n) (n:=32) (by decide) hn32))
 have hUV:B*2 ^ n≤A*2 ^ n:=bbE _ (by omega)
 have nUV:m+1≤nl (A*2 ^ n):=by rw[← nV]; exact fZ hUV
 have hU0:A*2 ^ n≠0:=by omega
 have e32:IntKind.i64.wrap (32*((nl B:Nat):Int))=((32*(m+1):Nat):Int):=by rw[wrap_i64 (by omega) (by omega)]; omega
 have en:IntKind.i64.wrap (((32*(m+1):Nat):Int)-((bY B:Nat):Int))=(n:Int):=by rw[wrap_i64 (by omega) (by omega)]; omega
 have bt:=L.bits (aG B) LB (by omega)
 rw[vB] at bt
 have ua:=L.upM (aG A) n LA (by omega) (by omega) (fun h=>by have:=dY LA; rw[h] at this; omega)
 have ub:=(L.upM (aG B) n LB (by omega) (by omega) (fun h=>by have:=dY LB; rw[h] at this; omega)).freeze
 rw[vA] at ua
 rw[vB] at ub
 have tail:∀ (o:Nat) (F:PF) (H:PH),F 0=some (aF (aG A))→F 1=some (aF (aG B))→F 10=some (.int .i64 n)→F 11=some (.osl o 1 0 (nl (A*2 ^ n)+2))→F 12=some (aF (aG (B*2 ^ n)))→H o=some (.rows 1 (aE (aG (A*2 ^ n))++[[.int .u32 0],[.int .u32 0]])) →
   aC.wp C (.seq (.region xN) (.seq (.region xO) (.seq (.region xP) (.seq (.seq (.region xQ) (.block 2 (.loop qV))) (.seq (.region xW) .ret))))) (aZ [.tmp 4,.tmp 5] (bW (mW A B))) F H:=by
  intro o F H f0 f1 f10 f11 f12 hH
  have LU:=bB (A*2 ^ n)
  have LV:=bB (B*2 ^ n)
  have vU:=aV (A*2 ^ n)
  have vV:=aV (B*2 ^ n)
  have lU:(aG (A*2 ^ n)).length=nl (A*2 ^ n):=rfl
  have lV:(aG (B*2 ^ n)).length=m+1:=nV
  have eu:IntKind.i64.wrap (((nl (A*2 ^ n):Nat):Int)+1)=((nl (A*2 ^ n)+1:Nat):Int):=aL (by omega)
  have b1:((nl (A*2 ^ n)+1:Nat):Int)≤((nl (A*2 ^ n)+2:Nat):Int):=by omega
  simp -implicitDefEqProofs only[go_sem,γ,reduceCtorEq,xN,f11,f0,f10]
  refine aB ua.freeze rfl ?_
  obtain⟨lq,hlq⟩:∃ lq,nl (A*2 ^ n)+1-(m+1)=lq:=⟨_,rfl⟩
  have hlx:nl (A*2 ^ n)+1=lq+(m+1):=by omega
  have em:IntKind.i64.wrap (((m+1:Nat):Int)-1)=((m:Nat):Int):=by rw[wrap_i64 (by omega) (by omega)]; omega
  have hmV:m<(aG (B*2 ^ n)).length:=by omega
  have rm:=bJ (aG (B*2 ^ n)) hmV
  have tl:=LV _ (baN hmV)
  have htop:0<(aG (B*2 ^ n))[m]:=by
   have h1:=bQ (aG (B*2 ^ n)) hmV
   rw[baS (by omega),vV] at h1
   have h2:=dY (LV.take m)
   rw[baV,bcC (by omega)] at h2
   have hpp:0<4294967296 ^ m:=bcR (by decide)
   rcases bcB (aG (B*2 ^ n))[m] with h | h
   ·rw[h] at h1; omega
   ·exact h
  have htop31:2147483648≤(aG (B*2 ^ n))[m]:=by
   have h1:=bQ (aG (B*2 ^ n)) hmV
   rw[baS (by omega),vV] at h1
   have h2:=dY (LV.take m)
   rw[baV,bcC (by omega)] at h2
   rcases baU (aG (B*2 ^ n))[m] 2147483648 with h | h
   ·exfalso
    have h3:4294967296 ^ m*((aG (B*2 ^ n))[m]+1)≤4294967296 ^ m*2147483648:=bcI _ h
    rw[baO,Nat.mul_one] at h3
    omega
   ·exact h
  have key0:=aNA (C:=C) L (A*2 ^ n) n o (nl (A*2 ^ n)+1) lq
  have hI:lJ (A*2 ^ n) (val (aG (B*2 ^ n))) (m+1) (nl (A*2 ^ n)+1) lq lq (aG (A*2 ^ n)++[0]) (baH lq 0):=by
   refine⟨by rw[baI,lU]; rfl,List.length_replicate,LU.app fun x hx=>by simp at hx; omega,rG _,?_,?_,fun i x _ hx=>avR hx⟩
   ·rw[eW,vU,oL]; simp[val]
   ·have hlen:(aG (A*2 ^ n)++[0]).length=nl (A*2 ^ n)+1:=by rw[baI,lU]; rfl
    have hv0:val (aG (A*2 ^ n)++[0])=A*2 ^ n:=by rw[eW,vU]; simp[val]
    rw[qI (LU.app fun x hx=>by simp at hx; omega) (by omega),hv0,vV,bcV (bcR (by decide))]
    have h1:A*2 ^ n<4294967296 ^ nl (A*2 ^ n):=(gB _ _).1 (baJ _)
    have hx:nl (A*2 ^ n)=m+lq:=by omega
    rw[hx,Nat.pow_add] at h1
    have h2:4294967296 ^ m*4294967296 ^ lq≤(B*2 ^ n)*4294967296 ^ lq:=bbE _ (by omega)
    omega
  have hrows:aE (aG (A*2 ^ n))++[[PV.int .u32 0],[PV.int .u32 0]]=cW (aG (A*2 ^ n)++[0]) (aE [0]):=by
   simp[cW,aE]
  rw[hrows] at hH
  generalize htp:(aG (B*2 ^ n))[m]=top at *
  have et:IntKind.u64.wrap ((top:Nat):Int)=((top:Nat):Int):=aW (by omega)
  have k2:IntKind.i64.wrap (((nl (A*2 ^ n)+1:Nat):Int)-((m+1:Nat):Int))=((lq:Nat):Int):=by rw[wrap_i64 (by omega) (by omega)]; omega
  have k3:((lq:Nat):Int)*((4:Nat):Int)≤140737488355328:=by omega
  have k4:((lq:Nat):Int)≤9223372036854775807:=by omega
  have hz:baH lq [PV.int .u32 0]=aE (baH lq 0):=by simp[aE]
  have jq:IntKind.i64.wrap ((lq:Int)-1)=(lq:Int)-1:=wrap_i64 (by omega) (by omega)
  simp -implicitDefEqProofs only[go_sem,ν,γ,reduceCtorEq,baF,lU,eu,b1,xO,f12,lV,em,rm,et,xP,k2,k3,k4,hz]
  refine aP fun oq hoq=>?_
  have hne:oq≠o:=by rintro rfl; rw[hH] at hoq; cases hoq
  have hne':¬ o=oq:=fun h=>hne h.symm
  have key:=key0 oq m (aG (B*2 ^ n)) [0] hne LV lV (by rw[htp]; exact htop) hlx (by omega) _ hI
  rw[htp] at key
  simp -implicitDefEqProofs only[go_sem,ο] at key
  simp -implicitDefEqProofs only[go_sem,γ,xQ,jq]
  refine key _ _ _ ?_ ?_ ?_
  ·unfold duF
   repeat' first|exact PF.nil_le|refine PF.aA ?_ ?_|rfl|assumption
  ·refine PH.aA (PH.aA PH.nil_le ?_) ?_
   ·simp -implicitDefEqProofs only[go_sem,hne',hH]
   ·simp -implicitDefEqProofs only[go_sem]
  clear key key0
  intro X Q F1 H1 hI1 hF1 hH1
  have g10:F1 10=some (.int .i64 n):=hF1 10 _ (by unfold duF; simp -implicitDefEqProofs only[go_sem,ο,γ])
  have g11:F1 11=some (.osl o 1 0 (nl (A*2 ^ n)+1)):=hF1 11 _ (by unfold duF; simp -implicitDefEqProofs only[go_sem,ο,γ])
  have g14:F1 14=some (.osl oq 1 0 lq):=hF1 14 _ (by unfold duF; simp -implicitDefEqProofs only[go_sem,ο,γ])
  have ho1:H1 o=some (.rows 1 (cW X (aE [0]))):=hH1 o _ (by simp -implicitDefEqProofs only[go_sem,hne'])
  have hq1:H1 oq=some (.rows 1 (aE Q)):=hH1 oq _ (by simp -implicitDefEqProofs only[go_sem])
  have hu:val X<val (aG (B*2 ^ n)):=by have:=hI1.r; rwa [bbG] at this
  have hv':=hI1.v
  rw[vV] at hu hv'
  have hQv:val Q=A/B:=by
   have:A*2 ^ n/(B*2 ^ n)=val Q:=by
    rw[← hv',Nat.add_mul_div_right _ _ (by omega),bdI hu,bbF]
   rw[← this,Nat.mul_div_mul_right _ _ hp2]
  have hUv:val X/2 ^ n=A%B:=by
   have:A*2 ^ n%(B*2 ^ n)=val X:=by rw[← hv',Nat.add_mul_mod_self_right,bbH hu]
   rw[← this,Nat.mul_mod_mul_right,Nat.mul_div_cancel _ hp2]
  have lX:=hI1.lu'
  have lQ:=hI1.lq'
  have hQt:(aE Q).take lq=aE Q:=baS (by rw[bN]; omega)
  have hXt:(cW X (aE [0])).take (nl (A*2 ^ n)+1)=aE X:=by
   rw[cW,List.take_append_of_le_length (by rw[bN]; omega),baS (by rw[bN]; omega)]
  have hXl:nl (A*2 ^ n)+1≤(cW X (aE [0])).length:=by rw[cW,baI,bN]; omega
  have hfx:(cW X (aE [0])).map (fun r=>r.map (PV.cZ oq 1 (aE Q)))=cW X (aE [0]):=by
   have:cW X (aE [0])=aE (X++[0]):=by simp[cW,aE]
   rw[this]; exact nZ _ _ _ _
  have nX:=eK hI1.limU
  have t1:=L.trim Q hI1.limQ (by omega)
  have t2:=L.trim X hI1.limU (by omega)
  have dn:=L.down (aG (val X)) n (bB _) (by rw[bG]; omega) (by omega)
  rw[aV,hUv] at dn
  rw[hQv] at t1
  generalize aE [0]=Z0 at ho1 hXt hXl hfx
  simp -implicitDefEqProofs only[go_sem,xW,g14]
  refine nD (o:=oq) (s:=1) (rs:=aE Q) t1 hq1 (by simp -implicitDefEqProofs only[go_sem,hQt,show lq≤Q.length by omega]) ?_
  simp -implicitDefEqProofs only[go_sem,γ,g11,hne']
  refine nD (o:=o) (s:=1) (rs:=cW X Z0) t2 (by simp -implicitDefEqProofs only[go_sem,hne',ho1,bX.frz,hfx]) (by simp -implicitDefEqProofs only[go_sem,γ,hXt,hXl]) ?_
  simp -implicitDefEqProofs only[go_sem,γ,g10]
  refine aB dn rfl ?_
  simp -implicitDefEqProofs only[go_sem,γ]
  exact aY (vs:=[aF (aG (A/B)),aF (aG (A%B))]) (.inr rfl) .nil rfl PH.nil_le ⟨.refl _,rfl⟩
 simp only[aC.wp,go_sem] at tail
 simp -implicitDefEqProofs only[go_sem,γ,bE (show ¬ ((nl B:Nat):Int)=1 by omega),MR,baF,lB]
 refine aB bt rfl ?_
 simp -implicitDefEqProofs only[go_sem,γ,reduceCtorEq,e32,en,MS]
 refine mU ua rfl PH.nil_le fun r H1 hr _=>?_
 have hb2:(2:Nat)*1≤16777216:=by decide
 rcases hr with ⟨h0,_⟩ | ⟨o,rs,rfl,rfl,hrl,hrt⟩
 ·exfalso
  have:=congrArg List.length h0
  rw[bN,bG] at this
  simp at this
  omega
 rw[PH.lT]
 rw[bN,bG] at hrl hrt
 simp -implicitDefEqProofs only[go_sem,υ,δ,γ,η,ζ,hb2,bN,bG]
 refine avP (src:=[[.int .u32 0],[.int .u32 0]]) (rs:=rs) rfl ?_ (by simp -implicitDefEqProofs only[go_sem]) hrl ?_ fun o' ho'=>?_
 ·unfold roomFor
  simp only[maxLen,bcN,bcL]; omega
 ·rw[hrt]
  simp -implicitDefEqProofs only[go_sem,δ]
  refine aB ub rfl ?_
  simp -implicitDefEqProofs only[go_sem,γ]
  exact tail o _ _ rfl rfl rfl rfl rfl (by simp -implicitDefEqProofs only[go_sem])
 ·rw[hrt]
  simp -implicitDefEqProofs only[go_sem,δ]
  refine aB ub rfl ?_
  simp -implicitDefEqProofs only[go_sem,γ]
  exact tail o' _ _ rfl rfl rfl rfl rfl (by simp -implicitDefEqProofs only[go_sem])
end Go.PM
namespace Go.PM
open Go Go.Na
def aQ (C:Ctx) (k:Nat) (pf:bD):Prop:=∀ (args:List PV) (H:PH) (R:PV→PH→Prop),args.length≤pf.ntmps→pf.body.wp C (aZ pf.res R) (PF.args args) H→aJ C k args H R
theorem aQ.go {C:Ctx} {k:Nat} {pf:bD} (r:aQ C k pf) {args:List PV} {H:PH} {R:PV→PH→Prop} (h:pf.body.wp C (aZ pf.res R) (PF.args args) H) (hl:Nat.ble args.length pf.ntmps=true):aJ C k args H R:=r args H R (Nat.le_of_ble_eq_true hl) h
structure dM (C:Ctx):Prop where
 r0:aQ C 0 FY
 r1:aQ C 1 TM
 r2:aQ C 2 aoP
 r4:aQ C 4 KH
 r5:aQ C 5 apB
 r7:aQ C 7 KF
 r20:aQ C 20 FG
 r23:aQ C 23 FI
 r27:aQ C 27 FW
 r28:aQ C 28 aoY
 r29:aQ C 29 TN
 r30:aQ C 30 aRR
 r31:aQ C 31 VQ
 r32:aQ C 32 auC
 r33:aQ C 33 udiv
 r34:aQ C 34 auR
 r35:aQ C 35 VZ
 r36:aQ C 36 aSA
 r37:aQ C 37 aSI
 r38:aQ C 38 WI
 r39:aQ C 39 yY
 r40:aQ C 40 VY
 r41:aQ C 41 IW
 r42:aQ C 42 IX
 r43:aQ C 43 WD
 r44:aQ C 44 JE
 r45:aQ C 45 uup
 r47:aQ C 47 avG
 r50:aQ C 50 KO
 r58:aQ C 58 zA
 r59:aQ C 59 WR
 r95:aQ C 95 alC
 r96:aQ C 96 amB
 r97:aQ C 97 ES
 r98:aQ C 98 RY
 r99:aQ C 99 RZ
 r100:aQ C 100 SA
 r101:aQ C 101 gone
 r102:aQ C 102 SB
 r103:aQ C 103 ET
 r104:aQ C 104 gin
 r105:aQ C 105 alE
 r106:aQ C 106 alF
 r107:aQ C 107 SE
 r108:aQ C 108 SF
 r109:aQ C 109 FB
 r110:aQ C 110 SG
 r111:aQ C 111 XD
 r112:aQ C 112 alI
 r113:aQ C 113 EH
 r114:aQ C 114 ajG
 r115:aQ C 115 JQ
 r116:aQ C 116 sX
 r117:aQ C 117 NR
 r118:aQ C 118 ER
 r119:aQ C 119 ajD
 r120:aQ C 120 mH
 r121:aQ C 121 EQ
 r122:aQ C 122 RX
 r123:aQ C 123 KC
 r124:aQ C 124 yM
 r125:aQ C 125 yN
 r126:aQ C 126 tC
 r127:aQ C 127 apD
 r128:aQ C 128 TP
 r129:aQ C 129 apT
 r130:aQ C 130 apZ
 r131:aQ C 131 aqD
 r132:aQ C 132 UA
 r133:aQ C 133 aqH
 r134:aQ C 134 aqQ
 r135:aQ C 135 UD
 r136:aQ C 136 yO
 r137:aQ C 137 GL
 r138:aQ C 138 qB
 r139:aQ C 139 tV
 r140:aQ C 140 GP
 r141:aQ C 141 GQ
 r142:aQ C 142 rK
 r143:aQ C 143 nup
 r147:aQ C 147 tat
 r148:aQ C 148 HV
 r149:aQ C 149 yX
 r150:aQ C 150 HZ
 r151:aQ C 151 HT
 r152:aQ C 152 VN
 r153:aQ C 153 yV
 r154:aQ C 154 VP
 r155:aQ C 155 HU
 r156:aQ C 156 VH
 r157:aQ C 157 IA
 r158:aQ C 158 ahT
 r159:aQ C 159 II
 r160:aQ C 160 uF
 r161:aQ C 161 ID
end Go.PM
namespace Go.PM
open Go Go.Na
theorem sJ {C:Ctx} (c:dM C):nE C :=
 have len:∀ xs,Lim xs→xs.length≤16777216→aJ C 138 [aF xs] .nil (aK (.int .i64 (nl (val xs):Nat))):=fun xs h l=>c.r138.go (aGL xs h l) rfl
 {length:=len
  large:=fun xs h l=>c.r137.go (aKJ xs (len xs h l)) rfl
  sized:=fun xs h l=>(c.r141.go (aKO xs h (len xs h l)) rfl).seen
  trim:=fun xs h l=>(c.r135.go (aQO xs h l (len xs h l)) rfl).seen
  make:=fun v h=>c.r132.go (aQL v h len) rfl
  cmp:=fun xs ys hx hy lx ly=>c.r129.go (aVL xs ys hx hy lx ly (len xs hx lx) (len ys hy ly)) rfl }
theorem a1K {C:Ctx} (c:dM C):ahO C :=
 {subtract:=fun A W Z v f o hW hv hl h1 hf hfit=>c.r142.go (aqW A W Z v f hW hv hl h1 hf hfit o) rfl
  restore:=fun A W Z v o hW hv hl h1=>c.r139.go (awI A W Z v hW hv hl h1 o) rfl }
theorem aQI {C:Ctx} (c:dM C):aiD C :=
 {L:=sJ c
  D:=a1K c
  up:=fun a s ha hs h1=>c.r143.go (aYQ a s ha hs h1) rfl
  short:=fun a d ha h0 hd h1=>c.r140.go (aKM (sJ c) a d ha h0 hd h1) rfl
  lengthO:=fun xs o hx hl=>c.r138.go (awH xs hx hl o) rfl }
theorem apC {C:Ctx} (c:dM C) (A B:Nat) (hB:B≠0) (hA:nl A≤900) (hBl:nl B≤900):aJ C 136 [aF (aG A),aF (aG B)] .nil (aK (mW A B)) :=
 (c.r136.go (aGG (aQI c) A B hB hA hBl) rfl).seen
theorem tT {C:Ctx} (c:dM C):oR C :=
 {sJ c with
  bits:=fun xs h l=>c.r128.go (aQJ xs h l ((sJ c).length xs h l)) rfl
  add:=fun xs ys hx hy lx ly=>(c.r127.go (aVI (sJ c) xs ys hx hy lx ly) rfl).seen
  sub:=fun xs ys hx hy lx ly=>(c.r134.go (aVT (sJ c) xs ys hx hy lx ly) rfl).seen
  mul:=fun xs ys hx hy lx ly=>(c.r133.go (aVR (sJ c) xs ys hx hy lx ly) rfl).seen
  gcd:=fun xs ys hx hy lx ly=>(c.r131.go (aVP (sJ c) (apC c) xs ys hx hy lx ly) rfl).seen
  div:=fun xs ys hx hy lx ly=>(c.r130.go (aVN (sJ c) (apC c) xs ys hx hy lx ly) rfl).seen }
theorem JR {C:Ctx} (c:dM C):zC C :=
 {tT c with
  times:=fun a b ha hb la lb na nb=>c.r121.go (aIU (tT c) a b ha hb la lb na nb) rfl
  zero:=fun neg a b ha la=>c.r122.go (aOR (tT c) neg a b ha la) rfl
  valid:=fun neg a b ha hb la lb=>c.r118.go (aIW (tT c) neg a b ha hb la lb) rfl
  abs:=fun v h1 h2=>c.r119.go (aTL (tT c) v h1 h2) rfl
  lowest:=fun neg a b ha hb la lb na nb h0=>(c.r120.go (aEX (tT c) neg a b ha hb la lb na nb h0) rfl).seen }
theorem aIT {C:Ctx} (c:dM C) (x y:RF) (hx:x.Ok) (hy:y.Ok):aJ C 113 [.agg x.cells,.agg y.cells] .nil (aK (frV (gX x.v y.v))) :=
 (c.r113.go (aTN (JR c) x.neg y.neg x.num x.den y.num y.den hx.1 hx.2.1 hy.1 hy.2.1 hx.2.2.1 hx.2.2.2 hy.2.2.1 hy.2.2.2) rfl).seen
theorem aFA {C:Ctx} (c:dM C):ahN C :=
 {JR c with
  frac:=fun n d hn hd=>(c.r115.go (aOP (JR c) n d hn.1 hn.2 hd.1 hd.2) rfl).seen
  red:=fun x hx=>by
   rw[← aGV]
   exact (c.r116.go (aFB (JR c) x.neg x.num x.den hx.1 hx.2.1 hx.2.2.1 hx.2.2.2) rfl).seen
  ord:=fun x y hx hy=>(c.r114.go (aTP (JR c) x.neg y.neg x.num x.den y.num y.den hx.1 hx.2.1 hy.1 hy.2.1 hx.2.2.1 hx.2.2.2 hy.2.2.1 hy.2.2.2) rfl).seen
  plus:=aIT c
  tot:=fun l hl=>(c.r117.go (aTV (JR c) (aIT c) l hl.all hl.fits) rfl).seen }
theorem JP {C:Ctx} (c:dM C):oN C :=
 have inn:∀ n lo hi:Int,aJ C 104 [.int .i64 n,.int .i64 lo,.int .i64 hi] .nil (aK (.bool (within n lo hi))):=fun n lo hi=>(c.r104.go (aYE n lo hi) rfl).seen
 have lC:∀ x:RF,x.Ok→aJ C 97 [.agg x.cells] .nil (aK (.bool (bP x))):=fun x hx=>(c.r97.go (aIY (tT c) x hx) rfl).seen
 have lim:∀ x:RF,x.Ok→aJ C 105 [.agg x.cells] .nil (aK (.bool (fB x))):=fun x hx=>(c.r105.go (aUB (aFA c) x hx) rfl).seen
 have letter:∀ n:Nat,aJ C 126 [.int .u8 n] .nil (aK (.bool (fP n))):=fun n=>c.r126.go (aFU n) rfl
 have digit:∀ n:Nat,aJ C 124 [.int .u8 n] .nil (aK (.bool (oV n))):=fun n=>c.r124.go (aJI n) rfl
 {aFA c with
  inn:=inn
  lC:=lC
  lim:=lim
  one:=fun x hx=>(c.r101.go (aUF (aFA c) x hx) rfl).seen
  allf:=fun p fn l hl h=>(c.r99.go (aOV p fn l hl h) rfl).seen
  alli:=fun p fn l hl h=>(c.r100.go (aOX p fn l hl h) rfl).seen
  allb:=fun p fn l hl h=>(c.r98.go (aOT p fn l hl h) rfl).seen
  ends1:=fun b=>(c.r103.go (aJA b) rfl).seen
  num1:=fun n=>(c.r107.go (aPC inn n) rfl).seen
  rate1:=fun x hx=>(c.r109.go (aJD lim lC x hx) rfl).seen
  name:=fun s=>c.r123.go (aPR letter (fun n=>c.r125.go (aJM letter digit n) rfl) s) rfl }
theorem aIR {C:Ctx} (c:dM C):aiA C :=
 {JP c with
  num:=fun p hp=>(c.r106.go (aUD (JP c) p hp) rfl).seen
  rate:=fun p hp=>(c.r108.go (aPE (JP c) p hp) rfl).seen
  uniq:=fun l hl=>(c.r110.go (aPH (JP c) l hl) rfl).seen }
theorem aIS {C:Ctx} (c:dM C):QV C :=
 {aIR c with
  ends:=fun l hl he=>(c.r102.go (aPA (JP c) l hl he) rfl).seen }
theorem aYD {C:Ctx} (c:dM C):gQ C :=
 {aIS c with
  law:=fun l hl=>(c.r95.go (aTZ (aIS c) l hl) rfl).seen
  pol:=fun p n hp hn=>(c.r112.go (aUH (aIR c) p hp n hn) rfl).seen
  doms:=fun f hf=>(c.r111.go (aTX (JP c) f hf) rfl).seen }
theorem aTS {C:Ctx} (c:dM C) (f:aI) (hf:f.Ok):aJ C 96 [.agg f.cells] .nil (aK (.int .i64 (DD f))):=(c.r96.go (aUK (aYD c) f hf) rfl).seen
theorem VK {C:Ctx} (c:dM C):JK C :=
 {valid:=fun f hf=>(c.r161.go (aMU (aTS c) f hf) rfl).seen
  lC:=fun f d level hv hd h0 h4=>(c.r155.go (aLZ f hv d hd level h0 h4) rfl).seen
  frag:=fun f v hv h=>(c.r156.go (aRG f hv v h) rfl).seen }
theorem VL {C:Ctx} (c:dM C):RA C :=
 {VK c with
  room:=fun f room hf=>(c.r152.go (aRK (VK c) f hf room) rfl).freeze
  loads:=fun f l hd hl=>(c.r157.go (aMJ f hd l hl) rfl).seen }
theorem aMM {C:Ctx} (c:dM C):aiH C :=
 {VL c with
  shape:=fun f l v hV hl hv hvf=>(c.r160.go (aMS (VL c) f hV l hl v hv hvf) rfl).seen }
theorem aMN {C:Ctx} (c:dM C):yC C :=
 {aMM c with
  bad:=fun o5 v k w=>c.r159.go (aMW o5 v k w) rfl }
theorem aMO {C:Ctx} (c:dM C):aiI C :=
 {aMN c with
  row:=fun f l v hV hfit hv hvf hr=>(c.r158.go (aRP (aMN c) f hV hfit l v hv hvf hr) rfl).seen }
theorem aSW {C:Ctx} (c:dM C):aSS C :=
 {aMO c with
  viol:=fun f l room hf hl=>(c.r154.go (aRN (aMO c) f hf l hl room) rfl).seen }
theorem qS {C:Ctx} (c:dM C):mE C:={ trimM:=fun xs h l=>c.r38.go (aSJ xs h l) rfl }
theorem aLI {C:Ctx} (c:dM C):aiE C :=
 {qS c with
  make:=fun v h=>(c.r35.go (aRY (qS c) v h) rfl).seen
  large:=fun xs h l=>(c.r41.go (aNB (qS c) xs h l) rfl).seen
  cmp:=fun xs ys hx hy lx ly=>c.r32.go (aWO (qS c) xs ys hx hy lx ly) rfl }
theorem aYV {C:Ctx} (c:dM C):aIB C :=
 {aLI c with
  minus:=fun a b ha hb hle hl h1=>(c.r42.go (aND (qS c) a b ha hb hle hl h1) rfl).seen
  times:=fun a b ha hb h1 h2=>(c.r44.go (aNH (qS c) a b ha hb h1 h2) rfl).seen }
theorem aYW {C:Ctx} (c:dM C):aIC C :=
 {aYV c with
  plus:=fun a b ha hb h1 h2=>(c.r43.go (aSF (qS c) a b ha hb h1 h2) rfl).seen }
theorem aYX {C:Ctx} (c:dM C):DV C :=
 {aYW c with
  bits:=fun xs h l=>c.r31.go (aRS (qS c) xs h l) rfl
  upM:=fun a n ha h1 hn h0=>c.r45.go (aZF (qS c) a n ha h1 hn h0) rfl
  down:=fun a n ha h1 hn=>(c.r40.go (aRW (qS c) a n ha h1 hn) rfl).seen }
theorem arN {C:Ctx} (c:dM C):QY C :=
 {aLI c with
  divide:=fun A B hB hA hBl=>(c.r39.go (aHN (aYX c) A B hB hA hBl) rfl).seen }
theorem aLJ {C:Ctx} (c:dM C):aiF C :=
 {arN c with
  gcd:=fun a b ha hb la lb=>(c.r34.go (aWS (arN c) a b ha hb la lb) rfl).seen
  div:=fun a b ha hb la lb=>(c.r33.go (aWQ (arN c) a b ha hb la lb) rfl).seen }
theorem aSV {C:Ctx} (c:dM C):aDY C :=
 {aLJ c with
  lowest:=fun neg a b ha hb la lb na nb h0=>(c.r58.go (aHW (aLJ c) neg a b ha hb la lb na nb h0) rfl).seen
  size:=fun v hv=>c.r59.go (aSP v hv.1 hv.2) rfl }
theorem aLK {C:Ctx} (c:dM C):aiG C :=
 {aSV c with
  fmk:=fun n d hn hd=>(c.r50.go (aSN (aSV c) n d hn hd) rfl).seen }
abbrev vW (C:Ctx):Prop:=∀ n:Nat,n<100→aJ C 195 [.int .i64 n] .nil (aK (.str (bM n)))
theorem aFY {C:Ctx} (c:dM C) (hi:vW C):zD C :=
 {aLK c with
  int:=fun n hn=>(c.r47.go (aXL (aLK c) n hn) rfl).seen
  itoa:=hi
  next:=fun l v T o n a hn ha=>c.r4.go (aQG T o n a hn ha) rfl }
theorem aJZ {C:Ctx} (c:dM C) (hi:vW C):aiB C :=
 {aFY c hi with
  frac:=fun l v T o a ha=>c.r1.go (aQA (aFY c hi) T o a ha) rfl }
theorem aKA {C:Ctx} (c:dM C) (hi:vW C):oQ C :=
 {aJZ c hi with
  rep:=fun l v T o a m hm ha=>c.r5.go (aVG (aJZ c hi) T o a m hm ha) rfl
  name:=fun s n hs hn=>c.r29.go (aQE (aFY c hi) s n hs hn) rfl }
theorem aKB {C:Ctx} (c:dM C) (hi:vW C):jX C :=
 {aKA c hi with
  law:=fun l v T o dV a hm hm2 ha=>c.r2.go (aVC (aKA c hi) T o dV a hm hm2 ha) rfl }
end Go.PM
namespace Go.PM
open Go Go.Na
theorem zE {f:aI} (h:VF f) {d:Nat} (hd:d<f.drives.length) {lev:Int} (h0:0≤lev) (h4:lev≤4):cB f d lev<f.domains.length∧lvl f (cB f d lev)=lev:=by
 unfold cB
 obtain⟨a,b⟩:=JA h hd (k:=4-lev.toNat) (by omega)
 refine⟨a,?_⟩
 rw[b]; omega
theorem avS {f:aI} {d:Nat} {lev:Int} (h0:0≤lev) (h4:lev≤3):cB f d lev=tY f (cB f d (lev+1)):=by
 unfold cB
 have:4-lev.toNat=(4-(lev+1).toNat)+1:=by omega
 rw[this]; rfl
theorem aDZ {f:aI} (h:VF f) {d:Nat} (hd:d<f.drives.length) {lev:Int} (h0:0≤lev) (h4:lev≤3) (x:Nat):cB f d lev=x↔par f (cB f d (lev+1))=(x:Int):=by
 obtain⟨a,b⟩:=zE h hd (lev:=lev+1) (by omega) (by omega)
 have hne:0<cB f d (lev+1):=by
  rcases bcB (cB f d (lev+1)) with e | e
  ·rw[e,h.root.2.1] at b; omega
  ·exact e
 have:=(h.dom _ hne a).1
 rw[avS h0 h4,tY]
 omega
theorem aIH {f:aI} (h:VF f) {i dom:Nat} (hi:i<f.domains.length) (hp:par f i=(dom:Int)):lvl f i=lvl f dom+1∧0<i:=by
 have hne:0<i:=by
  rcases bcB i with e | e
  ·rw[e,h.root.2.2] at hp; omega
  ·exact e
 obtain⟨g1,g2,g3,-⟩:=h.dom i hne hi
 have:tY f i=dom:=by rw[tY]; omega
 rw[this] at g3
 exact⟨by omega,hne⟩
theorem lO {f:aI} (h:VF f) {i:Nat} (hi:i<f.domains.length):0≤lvl f i∧lvl f i≤4:=by
 rcases bcB i with e | e
 ·rw[e,h.root.2.1]; omega
 ·have:=h.dom i e hi; omega
theorem arJ {n:Nat} {p:Nat→Bool} {x:Int}:x∈pick n p↔∃ i:Nat,i<n∧p i=true∧x=i:=by
 unfold pick
 simp only[bbL,List.mem_filter,bcF]
 constructor
 ·rintro⟨a,⟨h1,h2⟩,rfl⟩; exact⟨a,h1,h2,rfl⟩
 ·rintro⟨a,h1,h2,rfl⟩; exact⟨a,⟨h1,h2⟩,rfl⟩
theorem uM (n:Nat) (p:Nat→Bool):((baW (n+1)).filter p).length=((baW n).filter p).length+(if p n then 1 else 0):=by
 rw[List.range_succ,List.filter_append,baI]
 by_cases h:p n
 ·simp[h]
 ·simp[h]
theorem asE (cs:List Nat) (P:Nat→Nat→Bool) (Q:Nat→Bool):∀ n,(∀ d,d<n→(cs.filter fun c=>P c d).length=if Q d then 1 else 0) →
  (cs.map fun c=>((baW n).filter (P c)).length).sum=((baW n).filter Q).length
 | 0,h=>by
  simp only[List.range_zero,List.filter_nil,bcL]
  clear h
  induction cs with
  | nil=>rfl
  | cons c cs ih=>rw[bbK,List.sum_cons,ih]
 | n+1,h=>by
  have ih:=asE cs P Q n fun d hd=>h d (by omega)
  have hn:=h n (by omega)
  rw[uM,← ih,← hn]
  clear ih hn h
  induction cs with
  | nil=>rfl
  | cons c cs ih =>
   rw[bbK,List.sum_cons,ih,bbK,List.sum_cons,uM,List.filter_cons]
   by_cases hp:P c n
   ·simp only[hp,if_true,bcN]; omega
   ·simp only[hp,if_false]; simp; omega
theorem filter_one {l:List Nat} {x:Nat} (hn:l.Nodup) (p:Nat→Bool) (hp:∀ c∈l,p c=true↔c=x):(l.filter p).length=if x∈l then 1 else 0:=by
 induction l with
 | nil=>rfl
 | cons c l ih =>
  rw[List.nodup_cons] at hn
  have ih:=ih hn.2 fun c hc=>hp c (List.mem_cons_of_mem _ hc)
  have hc:=hp c (by simp)
  rw[List.filter_cons]
  by_cases e:c=x
  ·rw[if_pos (hc.2 e),bcN,ih,if_neg (by rw[← e]; exact hn.1),if_pos (by rw[e]; simp)]
  ·rw[if_neg (fun h=>e (hc.1 h)),ih]
   have:x∈c::l↔x∈l:=by
    rw[baP]
    exact⟨fun h=>h.resolve_left (fun h=>e h.symm),.inr⟩
   simp only[this]
theorem aII {f : aI} (h : VF f) {dom : Nat} (hd : dom < f.domains.length) (h4 : lvl f dom ≠ 4) :
    (((baW f.domains.length).filter fun i => decide (par f i = (dom : Int))).map fun c => ((baW f.drives.length).filter fun d => decide (cB f d (lvl f c) = c)).length).sum
      = ((baW f.drives.length).filter fun d => decide (cB f d (lvl f dom) = dom)).length := by
  have hr := lO h hd
  refine asE _ _ _ _ fun d hdl => ?_
  rw [filter_one (x := cB f d (lvl f dom + 1)) (List.Pairwise.filter _ List.nodup_range)]
  · obtain ⟨a, b⟩ := zE h hdl (lev := lvl f dom + 1) (by omega) (by omega)
    have e := aDZ h hdl (lev := lvl f dom) (by omega) (by omega) dom
    simp only [List.mem_filter, bcF, decide_eq_true_eq, a, true_and, e]
  · intro c hc
    rw [List.mem_filter, bcF, decide_eq_true_eq] at hc
    rw [decide_eq_true_eq, (aIH h hc.1 hc.2).1]
    exact eq_comm
end Go.PM
namespace Go.PM
open Go Go.Na
def lwF (o d lev c dom:Nat) (b:Bool):PF:=((((((PF.nil.set 3 (.ptr o 7 0 0)).set 4 (.int .i64 d)).set 5 (.int .i64 lev)).set 6 (.int .i64 c)).set 7 (.int .i64 dom)).set 8 (.bool b))
abbrev lwH (o:Nat) (f:aI):PH:=PH.nil.set o (.rows 7 [f.cells])
theorem ahA {xs:List Int} {k:Nat} {d:Int} (h:k<xs.length):(xs.take (k+1)).contains d=((xs.take k).contains d||(xs[k]==d)):=by
 rw[bcO h,List.contains_append]
 congr 1
 show List.contains [xs[k]] d=_
 rw[List.contains_cons,List.contains_nil,Bool.or_false]
 exact BEq.comm
theorem ints_at {xs:List Int} {k:Nat} (h:k<xs.length):(xs.map fun x=>[PV.int .i64 x])[k]?=some [.int .i64 xs[k]]:=by simp[h]
theorem aRJ {C:Ctx} (f:aI) (xs:List Int) (hx:xs.length≤1000) (o d lev c dom:Nat) (K:cD) (F:PF) (H:PH) (hF:(((lwF o d lev c dom false).set 9 (ints xs)).set 10 (.int .i64 0)).le F) (hH:(lwH o f).le H)
  (hK:∀ F' H',(lwF o d lev c dom (xs.contains (d:Int))).le F'→(lwH o f).le H'→K (.exit 6) F' H'):aC.wp C (.loop FJ) K F H:=by
 refine wp_loop (α:=Nat) (fun k=>((lwF o d lev c dom ((xs.take k).contains (d:Int))).set 9 (ints xs)).set 10 (.int .i64 k)) (fun _=>lwH o f) (fun k=>k≤xs.length) (fun k=>xs.length-k) 0 (baR _) hF hH ?_
 intro k hk
 simp -implicitDefEqProofs only[go_sem,γ,FJ,aaS,lwF,baF]
 by_cases hlt:k<xs.length
 ·have hlt':(k:Int)<(xs.length:Nat):=by omega
  have hs:=ahA (d:=(d:Int)) hlt
  generalize (xs.take k).contains (d:Int)=b at *
  have fin:∀ F':PF,(((lwF o d lev c dom ((xs.take (k+1)).contains (d:Int))).set 9 (ints xs)).set 10 (.int .i64 (k+1:Nat))).le F'→fV (fun k=>((lwF o d lev c dom ((xs.take k).contains (d:Int))).set 9 (ints xs)).set 10 (.int .i64 k)) (fun _=>lwH o f) (fun k=>k≤xs.length) (fun k=>xs.length-k) (xs.length-k) K .normal F' (lwH o f) :=
   fun F' h=>aH (k+1) hlt (by omega) h PH.le_refl
  cases b with
  | true =>
   simp -implicitDefEqProofs only[go_sem,γ,hlt',FP,FQ,aL (show k<9223372036854775807 by omega)]
   refine fin _ ?_
   rw[hs,Bool.true_or]
   unfold lwF
   (repeat' (first|exact PF.nil_le|refine PF.aA ?_ ?_))<;>first|(simp -implicitDefEqProofs only[go_sem,γ]<;>rfl)|rfl
  | false =>
   rw[Bool.false_or] at hs
   simp -implicitDefEqProofs only[go_sem,γ,reduceCtorEq,hlt',FP,ints_at hlt,FQ,aL (show k<9223372036854775807 by omega)]
   refine fin _ ?_
   rw[hs]
   unfold lwF
   (repeat' (first|exact PF.nil_le|refine PF.aA ?_ ?_))<;>first|(simp -implicitDefEqProofs only[go_sem,γ]<;>rfl)|rfl
 ·have hlt':¬ (k:Int)<(xs.length:Nat):=by omega
  have:k=xs.length:=by omega
  subst this
  simp -implicitDefEqProofs only[go_sem,hlt']
  refine hK _ _ ?_ PH.le_refl
  rw[bbP]
  unfold lwF
  (repeat' (first|exact PF.nil_le|refine PF.aA ?_ ?_))<;>first|(simp -implicitDefEqProofs only[go_sem,γ]<;>rfl)|rfl
theorem aER {f:aI} (hv:cL f=true) {d k:Nat} (hd:d<f.drives.length) (hk:k<f.domains.length):(eX f (k:Nat)).contains (d:Int)=decide (cB f d (lvl f k)=k):=by
 unfold eX
 rw[if_pos ⟨hv,by omega,by omega⟩,bdD]
 refine Bool.eq_iff_iff.2 ?_
 rw[List.contains_iff_mem,arJ,decide_eq_true_eq]
 constructor
 ·rintro⟨i,-,h2,h3⟩
  have:d=i:=by omega
  subst this
  simpa using h2
 ·intro h
  exact⟨d,hd,by simpa using h,rfl⟩
theorem vY {f:aI} (hv:cL f=true) (k:Int):(eX f k).length≤24:=by
 have:=(VF.of hv).small.drives
 unfold eX
 split
 ·exact bcP (BV _ _) this
 ·exact baR _
theorem ajA {f:aI} {k:Nat} (h:k<f.domains.length):(f.domains.map cG.cells)[k]?=some f.domains[k].cells:=by simp[h]
theorem axI {f:aI} {k:Nat} (h:k<f.domains.length):f.domains[k].level=lvl f k:=(getD_at h).symm
theorem aTI {f:aI} {k:Nat} (h:k<f.domains.length):f.domains[k].parent=par f k:=(getD_at h).symm
theorem a1M:(!(true==true))=false:=rfl
theorem a1L:(!(false==false))=false:=rfl
def dmF (o d lev c dom:Nat):PF:=(((((PF.nil.set 3 (.ptr o 7 0 0)).set 4 (.int .i64 d)).set 5 (.int .i64 lev)).set 6 (.int .i64 c)).set 7 (.int .i64 dom))
def jN (x k:Nat):Nat:=if x<k then 1 else 0
theorem aMQ {C:Ctx} (L:oO C) (f:aI) (hf:f.Ok) (hv:cL f=true) (o d lev:Nat) (hd:d<f.drives.length) (hl:lev<5) (K:cD) (F:PF) (H:PH) (hF:(dmF o d lev 0 0).le F) (hH:(lwH o f).le H)
  (hK:∀ F' H',(dmF o d lev 1 f.domains.length).le F'→(lwH o f).le H'→K (.exit 4) F' H'):aC.wp C (.loop FK) K F H:=by
 have hV:=VF.of hv
 obtain⟨ha1,ha2⟩:=zE hV hd (lev:=(lev:Int)) (by omega) (by omega)
 have hsm:f.domains.length≤40:=hV.small.domains
 refine wp_loop (α:=Nat) (fun k=>dmF o d lev (jN (cB f d lev) k) k) (fun _=>lwH o f) (fun k=>k≤f.domains.length) (fun k=>f.domains.length-k) 0 (baR _) hF hH ?_
 intro k hk
 simp -implicitDefEqProofs only[go_sem,δ,γ,θ,FK,anU,dmF,baF]
 by_cases hlt:k<f.domains.length
 ·have hlt':(k:Int)<(f.domains.length:Nat):=by omega
  have fin:∀ F' H',(dmF o d lev (jN (cB f d lev) (k+1)) (k+1)).le F'→(lwH o f).le H'→fV (fun k=>dmF o d lev (jN (cB f d lev) k) k) (fun _=>lwH o f) (fun k=>k≤f.domains.length) (fun k=>f.domains.length-k) (f.domains.length-k) K .normal F' H' :=
   fun F' H' h h2=>aH (k+1) hlt (by omega) h h2
  simp -implicitDefEqProofs only[go_sem,δ,γ,θ,hlt',anV,ajA hlt,axI hlt]
  by_cases hlv:lvl f k=lev
  ·rw[cH hlv]
   have h1:=L.drives f hf k
   have h2:=L.at_ f hf d lev
   have hat:atP f d lev=(cB f d lev:Nat):=by
    unfold atP
    rw[if_pos ⟨hv,by omega,by omega,by omega,by omega⟩,bdD]
   rw[hat] at h2
   simp -implicitDefEqProofs only[go_sem,δ,γ,aaP,aaQ]
   refine aB h1 rfl ?_
   simp -implicitDefEqProofs only[go_sem,γ,aaR]
   refine aRJ f (eX f k) (by have:=vY hv (k:Int); omega) o d lev (jN (cB f d lev) k) k _ _ _ ?_ PH.le_refl ?_
   ·unfold lwF
    (repeat' (first|exact PF.nil_le|refine PF.aA ?_ ?_))<;>first|(simp -implicitDefEqProofs only[go_sem,γ]<;>rfl)|rfl
   intro F' H' hF' hH'
   rw[aER hv hd hlt,hlv] at hF'
   have f3:F' 3=some (.ptr o 7 0 0):=hF' 3 _ (by unfold lwF; simp -implicitDefEqProofs only[go_sem,γ])
   have f4:F' 4=some (.int .i64 d):=hF' 4 _ (by unfold lwF; simp -implicitDefEqProofs only[go_sem,γ])
   have f5:F' 5=some (.int .i64 lev):=hF' 5 _ (by unfold lwF; simp -implicitDefEqProofs only[go_sem,γ])
   have f6:F' 6=some (.int .i64 (jN (cB f d lev) k)):=hF' 6 _ (by unfold lwF; simp -implicitDefEqProofs only[go_sem,γ])
   have f7:F' 7=some (.int .i64 k):=hF' 7 _ (by unfold lwF; simp -implicitDefEqProofs only[go_sem,γ])
   have f8:F' 8=some (.bool (decide (cB f d lev=k))):=hF' 8 _ (by unfold lwF; simp -implicitDefEqProofs only[go_sem,γ])
   have ho:H' o=some (.rows 7 [f.cells]):=hH' o _ (by rw[aU,if_pos rfl])
   by_cases he:cB f d lev=k
   ·have e1:jN (cB f d lev) k=0:=by unfold jN; rw[if_neg (by omega)]
    have e2:jN (cB f d lev) (k+1)=1:=by unfold jN; rw[if_pos (by omega)]
    rw[decide_eq_true he] at f8
    rw[e1,show (((0:Nat)):Int)=0 from rfl] at f6
    have w1:IntKind.i64.wrap 1=((1:Nat):Int):=by decide
    simp -implicitDefEqProofs only[go_sem,ξ,δ,γ,FS,f8,aaT,f6,FT,f3,f4,f5,ho,w1]
    refine aB h2 rfl ?_
    simp -implicitDefEqProofs only[go_sem,γ,f7,f8,bS (show ((cB f d lev:Nat):Int)=k by omega),a1M,uV,aL (show k<9223372036854775807 by omega)]
    refine fin _ _ ?_ hH'
    rw[e2]
    unfold dmF
    repeat' first|exact PF.nil_le|refine PF.aA ?_ ?_|rfl|assumption
   ·have e2:jN (cB f d lev) (k+1)=jN (cB f d lev) k:=by
     unfold jN
     by_cases h:cB f d lev<k
     ·rw[if_pos h,if_pos (by omega)]
     ·rw[if_neg h,if_neg (by omega)]
    rw[decide_eq_false he] at f8
    simp -implicitDefEqProofs only[go_sem,δ,γ,FS,f8,FT,f3,f4,f5,ho]
    refine aB h2 rfl ?_
    simp -implicitDefEqProofs only[go_sem,γ,f7,f8,bE (show ((cB f d lev:Nat):Int)≠k by omega),a1L,uV,aL (show k<9223372036854775807 by omega)]
    refine fin _ _ ?_ hH'
    rw[e2]
    unfold dmF
    repeat' first|exact PF.nil_le|refine PF.aA ?_ ?_|rfl|assumption
  ·have he:cB f d lev≠k:=by
    intro e
    rw[e] at ha2
    exact hlv ha2
   have e2:jN (cB f d lev) (k+1)=jN (cB f d lev) k:=by
    unfold jN
    by_cases h:cB f d lev<k
    ·rw[if_pos h,if_pos (by omega)]
    ·rw[if_neg h,if_neg (by omega)]
   rw[dP hlv]
   simp -implicitDefEqProofs only[go_sem,γ,uV,aL (show k<9223372036854775807 by omega)]
   refine fin _ _ ?_ PH.le_refl
   rw[e2]
   unfold dmF
   (repeat' (first|exact PF.nil_le|refine PF.aA ?_ ?_))<;>first|(simp -implicitDefEqProofs only[go_sem,γ]<;>rfl)|rfl
 ·have hlt':¬ (k:Int)<(f.domains.length:Nat):=by omega
  have:k=f.domains.length:=by omega
  subst this
  simp -implicitDefEqProofs only[go_sem,hlt']
  refine hK _ _ ?_ PH.le_refl
  have:jN (cB f d lev) f.domains.length=1:=by unfold jN; rw[if_pos ha1]
  rw[this]
  unfold dmF
  (repeat' (first|exact PF.nil_le|refine PF.aA ?_ ?_))<;>first|(simp -implicitDefEqProofs only[go_sem,γ]<;>rfl)|rfl
end Go.PM
namespace Go.PM
open Go Go.Na
def lvF (o d lev:Nat):PF:=(((PF.nil.set 3 (.ptr o 7 0 0)).set 4 (.int .i64 d)).set 5 (.int .i64 lev))
theorem awS {C:Ctx} (L:oO C) (f:aI) (hf:f.Ok) (hv:cL f=true) (o d:Nat) (hd:d<f.drives.length) (K:cD) (F:PF) (H:PH) (hF:(lvF o d 0).le F) (hH:(lwH o f).le H)
  (hK:∀ F' H',(lvF o d 5).le F'→(lwH o f).le H'→K (.exit 2) F' H'):aC.wp C (.loop FL) K F H:=by
 refine wp_loop (α:=Nat × PH) (fun k=>lvF o d k.1) (fun k=>k.2) (fun k=>k.1≤5∧(lwH o f).le k.2) (fun k=>5-k.1) (0,H) ⟨baR _,hH⟩ hF PH.le_refl ?_
 rintro⟨k,H0⟩ ⟨hk,hH0⟩
 simp only at hk hH0 ⊢
 simp -implicitDefEqProofs only[go_sem,γ,FL,anR,lvF]
 by_cases hlt:k<5
 ·have hlt':(k:Int)<5:=by omega
  simp -implicitDefEqProofs only[go_sem,hlt',anS,anT]
  refine aMQ L f hf hv o d k hd hlt _ _ _ ?_ hH0 ?_
  ·unfold dmF
   (repeat' (first|exact PF.nil_le|refine PF.aA ?_ ?_))<;>first|(simp -implicitDefEqProofs only[go_sem,γ]<;>rfl)|rfl
  intro F' H' hF' hH'
  have f3:F' 3=some (.ptr o 7 0 0):=hF' 3 _ (by unfold dmF; simp -implicitDefEqProofs only[go_sem,γ])
  have f4:F' 4=some (.int .i64 d):=hF' 4 _ (by unfold dmF; simp -implicitDefEqProofs only[go_sem,γ])
  have f5:F' 5=some (.int .i64 k):=hF' 5 _ (by unfold dmF; simp -implicitDefEqProofs only[go_sem,γ])
  have f6:F' 6=some (.int .i64 1):=hF' 6 _ (by unfold dmF; simp -implicitDefEqProofs only[go_sem,γ]; rfl)
  simp -implicitDefEqProofs only[go_sem,σ,γ,aaU,f6,aaV,f5,aL (show k<9223372036854775807 by omega)]
  refine aH (k+1,H') ⟨hlt,hH'⟩ (by simp only; omega) ?_ PH.le_refl
  repeat' first|exact PF.nil_le|refine PF.aA ?_ ?_|rfl|assumption
 ·have hlt':¬ (k:Int)<5:=by omega
  have:k=5:=by omega
  subst this
  simp -implicitDefEqProofs only[go_sem,ε,hlt']
  refine hK _ _ ?_ hH0
  unfold lvF
  (repeat' (first|exact PF.nil_le|refine PF.aA ?_ ?_))<;>first|(simp -implicitDefEqProofs only[go_sem,γ]<;>rfl)|rfl
theorem awR {C:Ctx} (L:oO C) (f:aI) (hf:f.Ok) (hv:cL f=true) (o:Nat) (K:cD) (F:PF) (H:PH) (hF:((((PF.nil.set 3 (.ptr o 7 0 0)).set 4 (.int .i64 0)):PF)).le F) (hH:(lwH o f).le H)
  (hK:∀ F' H',((PF.nil.set 3 (.ptr o 7 0 0)):PF).le F'→(lwH o f).le H'→K (.exit 0) F' H'):aC.wp C (.loop FM) K F H:=by
 have hV:=VF.of hv
 have hsm:=hV.small.drives
 refine wp_loop (α:=Nat × PH) (fun k=>((PF.nil.set 3 (.ptr o 7 0 0)).set 4 (.int .i64 k.1))) (fun k=>k.2) (fun k=>k.1≤f.drives.length∧(lwH o f).le k.2) (fun k=>f.drives.length-k.1) (0,H) ⟨baR _,hH⟩ hF PH.le_refl ?_
 rintro⟨k,H0⟩ ⟨hk,hH0⟩
 simp only at hk hH0 ⊢
 have ho:H0 o=some (.rows 7 [f.cells]):=hH0 o _ (by rw[aU,if_pos rfl])
 simp -implicitDefEqProofs only[go_sem,δ,γ,θ,FM,anP,ho,baF]
 by_cases hlt:k<f.drives.length
 ·have hlt':(k:Int)<(f.drives.length:Nat):=by omega
  simp -implicitDefEqProofs only[go_sem,hlt',anQ]
  refine awS L f hf hv o k hlt _ _ _ ?_ hH0 ?_
  ·unfold lvF
   (repeat' (first|exact PF.nil_le|refine PF.aA ?_ ?_))<;>first|(simp -implicitDefEqProofs only[go_sem,γ]<;>rfl)|rfl
  intro F' H' hF' hH'
  have f3:F' 3=some (.ptr o 7 0 0):=hF' 3 _ (by unfold lvF; simp -implicitDefEqProofs only[go_sem,γ])
  have f4:F' 4=some (.int .i64 k):=hF' 4 _ (by unfold lvF; simp -implicitDefEqProofs only[go_sem,γ])
  simp -implicitDefEqProofs only[go_sem,γ,aaW,f4,aL (show k<9223372036854775807 by omega)]
  refine aH (k+1,H') ⟨hlt,hH'⟩ (by simp only; omega) ?_ PH.le_refl
  repeat' first|exact PF.nil_le|refine PF.aA ?_ ?_|rfl|assumption
 ·have hlt':¬ (k:Int)<(f.drives.length:Nat):=by omega
  simp -implicitDefEqProofs only[go_sem,hlt']
  refine hK _ _ ?_ hH0
  (repeat' (first|exact PF.nil_le|refine PF.aA ?_ ?_))<;>first|(simp -implicitDefEqProofs only[go_sem,γ]<;>rfl)|rfl
def kM (f:aI) (cs:List Int) (k:Nat):Int:=(((cs.take k).map fun c=>(eX f c).length).sum:Nat)
theorem UM {f:aI} {cs:List Int} {k:Nat} (h:k<cs.length):kM f cs (k+1)=kM f cs k+((eX f cs[k]).length:Nat):=by
 unfold kM
 rw[bcO h,bcA,List.sum_append]
 simp
theorem asD {f:aI} (hv:cL f=true) (cs:List Int):∀ k,k≤100→0≤kM f cs k∧kM f cs k≤24*k
 | 0,_=>by simp[kM]
 | k+1,h=>by
  obtain⟨h1,h2⟩:=asD hv cs k (by omega)
  by_cases hk:k<cs.length
  ·rw[UM hk]
   have:=vY hv cs[k]
   omega
  ·have:kM f cs (k+1)=kM f cs k:=by unfold kM; rw[baS (by omega),baS (by omega)]
   omega
theorem aEL {f:aI} (hv:cL f=true) (k:Int):(gC f k).length≤40:=by
 have:=(VF.of hv).small.domains
 unfold gC
 split
 ·exact bcP (BV _ _) this
 ·exact baR _
theorem aIG {f:aI} {k:Int} {c:Int} (h:c∈gC f k):∃ i:Nat,i<f.domains.length∧c=i∧par f i=k:=by
 unfold gC at h
 split at h
 ·obtain⟨i,h1,h2,h3⟩:=arJ.1 h
  exact⟨i,h1,h3,by simpa using h2⟩
 ·cases h
theorem avX {f:aI} (hv:cL f=true) {k:Nat} (hk:k<f.domains.length) (h4:lvl f k≠4):kM f (gC f k) (gC f k).length=((eX f k).length:Nat):=by
 have hV:=VF.of hv
 have hs:=aII hV hk h4
 have e1:∀ c:Nat,c<f.domains.length→(eX f c).length=((baW f.drives.length).filter fun d=>decide (cB f d (lvl f c)=c)).length:=by
  intro c hc
  unfold eX
  rw[if_pos ⟨hv,by omega,by omega⟩,bdD]
  unfold pick
  rw[baF]
 unfold kM
 rw[bbP,e1 k hk,← hs]
 have:gC f k=((baW f.domains.length).filter fun i=>decide (par f i=(k:Int))).map fun (i:Nat)=>(i:Int):=by
  unfold gC
  rw[if_pos ⟨hv,by omega⟩]
  rfl
 rw[this,List.map_map]
 congr 2
 refine List.map_congr_left fun c hc=>?_
 rw[List.mem_filter,bcF] at hc
 exact e1 c hc.1
def kdS (f:aI):Spec:=fun name vs=>match name,vs with
 | 149,[_,.int _ d]=>some ([],fun _=>aK (ints (eX f d)))
 | _,_=>none
def kdF (o dom:Nat) (n:Int) (cs:List Int) (k:Nat):PF:=(((((PF.nil.set 3 (.ptr o 7 0 0)).set 11 (.int .i64 dom)).set 12 (.int .i64 n)).set 13 (ints cs)).set 14 (.int .i64 k))
theorem aMR {C:Ctx} (L:oO C) (f:aI) (hf:f.Ok) (hv:cL f=true) (o dom:Nat) (K:cD) (F:PF) (H:PH) (hF:(kdF o dom 0 (gC f dom) 0).le F) (hH:(lwH o f).le H)
  (hK:∀ F' H',(kdF o dom (kM f (gC f dom) (gC f dom).length) (gC f dom) (gC f dom).length).le F'→(lwH o f).le H'→K (.exit 10) F' H'):aC.wp C (.loop FN) K F H:=by
 have hcl:=aEL hv dom
 have hca:∀ c∈gC f dom,_:=fun c hc=>aIG hc
 generalize gC f dom=cs at *
 refine wp_loop (α:=Nat) (fun k=>kdF o dom (kM f cs k) cs k) (fun _=>lwH o f) (fun k=>k≤cs.length) (fun k=>cs.length-k) 0 (baR _) hF hH ?_
 intro k hk
 simp -implicitDefEqProofs only[go_sem,γ,FN,abD,kdF,baF]
 by_cases hlt:k<cs.length
 ·have hlt':(k:Int)<(cs.length:Nat):=by omega
  obtain⟨i,hi,hc,hp⟩:=hca cs[k] (baN hlt)
  have hss:=UM (f:=f) hlt
  obtain⟨b1,b2⟩:=asD hv cs k (by omega)
  have hl24:=vY hv cs[k]
  have hd:=L.drives f hf cs[k]
  have hw:IntKind.i64.wrap (kM f cs k+((eX f cs[k]).length:Nat))=kM f cs (k+1):=by rw[hss]; exact wrap_i64 (by omega) (by omega)
  simp -implicitDefEqProofs only[go_sem,hlt',kdF]
  refine cC (lwH o f) (kdS f) PH.le_refl ?_
  simp -implicitDefEqProofs only[go_sem,δ,γ,reduceCtorEq,abE,ints_at hlt]
  refine cN rfl hd rfl PH.le_refl ?_
  simp -implicitDefEqProofs only[go_sem,γ,baF,hw]
  refine cC (lwH o f) eE PH.le_refl ?_
  simp -implicitDefEqProofs only[go_sem,δ,γ,θ,reduceCtorEq,abG,ints_at hlt]
  rw[hc]
  simp -implicitDefEqProofs only[go_sem,δ,γ,θ,ajA hi,aTI hi,hp,cH (show (dom:Int)=dom from rfl)]
  simp -implicitDefEqProofs only[go_sem,γ,abH,aL (show k<9223372036854775807 by omega)]
  refine aH (k+1) hlt (by omega) ?_ PH.le_refl
  (repeat' (first|exact PF.nil_le|refine PF.aA ?_ ?_))<;>first|(simp -implicitDefEqProofs only[go_sem,γ]<;>rfl)|rfl
 ·have hlt':¬ (k:Int)<(cs.length:Nat):=by omega
  have:k=cs.length:=by omega
  subst this
  simp -implicitDefEqProofs only[go_sem,hlt']
  refine hK _ _ ?_ PH.le_refl
  unfold kdF
  (repeat' (first|exact PF.nil_le|refine PF.aA ?_ ?_))<;>first|(simp -implicitDefEqProofs only[go_sem,γ]<;>rfl)|rfl
end Go.PM
namespace Go.PM
open Go Go.Na
theorem asM {C:Ctx} (L:oO C) (f:aI) (hf:f.Ok) (hv:cL f=true) (o:Nat) (K:cD) (F:PF) (H:PH) (hF:((((PF.nil.set 3 (.ptr o 7 0 0)).set 11 (.int .i64 0)):PF)).le F) (hH:(lwH o f).le H)
  (hK:∀ F' H',K (.exit 8) F' H'):aC.wp C (.loop FO) K F H:=by
 have hV:=VF.of hv
 have hsm:=hV.small.domains
 refine wp_loop (α:=Nat × PH) (fun k=>((PF.nil.set 3 (.ptr o 7 0 0)).set 11 (.int .i64 k.1))) (fun k=>k.2) (fun k=>k.1≤f.domains.length∧(lwH o f).le k.2) (fun k=>f.domains.length-k.1) (0,H) ⟨baR _,hH⟩ hF PH.le_refl ?_
 rintro⟨k,H0⟩ ⟨hk,hH0⟩
 simp only at hk hH0 ⊢
 have ho:H0 o=some (.rows 7 [f.cells]):=hH0 o _ (by rw[aU,if_pos rfl])
 simp -implicitDefEqProofs only[go_sem,δ,γ,θ,FO,aaY,ho,baF]
 by_cases hlt:k<f.domains.length
 ·have hlt':(k:Int)<(f.domains.length:Nat):=by omega
  simp -implicitDefEqProofs only[go_sem,δ,γ,θ,hlt',aaZ,ho,ajA hlt,axI hlt]
  by_cases h4:lvl f k=4
  ·rw[bS h4]
   simp -implicitDefEqProofs only[go_sem,γ,FU,aL (show k<9223372036854775807 by omega)]
   refine aH (k+1,H0) ⟨hlt,hH0⟩ (by simp only; omega) ?_ PH.le_refl
   (repeat' (first|exact PF.nil_le|refine PF.aA ?_ ?_))<;>first|(simp -implicitDefEqProofs only[go_sem,γ]<;>rfl)|rfl
  ·rw[bE h4]
   have hc:=L.child f hf k
   have hd:=L.drives f hf k
   simp -implicitDefEqProofs only[go_sem,δ,γ,abA,abB,ho]
   refine aB hc rfl ?_
   simp -implicitDefEqProofs only[go_sem,γ,abC]
   refine aMR L f hf hv o k _ _ _ ?_ hH0 ?_
   ·unfold kdF
    (repeat' (first|exact PF.nil_le|refine PF.aA ?_ ?_))<;>first|(simp -implicitDefEqProofs only[go_sem,γ]<;>rfl)|rfl
   intro F' H' hF' hH'
   rw[avX hv hlt h4] at hF'
   have f3:F' 3=some (.ptr o 7 0 0):=hF' 3 _ (by unfold kdF; simp -implicitDefEqProofs only[go_sem,γ])
   have f11:F' 11=some (.int .i64 k):=hF' 11 _ (by unfold kdF; simp -implicitDefEqProofs only[go_sem,γ])
   have f12:F' 12=some (.int .i64 ((eX f k).length:Nat)):=hF' 12 _ (by unfold kdF; simp -implicitDefEqProofs only[go_sem,γ])
   have ho':H' o=some (.rows 7 [f.cells]):=hH' o _ (by rw[aU,if_pos rfl])
   simp -implicitDefEqProofs only[go_sem,δ,γ,abI,f3,f11,f12,ho']
   refine aB hd rfl ?_
   simp -implicitDefEqProofs only[go_sem,γ,baF,cH (show (((eX f k).length:Nat):Int)=((eX f k).length:Nat) from rfl),FU,f11,aL (show k<9223372036854775807 by omega)]
   refine aH (k+1,H') ⟨hlt,hH'⟩ (by simp only; omega) ?_ PH.le_refl
   repeat' first|exact PF.nil_le|refine PF.aA ?_ ?_|rfl|assumption
 ·have hlt':¬ (k:Int)<(f.domains.length:Nat):=by omega
  simp -implicitDefEqProofs only[go_sem,hlt']
  exact hK _ _
theorem aPU {C:Ctx} (L:oO C) (hawake:aJ C 20 [] .nil (aK (.bool true))) (l:List Nat) (hb:∀ x∈l,x<256) (hl:l.length≤9223372036854775807) :
  AQ.wp C (aZ SN.res (aK (.bool true))) (PF.args [.sl 1 (hQ l)]) .nil:=by
 obtain⟨hv,hf⟩:=tJ (l.take 400) 14 1 0 (by decide) (by decide)
 have h:=L.fleet l hb hl 14 1 (by decide) (by decide)
 generalize (fT (l.take 400) 14 1 0).1=f at *
 simp -implicitDefEqProofs only[go_sem,reduceCtorEq,AQ,anM,SN,anN]
 refine aB h rfl ?_
 simp -implicitDefEqProofs only[go_sem,δ]
 refine aP fun o ho=>?_
 simp -implicitDefEqProofs only[go_sem,δ,γ,anO]
 refine awR L f hf hv o _ _ _ ?_ PH.le_refl ?_
 ·(repeat' (first|exact PF.nil_le|refine PF.aA ?_ ?_))<;>first|(simp -implicitDefEqProofs only[go_sem,γ]<;>rfl)|rfl
 intro F' H' hF' hH'
 have f3:F' 3=some (.ptr o 7 0 0):=hF' 3 _ rfl
 simp -implicitDefEqProofs only[go_sem,aaX]
 refine asM L f hf hv o _ _ _ ?_ hH' ?_
 ·repeat' first|exact PF.nil_le|refine PF.aA ?_ ?_|rfl|assumption
 intro F2 H2
 simp -implicitDefEqProofs only[go_sem,abJ]
 refine aB hawake rfl ?_
 simp -implicitDefEqProofs only[go_sem]
 refine bZ (.inr rfl) rfl ?_
 rfl
end Go.PM
namespace Go.PM
open Go Go.Na
theorem aKC {C:Ctx} (c:dM C) (hi:vW C):aiC C :=
 {aKB c hi with
  grow:=fun l v T mc drives h0 h1 h2=>alR (aKB c hi) T mc drives h0 h1 h2 (fun args H R hl h=>c.r7 args H R (by rw[hl]; decide) h) 4 (baJ _) }
theorem aYL {C:Ctx} (c:dM C) (hi:vW C):aIA C :=
 {aKC c hi with
  new:=fun l hb hl=>c.r28.go (aVE l hb hl) rfl
  fleet:=fun l v T o drives volumes a hdr hvo ha=>DU.exact (c.r0.go (aJX (aKC c hi) T o drives volumes a hdr hvo ha) rfl) }
theorem amV {C:Ctx} (c:dM C) (hi:vW C):oO C :=
 {at_:=fun f hf d level=>(c.r147.go (aZC (VK c) f hf d level) rfl).seen
  child:=fun f hf d=>(c.r148.go (aME (VK c) f hf d) rfl).seen
  drives:=fun f hf d=>(c.r149.go (aHJ (VK c) f hf d) rfl).seen
  holds:=fun f l room hf hl=>(c.r150.go (aMH (aSW c) f hf l hl room) rfl).seen
  loads:=fun f l hf hl=>(c.r151.go (aLX (VL c) f hf l hl) rfl).seen
  room:=(VL c).room
  shaped:=fun f l hf hl=>(c.r153.go (aHH (aMM c) f hf l hl) rfl).seen
  viol:=(aSW c).viol
  fleet:=fun l hb hl drives volumes hdr hvo=>(c.r27.go (aJU (aYL c hi) l hb hl drives volumes hdr hvo) rfl).seen }
theorem aPN {C:Ctx} (c:dM C) (hi:vW C):aJ C 20 [] .nil (aK (.bool true)) :=
 c.r20.go (aJG (amV c hi) (c.r23.go (aJO (amV c hi)) rfl)) rfl
theorem aUU {C:Ctx} (c:dM C) (hi:vW C) (r:aQ C 17 SN) (l:List Nat) (hb:∀ x∈l,x<256) (hl:l.length≤9223372036854775807):aJ C 17 [.sl 1 (hQ l)] .nil (aK (.bool true)) :=
 r.go (aPU (amV c hi) (aPN c hi) l hb hl) rfl
end Go.PM
