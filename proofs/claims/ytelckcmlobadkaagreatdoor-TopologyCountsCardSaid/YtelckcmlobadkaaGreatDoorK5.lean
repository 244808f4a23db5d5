/-
  Texts of ours, joined: R2W1 R2W2 R2W3 R2W4 R2W5 R2W6 R2W7 R2W8 Jn1 Jn2 L11P1 L11W2 L11W3 L11W4 Jn3. No condition.
-/
import Derived.Test.YtelckcmlobadkaaGreatDoorK1
import Derived.Test.YtelckcmlobadkaaGreatDoorK2
import Derived.Test.YtelckcmlobadkaaGreatDoorK3
import Derived.Test.YtelckcmlobadkaaGreatDoorK4

set_option linter.unusedSimpArgs false
set_option linter.unusedVariables false
open Nat renaming reduceEqDiff → γ, reduceAdd → δ, reduceSub → ε, reduceMul → ζ, reduceLT → η, reduceLeDiff → θ, reduceBEq → τ
open Int renaming reduceLT → ι, reduceLE → κ, reduceEq → μ, reduceToNat → ν, reduceAdd → ξ, reduceNeg → ο, reduceBEq → ρ, reduceBNe → σ
open List renaming reduceReplicate → υ
open List renaming length_map → bgT, replicate → bgV, length_append → bgW, getElem_mem → bgY, length_singleton → bhA, range → bhB, mem_cons → bhF, getElem?_eq_getElem → bhH, take_of_length_le → bhI, length_take → bhJ, not_mem_nil → bhM, getD_eq_getElem?_getD → bhQ, drop_zero → bhV, all_eq_true → bhW, append_assoc → bhY, take_length → bhZ, mem_map → biA, map_cons → biC, getElem?_eq_none → biE, getElem?_eq_some_iff → biG, getElem?_map → biH, getElem_map → biI, getElem_of_mem → biL, mem_range → biM, append_nil → biN, mem_append → biO, drop_eq_getElem_cons → biQ, length_drop → biR, map_append → biS, Sublist → biU, map_nil → biV, take_succ_eq_append_getElem → biZ, length_nil → bjB, length_set → bjC, take_append_drop → bjE, ext_getElem → bjH, mem_of_getElem? → bjI, length_cons → bjJ, nodup_append → bjK, getElem?_take → bjO, getElem?_append_left → bjQ, set_append_right → bjR, getElem?_append_right → bjU, drop_of_length_le → bkA
open Nat renaming gcd → bgU, le_refl → bgX, mul_add → bhD, zero_le → bhE, lt_or_ge → bhK, mul_assoc → bhL, mul_comm → bhR, zero_add → bhS, add_mul → bhT, mul_le_mul_right → bhU, mod_eq_of_lt → bhX, mod_lt → biB, pow_succ → biJ, add_zero → biP, min_eq_left → biT, add_assoc → biW, mul_le_mul_left → biX, eq_zero_or_pos → bjA, pos_of_ne_zero → bjF, pow_pos → bjG, div_lt_iff_lt_mul → bjL, le_trans → bjM, div_le_self → bjS, div_add_mod → bjV, div_eq_of_lt → bjW
open Option renaming map_eq_some_iff → bgZ, map_some → biD, some → biY, getD_some → bjP, bind_eq_some_iff → bjX, bind_some → bkB
open Bool renaming not_true → bhC, false_and → bhG, not_false → bhN, and_eq_true → bhO, true_and → bhP, and_false → biF, and_true → bjD, false_eq_true → bjZ
open Array renaming replicate → biK, length_toList → bjN, getElem?_eq_getElem → bjY, getElem?_eq_some_iff → bkC
open Int renaming toNat_natCast → bjT
namespace Go.PM
open Go Go.Na
theorem nE (P:List Nat) (v:Nat):aE P++[[.int .u32 (v:Int)]]=aE (P++[v]):=by simp[aE]
theorem nD {P:List Nat} (h:P.length≤16777216):roomFor (aE P).length 1 4:=by
 unfold roomFor
 rw[bP]
 simp only[maxLen]; omega
def NJ (a b:List Nat) (v:PV) (c i:Nat):PF:=(((((PF.nil.set 0 (aF a)).set 1 (aF b)).set 5 (v)).set 6 (.int .u64 c)).set 7 (.int .i64 i))
theorem aSN {C:Ctx} (L:mT C) (a b:List Nat) (ha:Lim a) (hb:Lim b) (hle:val b≤val a) (hl:b.length≤a.length) (h1:a.length≤16777216) :
  AL.wp C (aY LS.res (bY (aF (aH (val a-val b))))) (PF.args [aF a,aF b]) .nil:=by
 simp -implicitDefEqProofs only[go_sem,AL,ajX,ajY,ajZ,akA,LS]
 refine wp_loop (α:=List Nat × Nat × PV × PH) (fun s=>NJ a b s.2.2.1 s.2.1 s.1.length) (fun s=>s.2.2.2)
  (fun s=>s.1.length≤a.length∧Lim s.1∧s.2.1≤1∧val (a.take s.1.length)+4294967296 ^ s.1.length*s.2.1=val s.1+val (b.take s.1.length)∧bB s.2.2.2 1 s.2.2.1 (aE s.1)) (fun s=>a.length-s.1.length) ([],0,.nils,.nil) ⟨by simp,by simp[Lim],by simp,by simp[val],.nil⟩ ?_ PH.nil_le ?_
 ·unfold NJ
  (repeat' (first|exact PF.nil_le|refine PF.aA ?_ ?_))<;>first|(simp -implicitDefEqProofs only[go_sem,γ,reduceCtorEq]<;>rfl)|rfl
 rintro⟨P,c,v,H0⟩ ⟨hP,hLim,hc,hval,hO⟩
 simp only at hP hLim hc hval hO ⊢
 simp -implicitDefEqProofs only[go_sem,γ,reduceCtorEq,aaG,akB,NJ]
 by_cases c1:P.length<a.length
 ·have c1':(P.length:Int)<(a.length:Nat):=by omega
  have hai:=ha _ (bgY c1)
  have hta:=bT a c1
  have hac:(aE a)[P.length]?=some [.int .u32 ((a[P.length]:Nat):Int)]:=bJ a c1
  generalize hx:a[P.length]=x at *
  have ex:IntKind.u64.wrap ((x:Nat):Int)=((x:Nat):Int):=aZ (by omega)
  have fin:∀ (t:Nat) (F':PF),t<4294967296→val (b.take (P.length+1))=val (b.take P.length)+4294967296 ^ P.length*t →
    F' 0=some (aF a)→F' 1=some (aF b)→F' 5=some v→F' 8=some (.int .u64 (c+t:Nat))→F' 7=some (.int .i64 P.length) →
    ∀ K:bZ,(∀ P' c' v' F2 H2,P'.length=P.length+1→Lim P'→c'≤1→val (a.take (P.length+1))+4294967296 ^ P'.length*c'=val P'+val (b.take (P.length+1))→(NJ a b v' c' P'.length).le F2→bB H2 1 v' (aE P')→K .normal F2 H2) →
    aD.wp C (.seq (.region LT) (.seq (.region LW) (.seq (.seq (.region FQ) (.cond (.tmp 35) (.seq (.region FS) (.region FT)) .skip)) (.region uD)))) (dY 1 (iZ C (aD.wp C (.region uE)) K)) F' H0:=by
   intro t F' ht htb g0 g1 g5 g8 g7 K hK
   have step:∀ (d c':Nat),d<4294967296→c'≤1→x+4294967296*c'=d+(c+t)→val (a.take (P.length+1))+4294967296 ^ (P.length+1)*c'=val (P++[d])+val (b.take (P.length+1)):=by
    intro d c' hd hc' he
    have h2:4294967296 ^ P.length*(x+4294967296*c')=4294967296 ^ P.length*(d+(c+t)):=by rw[he]
    rw[bhD,bhD,bhD] at h2
    rw[gL,biJ,bhL,hta,htb]
    omega
   simp -implicitDefEqProofs only[go_sem,γ,LT,g0,g7,hac,ex,LW,FQ,g8]
   by_cases c2:x<c+t
   ·have c2':((x:Nat):Int)<((c+t:Nat):Int):=by omega
    have e1:IntKind.u64.wrap ((x:Int)+4294967296)=((x+4294967296:Nat):Int):=by
     rw[show (x:Int)+4294967296=((x+4294967296:Nat):Int) by omega]
     exact aZ (by omega)
    have e2:IntKind.u64.wrap (((x+4294967296:Nat):Int)-((c+t:Nat):Int))=((x+4294967296-(c+t):Nat):Int):=by
     rw[show ((x+4294967296:Nat):Int)-((c+t:Nat):Int)=((x+4294967296-(c+t):Nat):Int) by omega]
     exact aZ (by omega)
    have e3:IntKind.u32.wrap ((x+4294967296-(c+t):Nat):Int)=((x+4294967296-(c+t):Nat):Int):=by
     rw[bX,bhX (by omega)]
    have hb1:(1:Nat)*1≤16777216:=by decide
    simp -implicitDefEqProofs only[go_sem,υ,γ,η,ζ,c2',FS,e1,FT,uD,g5,g8,e2,e3,hb1]
    refine fC (src:=[[.int .u32 ((x+4294967296-(c+t):Nat):Int)]]) hO rfl (nD (by omega)) fun v' H' hO' _=>?_
    rw[nE] at hO'
    simp -implicitDefEqProofs only[go_sem,γ,uE,g7,aK (show P.length<9223372036854775807 by omega)]
    refine hK _ 1 v' _ H' (by simp) (hLim.app fun y hy=>by simp at hy; subst hy; omega) (bgX _) ?_ ?_ hO'
    ·rw[bgW,bhA]
     exact step _ 1 (by omega) (bgX _) (by omega)
    ·unfold NJ
     rw[bgW,bhA]
     repeat' first|exact PF.nil_le|refine PF.aA ?_ ?_|rfl|assumption
   ·have c2':¬ ((x:Nat):Int)<((c+t:Nat):Int):=by omega
    have e2:IntKind.u64.wrap (((x:Nat):Int)-((c+t:Nat):Int))=((x-(c+t):Nat):Int):=by
     rw[show ((x:Nat):Int)-((c+t:Nat):Int)=((x-(c+t):Nat):Int) by omega]
     exact aZ (by omega)
    have e3:IntKind.u32.wrap ((x-(c+t):Nat):Int)=((x-(c+t):Nat):Int):=by
     rw[bX,bhX (by omega)]
    have hb1:(1:Nat)*1≤16777216:=by decide
    simp -implicitDefEqProofs only[go_sem,υ,γ,η,ζ,c2',uD,g5,g8,e2,e3,hb1]
    refine fC (src:=[[.int .u32 ((x-(c+t):Nat):Int)]]) hO rfl (nD (by omega)) fun v' H' hO' _=>?_
    rw[nE] at hO'
    simp -implicitDefEqProofs only[go_sem,γ,uE,g7,aK (show P.length<9223372036854775807 by omega)]
    refine hK _ 0 v' _ H' (by simp) (hLim.app fun y hy=>by simp at hy; subst hy; omega) (by decide) ?_ ?_ hO'
    ·rw[bgW,bhA]
     exact step _ 0 (by omega) (by decide) (by omega)
    ·unfold NJ
     rw[bgW,bhA]
     repeat' first|exact PF.nil_le|refine PF.aA ?_ ?_|rfl|assumption
  simp only[aD.wp,go_sem] at fin
  simp -implicitDefEqProofs only[go_sem,γ,reduceCtorEq,c1',akC,akD]
  by_cases c3:P.length<b.length
  ·have c3':(P.length:Int)<(b.length:Nat):=by omega
   have hbi:=hb _ (bgY c3)
   have htb:=bT b c3
   have eb:IntKind.u64.wrap ((b[P.length]:Nat):Int)=((b[P.length]:Nat):Int):=aZ (by omega)
   have es:IntKind.u64.wrap ((c:Int)+(b[P.length]:Int))=((c+b[P.length]:Nat):Int):=eH (by omega)
   simp -implicitDefEqProofs only[go_sem,γ,reduceCtorEq,c3',akE,bJ b c3,eb,es]
   refine fin b[P.length] _ hbi htb rfl rfl rfl rfl rfl _ ?_
   intro P' c' v' F2 H2 e1 e2 e3 e4 e5 e6
   rw[← e1] at e4
   exact aI (α:=List Nat × Nat × PV × PH) (P',c',v',H2) ⟨by simp only; omega,e2,e3,e4,e6⟩ (by simp only; omega) e5 PH.le_refl
  ·have c3':¬ (P.length:Int)<(b.length:Nat):=by omega
   have htb:val (b.take (P.length+1))=val (b.take P.length)+4294967296 ^ P.length*0:=by rw[bhI (by omega),bhI (by omega)]; simp
   simp -implicitDefEqProofs only[go_sem,c3']
   refine fin 0 _ (by decide) htb rfl rfl rfl rfl rfl _ ?_
   intro P' c' v' F2 H2 e1 e2 e3 e4 e5 e6
   rw[← e1] at e4
   exact aI (α:=List Nat × Nat × PV × PH) (P',c',v',H2) ⟨by simp only; omega,e2,e3,e4,e6⟩ (by simp only; omega) e5 PH.le_refl
 ·have e:P.length=a.length:=by omega
  have c1':¬ (P.length:Int)<(a.length:Nat):=by omega
  have hV:val P=val a-val b:=by
   rw[e,bhZ,bhI hl] at hval
   have hlt:=eG hLim
   rw[e] at hlt
   rcases bjA c with h | h
   ·subst h; omega
   ·have:c=1:=by omega
    subst this; omega
  simp -implicitDefEqProofs only[go_sem,γ,reduceCtorEq,c1',aaH]
  have hs:=L.trim _ hLim (by omega)
  rw[hV] at hs
  refine qX hs hO rfl fun F1 H1 _=>?_
  simp -implicitDefEqProofs only[go_sem]
  exact aW (.inr rfl) .nil rfl PH.nil_le ⟨.refl _,rfl⟩
end Go.PM
namespace Go.PM
open Go Go.Na
def oT (a b:List Nat) (o i:Nat):PF:=((((PF.nil.set 0 (aF a)).set 1 (aF b)).set 5 (.osl o 1 0 (a.length+b.length))).set 6 (.int .i64 i))
def utG (a b:List Nat) (o i c j:Nat):PF:=((((((PF.nil.set 0 (aF a)).set 1 (aF b)).set 5 (.osl o 1 0 (a.length+b.length))).set 6 (.int .i64 i)).set 7 (.int .u64 c)).set 8 (.int .i64 j))
theorem aMR {C:Ctx} (a b:List Nat) (ha:Lim a) (hb:Lim b) (h1:a.length≤16777216) (h2:b.length≤16777216) (L:List Nat) (i:Nat) (hi:i<a.length) (hI:AP a b L i) (q:Nat) (K:bZ) (F:PF) (H:PH) (hF:(oT a b q i).le F) (hH:H q=some (.rows 1 (aE L)))
  (hK:∀ L' F' H',AP a b L' (i+1)→(oT a b q i).le F'→H' q=some (.rows 1 (aE L'))→K .normal F' H') :
  aD.wp C (.block 1 (.seq (.region ME) (.seq (.seq (.region MF) (.block 2 (.loop FY))) (.region FZ)))) K F H:=by
 have f0:=hF 0 _ (by unfold oT; simp -implicitDefEqProofs only[go_sem,reduceCtorEq]; rfl)
 have f1:=hF 1 _ (by unfold oT; simp -implicitDefEqProofs only[go_sem,γ,reduceCtorEq]; rfl)
 have f5:=hF 5 _ (by unfold oT; simp -implicitDefEqProofs only[go_sem,γ,reduceCtorEq]; rfl)
 have f6:=hF 6 _ (by unfold oT; simp -implicitDefEqProofs only[go_sem,γ,reduceCtorEq]; rfl)
 have hx:=ha _ (bgY hi)
 have hta:=bT a hi
 generalize hxe:a[i]=x at *
 have hax:(aE a)[i]?=some [.int .u32 ((x:Nat):Int)]:=by rw[bJ a hi,hxe]
 simp -implicitDefEqProofs only[go_sem,ME,MF]
 refine wp_loop (α:=List Nat × Nat × Nat) (fun t=>utG a b q i t.2.1 t.2.2) (fun t=>PH.nil.set q (.rows 1 (aE t.1)))
  (fun t=>t.2.2≤b.length∧t.1.length=a.length+b.length∧Lim t.1∧t.2.1<4294967296∧val t.1+4294967296 ^ (i+t.2.2)*t.2.1=val (a.take i)*val b+4294967296 ^ i*(x*val (b.take t.2.2))∧∀ j y,i+b.length≤j→t.1[j]?=some y→y=0) (fun t=>b.length-t.2.2) (L,0,0)
  ⟨by simp,hI.len,hI.lim,by simp,by simp[val,hI.v],hI.z⟩ ?_ (PH.aA PH.nil_le hH) ?_
 ·unfold utG
  repeat' first|exact PF.nil_le|refine PF.aA ?_ ?_|rfl|assumption
 rintro⟨M,c,j⟩ ⟨hj,hM,hLim,hc,hval,hz⟩
 simp only at hj hM hLim hc hval hz
 simp -implicitDefEqProofs only[go_sem,γ,reduceCtorEq,FY,akK,utG]
 by_cases c1:j<b.length
 ·have c1':(j:Int)<(b.length:Nat):=by omega
  have hy:=hb _ (bgY c1)
  have htb:=bT b c1
  generalize hye:b[j]=y at *
  have hby:(aE b)[j]?=some [.int .u32 ((y:Nat):Int)]:=by rw[bJ b c1,hye]
  have hij:i+j<M.length:=by omega
  have hz0:=hLim _ (bgY hij)
  have hset:=BR hij
  generalize hze:M[i+j]=z at *
  have hMz:(aE M)[i+j]?=some [.int .u32 ((z:Nat):Int)]:=by rw[bJ M hij,hze]
  have ex:IntKind.u64.wrap ((x:Nat):Int)=((x:Nat):Int):=aZ (by omega)
  have ey:IntKind.u64.wrap ((y:Nat):Int)=((y:Nat):Int):=aZ (by omega)
  have ez:IntKind.u64.wrap ((z:Nat):Int)=((z:Nat):Int):=aZ (by omega)
  have em:=aEW hx hy
  have hxy:x*y≤4294967295*4294967295:=Nat.mul_le_mul (by omega) (by omega)
  have e1:IntKind.u64.wrap (((x*y:Nat):Int)+(z:Int))=((x*y+z:Nat):Int):=eH (by omega)
  have e2:IntKind.u64.wrap (((x*y+z:Nat):Int)+(c:Int))=((x*y+z+c:Nat):Int):=eH (by omega)
  have eij:IntKind.i64.wrap ((i:Int)+(j:Int))=((i+j:Nat):Int):=fI (by omega)
  have hlt:((i+j:Nat):Int)<((a.length+b.length:Nat):Int):=by omega
  generalize ht:x*y+z+c=t at *
  have htt:t<4294967296*4294967296:=by omega
  have hrow:(aE M).set (i+j) [.int .u32 ((t%4294967296:Nat):Int)]=aE (M.set (i+j) (t%4294967296)):=eQ M (i+j) _
  simp -implicitDefEqProofs only[go_sem,c1']
  refine cA .nil dU PH.nil_le ?_
  simp -implicitDefEqProofs only[go_sem,γ,reduceCtorEq,akL,hax,hby,ex,ey,em,eij,hlt,hMz,ez,e1,e2,akM,bX,hrow,akN,tY,aaL,aK (show j<9223372036854775807 by omega)]
  refine aI (M.set (i+j) (t%4294967296),t/4294967296,j+1) ⟨by simp only; omega,by simp only[bjC]; exact hM,hLim.set _ (biB _ (by decide)),by simp only; omega,?_,aaY hz _ _ (by omega)⟩ (by simp only; omega) ?_ (PH.aA PH.nil_le (by simp -implicitDefEqProofs only[go_sem]))
  ·simp only
   have h3:=hset (t%4294967296)
   have h4:4294967296 ^ (i+(j+1))*(t/4294967296)+4294967296 ^ (i+j)*(t%4294967296)=4294967296 ^ (i+j)*t:=by
    rw[← biW,biJ,bhL,← bhD,bjV]
   have h5:4294967296 ^ (i+j)*t=4294967296 ^ (i+j)*(x*y)+4294967296 ^ (i+j)*z+4294967296 ^ (i+j)*c:=by rw[← ht,bhD,bhD]
   have h6:4294967296 ^ i*(x*val (b.take (j+1)))=4294967296 ^ i*(x*val (b.take j))+4294967296 ^ (i+j)*(x*y):=by
    rw[htb,bhD,bhD,Nat.pow_add]
    congr 1
    rw[Nat.mul_left_comm x,bhL]
   omega
  ·(repeat' (first|exact PF.nil_le|refine PF.aA ?_ ?_))<;>first|(simp -implicitDefEqProofs only[go_sem,γ,reduceCtorEq]<;>rfl)|rfl
 ·have he:j=b.length:=by omega
  have c1':¬ (j:Int)<(b.length:Nat):=by omega
  subst he
  have hij:i+b.length<M.length:=by omega
  have hz0:M[i+b.length]=0:=hz _ _ (bgX _) (bhH hij)
  have hset:=BR hij
  have hMz:(aE M)[i+b.length]?=some [.int .u32 ((0:Nat):Int)]:=by rw[bJ M hij,hz0]
  have eij:IntKind.i64.wrap ((i:Int)+((b.length:Nat):Int))=((i+b.length:Nat):Int):=fI (by omega)
  have hlt:((i+b.length:Nat):Int)<((a.length+b.length:Nat):Int):=by omega
  have hrow:(aE M).set (i+b.length) [.int .u32 ((c%4294967296:Nat):Int)]=aE (M.set (i+b.length) c):=by
   rw[bhX hc]; exact eQ M _ _
  simp -implicitDefEqProofs only[go_sem,γ,reduceCtorEq,c1',FZ,eij,bX,hlt,hMz,hrow]
  refine hK (M.set (i+b.length) c) _ _ ⟨by rw[bjC]; exact hM,hLim.set _ hc,?_,fun j y hj hy=>?_⟩ (by unfold oT; (repeat' (first|exact PF.nil_le|refine PF.aA ?_ ?_))<;>first|(simp -implicitDefEqProofs only[go_sem,γ,reduceCtorEq]<;>rfl)|rfl) (by simp -implicitDefEqProofs only[go_sem])
  ·have h3:=hset c
   rw[hz0,Nat.mul_zero,biP] at h3
   rw[h3,hval,bhZ,hta,bhT,bhL]
  ·rw[List.getElem?_set_ne (by omega)] at hy
   exact hz j y (by omega) hy
theorem aSR {C:Ctx} (L:mT C) (a b:List Nat) (ha:Lim a) (hb:Lim b) (h1:a.length≤8388608) (h2:b.length≤8388608) :
  AM.wp C (aY MD.res (bY (aF (aH (val a*val b))))) (PF.args [aF a,aF b]) .nil:=by
 have hlen:IntKind.i64.wrap (((a.length:Nat):Int)+((b.length:Nat):Int))=((a.length+b.length:Nat):Int):=fI (by omega)
 have hm1:((a.length+b.length:Nat):Int)*((4:Nat):Int)≤140737488355328:=by omega
 have hm2:((a.length+b.length:Nat):Int)≤9223372036854775807:=by omega
 have hz:bgV (a.length+b.length) [PV.int .u32 0]=aE (bgV (a.length+b.length) 0):=by
  simp[aE]
 simp -implicitDefEqProofs only[go_sem,γ,reduceCtorEq,AM,akG,akH,MD,bgT,hlen,hm1,hm2,hz]
 refine aQ fun o ho=>?_
 simp -implicitDefEqProofs only[go_sem,γ,akI]
 refine wp_loop (α:=List Nat × Nat) (fun t=>oT a b o t.2) (fun t=>PH.nil.set o (.rows 1 (aE t.1))) (fun t=>t.2≤a.length∧AP a b t.1 t.2) (fun t=>a.length-t.2) (bgV (a.length+b.length) 0,0)
  ⟨by simp,by simp,sQ _,by simp[val,pI],fun j x _ hx=>by rw[List.getElem?_replicate] at hx; split at hx<;>simp_all⟩ ?_ (PH.aA PH.nil_le (by simp -implicitDefEqProofs only[go_sem])) ?_
 ·unfold oT
  (repeat' (first|exact PF.nil_le|refine PF.aA ?_ ?_))<;>first|(simp -implicitDefEqProofs only[go_sem,γ,reduceCtorEq]<;>rfl)|rfl
 rintro⟨M,i⟩ ⟨hi,hI⟩
 simp only at hi hI
 simp -implicitDefEqProofs only[go_sem,γ,reduceCtorEq,aaK,akJ,oT]
 by_cases c1:i<a.length
 ·have c1':(i:Int)<(a.length:Nat):=by omega
  have key:=aMR (C:=C) a b ha hb (by omega) (by omega) M i c1 hI o
  simp -implicitDefEqProofs only[go_sem] at key
  simp -implicitDefEqProofs only[go_sem,c1']
  refine key _ _ _ (by unfold oT; (repeat' (first|exact PF.nil_le|refine PF.aA ?_ ?_))<;>first|(simp -implicitDefEqProofs only[go_sem,γ,reduceCtorEq]<;>rfl)|rfl) (by simp -implicitDefEqProofs only[go_sem]) ?_
  intro L' F' H' hI' hF' hH'
  have g6:=hF' 6 _ (by unfold oT; simp -implicitDefEqProofs only[go_sem,γ,reduceCtorEq]; rfl)
  have g0:=hF' 0 _ (by unfold oT; simp -implicitDefEqProofs only[go_sem,reduceCtorEq]; rfl)
  have g1:=hF' 1 _ (by unfold oT; simp -implicitDefEqProofs only[go_sem,γ,reduceCtorEq]; rfl)
  have g5:=hF' 5 _ (by unfold oT; simp -implicitDefEqProofs only[go_sem,γ,reduceCtorEq]; rfl)
  simp -implicitDefEqProofs only[go_sem,γ,aaM,g6,aK (show i<9223372036854775807 by omega)]
  refine aI (L',i+1) ⟨by simp only; omega,hI'⟩ (by simp only; omega) ?_ (PH.aA PH.nil_le hH')
  repeat' first|exact PF.nil_le|refine PF.aA ?_ ?_|rfl|assumption
 ·have he:i=a.length:=by omega
  subst he
  have c1':¬ ((a.length:Nat):Int)<(a.length:Nat):=by omega
  have hV:val M=val a*val b:=by rw[hI.v,bhZ]
  simp -implicitDefEqProofs only[go_sem,γ,reduceCtorEq,aaN]
  have hs:=L.trim _ hI.lim (by rw[hI.len]; omega)
  rw[hV] at hs
  refine nL (o:=o) (s:=1) (k:=a.length+b.length) (rs:=aE M) (v:=aF (aH (val a*val b))) ?_ rfl (by simp -implicitDefEqProofs only[go_sem]) (by rw[bP,hI.len]; exact bgX _) ?_
  ·rw[bhI (by rw[bP,hI.len]; exact bgX _)]; exact hs
  ·simp -implicitDefEqProofs only[go_sem,γ,reduceCtorEq]
   exact aW (.inr rfl) .nil rfl PH.nil_le ⟨.refl _,rfl⟩
structure aNB (C:Ctx):Prop extends alX C where
 minus:∀ a b,Lim a→Lim b→val b≤val a→b.length≤a.length→a.length≤16777216→aJ C 42 [aF a,aF b] .nil (aL (aF (aH (val a-val b))))
 times:∀ a b,Lim a→Lim b→a.length≤8388608→b.length≤8388608→aJ C 44 [aF a,aF b] .nil (aL (aF (aH (val a*val b))))
end Go.PM
namespace Go.PM
open Go Go.Na
def tI (a:List Nat) (i:Nat):Nat:=a.getD i 0
theorem amT {a:List Nat} (h:Lim a) (i:Nat):tI a i<4294967296:=by
 unfold tI
 rw[bhQ]
 rcases bhK i a.length with h1 | h1
 ·rw[bhH h1]; exact h _ (bgY h1)
 ·rw[biE h1]; decide
theorem RB {a:List Nat} {i:Nat} (h:i<a.length):tI a i=a[i]:=by simp[tI,bhQ,h]
theorem HH {a:List Nat} {i:Nat} (h:¬ i<a.length):tI a i=0:=by simp[tI,bhQ,h]
theorem MG (a:List Nat) (i:Nat):val (a.take (i+1))=val (a.take i)+4294967296 ^ i*tI a i:=by
 rcases bhK i a.length with h | h
 ·rw[RB h]; exact bT a h
 ·rw[HH (by omega),bhI (by omega),bhI (by omega)]; simp
def qV (a b:List Nat) (v:PV) (c i:Nat):PF:=(((((PF.nil.set 0 (aF a)).set 1 (aF b)).set 5 (v)).set 6 (.int .u64 c)).set 7 (.int .i64 i))
theorem aXZ {C:Ctx} (L:mT C) (a b:List Nat) (ha:Lim a) (hb:Lim b) (h1:a.length≤8388608) (h2:b.length≤8388608) :
  FU.wp C (aY aaJ.res (bY (aF (aH (val a+val b))))) (PF.args [aF a,aF b]) .nil:=by
 simp -implicitDefEqProofs only[go_sem,FU,ayZ,azA,azB,azC,aaJ]
 refine wp_loop (α:=List Nat × Nat × PV × PH) (fun s=>qV a b s.2.2.1 s.2.1 s.1.length) (fun s=>s.2.2.2)
  (fun s=>s.1.length≤max a.length b.length+1∧(s.1.length≤max a.length b.length∨s.2.1=0)∧Lim s.1∧s.2.1≤1∧val s.1+4294967296 ^ s.1.length*s.2.1=val (a.take s.1.length)+val (b.take s.1.length)∧bB s.2.2.2 1 s.2.2.1 (aE s.1)) (fun s=>max a.length b.length+1-s.1.length) ([],0,.nils,.nil)
  ⟨by simp,by simp,by simp[Lim],by simp,by simp[val],.nil⟩ ?_ PH.nil_le ?_
 ·unfold qV
  (repeat' (first|exact PF.nil_le|refine PF.aA ?_ ?_))<;>first|(simp -implicitDefEqProofs only[go_sem,γ,reduceCtorEq]<;>rfl)|rfl
 rintro⟨P,c,v,H0⟩ ⟨hP,hPc,hLim,hc,hval,hO⟩
 simp only at hP hPc hLim hc hval hO ⊢
 have hda:=amT ha P.length
 have hdb:=amT hb P.length
 have hta:=MG a P.length
 have htb:=MG b P.length
 generalize hx:tI a P.length=x at *
 generalize hy:tI b P.length=y at *
 have ex:IntKind.u64.wrap ((x:Nat):Int)=((x:Nat):Int):=aZ (by omega)
 have ey:IntKind.u64.wrap ((y:Nat):Int)=((y:Nat):Int):=aZ (by omega)
 have e1:IntKind.u64.wrap ((c:Int)+(x:Int))=((c+x:Nat):Int):=eH (by omega)
 have e2:IntKind.u64.wrap (((c+x:Nat):Int)+(y:Int))=((c+x+y:Nat):Int):=eH (by omega)
 have hra:P.length<a.length→(aE a)[P.length]?=some [.int .u32 ((x:Nat):Int)]:=fun h=>by rw[bJ a h,← hx,RB h]
 have hrb:P.length<b.length→(aE b)[P.length]?=some [.int .u32 ((y:Nat):Int)]:=fun h=>by rw[bJ b h,← hy,RB h]
 have hxa:¬ P.length<a.length→x=0:=fun h=>by rw[← hx,HH h]
 have hyb:¬ P.length<b.length→y=0:=fun h=>by rw[← hy,HH h]
 have body:(P.length≤max a.length b.length)→∀ K:bZ,(∀ P' c' v' F2 H2,P'.length=P.length+1→Lim P'→c'≤1→(P.length+1≤max a.length b.length∨c'=0)→val P'+4294967296 ^ P'.length*c'=val (a.take (P.length+1))+val (b.take (P.length+1))→(qV a b v' c' P'.length).le F2→bB H2 1 v' (aE P')→K .normal F2 H2) →
   ∀ F:PF,(qV a b v c P.length).le F→aD.wp C (.seq (.block 1 (.seq (.region UA) (.seq (.seq (.region UB) (.cond (.tmp 29) (.region UC) .skip)) (.seq (.seq (.region FW) (.cond (.tmp 40) (.region FX) .skip)) (.seq (.region xK) (.region xL)))))) (.region xM)) K F H0:=by
  intro hle K hK F hF
  have g0:F 0=some (aF a):=hF 0 _ (by unfold qV; simp -implicitDefEqProofs only[go_sem,reduceCtorEq])
  have g1:F 1=some (aF b):=hF 1 _ (by unfold qV; simp -implicitDefEqProofs only[go_sem,γ,reduceCtorEq])
  have g5:F 5=some v:=hF 5 _ (by unfold qV; simp -implicitDefEqProofs only[go_sem,γ,reduceCtorEq])
  have g6:F 6=some (.int .u64 c):=hF 6 _ (by unfold qV; simp -implicitDefEqProofs only[go_sem,γ,reduceCtorEq])
  have g7:F 7=some (.int .i64 P.length):=hF 7 _ (by unfold qV; simp -implicitDefEqProofs only[go_sem,γ,reduceCtorEq])
  have fin:∀ F':PF,F' 0=some (aF a)→F' 1=some (aF b)→F' 5=some v→F' 7=some (.int .i64 P.length)→F' 8=some (.int .u64 (c+x+y:Nat)) →
    aD.wp C (.seq (.region xK) (.region xL)) (dY 1 (iZ C (aD.wp C (.region xM)) K)) F' H0:=by
   intro F' q0 q1 q5 q7 q8
   have hb1:(1:Nat)*1≤16777216:=by decide
   generalize ht:c+x+y=t at *
   have htt:t<2*4294967296:=by omega
   simp -implicitDefEqProofs only[go_sem,υ,γ,η,ζ,xK,q5,q8,hb1,bX]
   refine fC (src:=[[.int .u32 ((t%4294967296:Nat):Int)]]) hO rfl (nD (by omega)) fun v' H' hO' _=>?_
   rw[nE] at hO'
   simp -implicitDefEqProofs only[go_sem,γ,xL,q8,tY,xM,q7,aK (show P.length<9223372036854775807 by omega)]
   refine hK (P++[t%4294967296]) (t/4294967296) v' _ H' (by simp) (hLim.app fun y hy=>by simp at hy; subst hy; omega) (by omega) ?_ ?_ ?_ hO'
   ·rcases bhK P.length (max a.length b.length) with h | h
    ·exact .inl h
    ·right
     have h1:=hxa (by omega)
     have h2:=hyb (by omega)
     omega
   ·rw[gL,bgW,bhA,hta,htb,biJ,bhL,biW,← bhD]
    rw[show t%4294967296+4294967296*(t/4294967296)=t from Nat.mod_add_div t 4294967296]
    have h3:4294967296 ^ P.length*t=4294967296 ^ P.length*c+4294967296 ^ P.length*x+4294967296 ^ P.length*y:=by rw[← ht,bhD,bhD]
    omega
   ·unfold qV
    rw[bgW,bhA]
    repeat' first|exact PF.nil_le|refine PF.aA ?_ ?_|rfl|assumption
  simp only[aD.wp,go_sem] at fin
  simp -implicitDefEqProofs only[go_sem,γ,reduceCtorEq,UA,g6,UB,g7,g0]
  by_cases c1:P.length<a.length
  ·have c1':(P.length:Int)<(a.length:Nat):=by omega
   simp -implicitDefEqProofs only[go_sem,γ,reduceCtorEq,c1',UC,g0,g7,hra c1,ex,e1,FW,g1]
   by_cases c2:P.length<b.length
   ·have c2':(P.length:Int)<(b.length:Nat):=by omega
    simp -implicitDefEqProofs only[go_sem,γ,c2',FX,g1,g7,hrb c2,ey,e2]
    exact fin _ (by simp -implicitDefEqProofs only[go_sem,reduceCtorEq,g0]) (by simp -implicitDefEqProofs only[go_sem,γ,g1]) (by simp -implicitDefEqProofs only[go_sem,γ,g5]) (by simp -implicitDefEqProofs only[go_sem,γ,g7]) rfl
   ·have c2':¬ (P.length:Int)<(b.length:Nat):=by omega
    have h0:=hyb c2
    simp -implicitDefEqProofs only[go_sem,c2']
    exact fin _ (by simp -implicitDefEqProofs only[go_sem,reduceCtorEq,g0]) (by simp -implicitDefEqProofs only[go_sem,γ,g1]) (by simp -implicitDefEqProofs only[go_sem,γ,g5]) (by simp -implicitDefEqProofs only[go_sem,γ,g7]) (by simp -implicitDefEqProofs only[go_sem,γ,h0])
  ·have c1':¬ (P.length:Int)<(a.length:Nat):=by omega
   have h0:=hxa c1
   simp -implicitDefEqProofs only[go_sem,γ,c1',FW,g1,g7]
   by_cases c2:P.length<b.length
   ·have c2':(P.length:Int)<(b.length:Nat):=by omega
    have e2':IntKind.u64.wrap ((c:Int)+(y:Int))=((c+x+y:Nat):Int):=by rw[h0]; exact eH (by omega)
    simp -implicitDefEqProofs only[go_sem,γ,c2',FX,g1,g7,hrb c2,ey,e2']
    exact fin _ (by simp -implicitDefEqProofs only[go_sem,reduceCtorEq,g0]) (by simp -implicitDefEqProofs only[go_sem,γ,g1]) (by simp -implicitDefEqProofs only[go_sem,γ,g5]) (by simp -implicitDefEqProofs only[go_sem,γ,g7]) rfl
   ·have c2':¬ (P.length:Int)<(b.length:Nat):=by omega
    have h0':=hyb c2
    simp -implicitDefEqProofs only[go_sem,c2']
    exact fin _ (by simp -implicitDefEqProofs only[go_sem,reduceCtorEq,g0]) (by simp -implicitDefEqProofs only[go_sem,γ,g1]) (by simp -implicitDefEqProofs only[go_sem,γ,g5]) (by simp -implicitDefEqProofs only[go_sem,γ,g7]) (by simp -implicitDefEqProofs only[go_sem,γ,h0,h0'])
 simp only[aD.wp,go_sem] at body
 have hexit:¬ P.length<a.length→¬ P.length<b.length→c=0→∀ F:PF,F 5=some v→aD.wp C (.seq (.region MB) .ret) (aY [.tmp 4] (bY (aF (aH (val a+val b))))) F H0:=by
  intro n1 n2 n3 F f5
  have hV:val P=val a+val b:=by
   rw[n3,bhI (by omega),bhI (by omega)] at hval
   omega
  have hs:=L.trim _ hLim (by omega)
  rw[hV] at hs
  simp -implicitDefEqProofs only[go_sem,MB,f5]
  refine qX hs hO rfl fun F1 H1 _=>?_
  simp -implicitDefEqProofs only[go_sem]
  exact aW (.inr rfl) .nil rfl PH.nil_le ⟨.refl _,rfl⟩
 simp only[aD.wp,go_sem] at hexit
 simp -implicitDefEqProofs only[go_sem,γ,reduceCtorEq,akF,azD,qV]
 by_cases c1:P.length<a.length
 ·have c1':(P.length:Int)<(a.length:Nat):=by omega
  simp -implicitDefEqProofs only[go_sem,γ,reduceCtorEq,c1']
  refine body (by omega) _ ?_ _ (by unfold qV; (repeat' (first|exact PF.nil_le|refine PF.aA ?_ ?_))<;>first|(simp -implicitDefEqProofs only[go_sem,γ,reduceCtorEq]<;>rfl)|rfl)
  intro P' c' v' F2 H2 e1 e2 e3 e4 e5 e6 e7
  rw[← e1] at e5 e4
  exact aI (α:=List Nat × Nat × PV × PH) (P',c',v',H2) ⟨by simp only; omega,e4,e2,e3,e5,e7⟩ (by simp only; omega) e6 PH.le_refl
 ·have c1':¬ (P.length:Int)<(a.length:Nat):=by omega
  simp -implicitDefEqProofs only[go_sem,γ,reduceCtorEq,c1']
  by_cases c2:P.length<b.length
  ·have c2':(P.length:Int)<(b.length:Nat):=by omega
   simp -implicitDefEqProofs only[go_sem,γ,reduceCtorEq,c2']
   refine body (by omega) _ ?_ _ (by unfold qV; (repeat' (first|exact PF.nil_le|refine PF.aA ?_ ?_))<;>first|(simp -implicitDefEqProofs only[go_sem,γ,reduceCtorEq]<;>rfl)|rfl)
   intro P' c' v' F2 H2 e1 e2 e3 e4 e5 e6 e7
   rw[← e1] at e5 e4
   exact aI (α:=List Nat × Nat × PV × PH) (P',c',v',H2) ⟨by simp only; omega,e4,e2,e3,e5,e7⟩ (by simp only; omega) e6 PH.le_refl
  ·have c2':¬ (P.length:Int)<(b.length:Nat):=by omega
   simp -implicitDefEqProofs only[go_sem,γ,reduceCtorEq,c2']
   by_cases c3:c=0
   ·have c3':¬ (c:Int)>0:=by omega
    simp -implicitDefEqProofs only[go_sem,c3']
    exact hexit c1 c2 c3 _ rfl
   ·have c3':(c:Int)>0:=by omega
    simp -implicitDefEqProofs only[go_sem,c3']
    refine body (by omega) _ ?_ _ (by unfold qV; (repeat' (first|exact PF.nil_le|refine PF.aA ?_ ?_))<;>first|(simp -implicitDefEqProofs only[go_sem,γ,reduceCtorEq]<;>rfl)|rfl)
    intro P' c' v' F2 H2 e1 e2 e3 e4 e5 e6 e7
    rw[← e1] at e5 e4
    exact aI (α:=List Nat × Nat × PV × PH) (P',c',v',H2) ⟨by simp only; omega,e4,e2,e3,e5,e7⟩ (by simp only; omega) e6 PH.le_refl
structure aNC (C:Ctx):Prop extends aNB C where
 plus:∀ a b,Lim a→Lim b→a.length≤8388608→b.length≤8388608→aJ C 43 [aF a,aF b] .nil (aL (aF (aH (val a+val b))))
end Go.PM
namespace Go.PM
open Go Go.Na
def axV (k:Nat) (v:Nat):PF:=((PF.nil.set 3 (.int .i64 k)).set 4 (.int .u32 v))
theorem aXM {C:Ctx} (L:mT C) (xs:List Nat) (hx:Lim xs) (lx:xs.length≤16777216) :
  FK.wp C (aY ZW.res (aL (.int .i64 (cB (val xs):Nat)))) (PF.args [aF xs]) .nil:=by
 simp -implicitDefEqProofs only[go_sem,reduceCtorEq,FK,axX,axY,ZW]
 refine aB (L.trim xs hx lx) rfl ?_
 have bx:=eP hx
 simp -implicitDefEqProofs only[go_sem,γ,reduceCtorEq,axZ,bgT,bH,xJ]
 by_cases c1:nl (val xs)=0
 ·simp -implicitDefEqProofs only[go_sem,decide_eq_true c1,ayA]
  refine cC (.inr rfl) rfl ?_
  have:val xs=0:=iV.1 c1
  simp[cN,this,jA]
 obtain⟨n,hn⟩:∃ n,nl (val xs)=n+1:=⟨nl (val xs)-1,by omega⟩
 obtain⟨t,ht,ht0⟩:=awQ (xs:=aH (val xs)) (bD _) (by rw[aX]; exact hn)
 have htl:t<4294967296:=bD _ t (bjI ht)
 have hv:val xs=val ((aH (val xs)).take n)+4294967296 ^ n*t:=by
  have:=aX (val xs)
  have hnl:n<(aH (val xs)).length:=by rw[bH]; omega
  have hg:(aH (val xs))[n]=t:=by rw[bhH hnl] at ht; exact biY.inj ht
  conv=>lhs; rw[← this,← bhI (l:=aH (val xs)) (i:=n+1) (by rw[bH]; omega)]
  rw[bT _ hnl,hg]
 have hb:cB (val xs)=32*n+cB t:=by
  have h3:=eG ((bD (val xs)).take n)
  rw[bhJ,bH,biT (by omega)] at h3
  have hk:=amK (lo:=val ((aH (val xs)).take n)) (k:=32*n) (hi:=t) (by rw[Nat.pow_mul]; exact h3) ht0
  rw[← hk,Nat.pow_mul]
  exact congrArg cB hv
 have hrow:(aE (aH (val xs)))[n]?=some [.int .u32 (t:Nat)]:=by
  simp[aE,ht]
 have e1:IntKind.i64.wrap (((nl (val xs):Nat):Int)-1)=(n:Int):=by rw[wrap_i64 (by omega) (by omega)]; omega
 have e2:IntKind.i64.wrap (32*(n:Int))=((32*n:Nat):Int):=by rw[wrap_i64 (by omega) (by omega)]; omega
 simp -implicitDefEqProofs only[go_sem,γ,reduceCtorEq,decide_eq_false c1,ayB,ayC,bgT,bH,e1,e2,hrow]
 refine wp_loop (α:=Nat × Nat) (fun a=>axV a.1 a.2) (fun _=>.nil) (fun a=>a.1+cB a.2=32*n+cB t∧a.2<4294967296) (fun a=>a.2) (32*n,t) ⟨rfl,htl⟩ ?_ PH.nil_le ?_
 ·unfold axV
  (repeat' (first|exact PF.nil_le|refine PF.aA ?_ ?_))<;>first|(simp -implicitDefEqProofs only[go_sem,γ,reduceCtorEq]<;>rfl)|rfl
 rintro⟨k,v⟩ ⟨hk,hlt⟩
 simp only at hk hlt
 have hk32:cB t≤32:=(jU t 32).2 htl
 simp -implicitDefEqProofs only[go_sem,γ,axW,ayD,axV]
 by_cases c2:(v:Int)>0
 ·have hv0:v≠0:=by omega
  have hsh:IntKind.u32.wrap (Int.tdiv (v:Int) 2)=((v/2:Nat):Int):=by
   rw[show Int.tdiv (v:Int) 2=((v/2:Nat):Int) from Int.ofNat_tdiv v 2,bX,bhX (by omega)]
  simp -implicitDefEqProofs only[go_sem,μ,γ,c2,ayE,ayF,hsh,aK (show k<9223372036854775807 by omega)]
  refine aI (k+1,v/2) ⟨?_,?_⟩ (Nat.div_lt_self (by omega) (by decide)) ?_ PH.nil_le
  ·have:=oI hv0
   simp only; omega
  ·simp only; omega
  ·(repeat' (first|exact PF.nil_le|refine PF.aA ?_ ?_))<;>first|(simp -implicitDefEqProofs only[go_sem,γ]<;>rfl)|rfl
 ·have:v=0:=by omega
  subst this
  simp -implicitDefEqProofs only[go_sem,γ,c2,ajS]
  refine cC (.inr rfl) rfl ?_
  rw[jA] at hk
  simp only[cN,PV.int.injEq,true_and]
  omega
theorem agT (n:Nat):4294967296 ^ (n/32)*2 ^ (n%32)=2 ^ n:=by
 rw[show (4294967296:Nat)=2 ^ 32 by decide,← Nat.pow_mul,← Nat.pow_add]
 congr 1
 omega
theorem aRS (n:Nat):IntKind.i64.wrap (Int.tdiv (n:Int) 32)=IntKind.i64.wrap ((n/32:Nat):Int):=by
 rw[show Int.tdiv (n:Int) 32=((n/32:Nat):Int) from Int.ofNat_tdiv n 32]
theorem aRX (n:Nat):Int.tmod (n:Int) 32=((n%32:Nat):Int):=Int.ofNat_tmod n 32
def aYF (a:List Nat) (n:Nat) (v:PV) (c i:Nat):PF:=(((((PF.nil.set 0 (aF a)).set 1 (.int .i64 n)).set 5 (v)).set 6 (.int .u64 c)).set 7 (.int .i64 i))
theorem a5T {C:Ctx} (L:mT C) (a:List Nat) (n:Nat) (ha:Lim a) (h1:a.length≤8388608) (hn:n≤8388608) (h0:a.length=0→val a=0) :
  UE.wp C (aY uup.res (gO 1 (aE (aH (val a*2 ^ n))))) (PF.args [aF a,.int .i64 n]) .nil:=by
 simp -implicitDefEqProofs only[go_sem,γ,reduceCtorEq,UE,aST,aSU,uup,bgT,xJ]
 by_cases c0:a.length=0
 ·simp -implicitDefEqProofs only[go_sem,decide_eq_true c0,aSV]
  rw[h0 c0,Nat.zero_mul,eY]
  exact BH (.inr rfl) rfl
 have ez:IntKind.i64.wrap (Int.tdiv (n:Int) 32)=((n/32:Nat):Int):=by rw[aRS,UG (by omega)]
 have em:=aRX n
 have eu:IntKind.u64.wrap ((n%32:Nat):Int)=((n%32:Nat):Int):=aZ (by omega)
 have hsp:=agT n
 have hs:n%32<32:=biB _ (by decide)
 have hz:n/32≤8388608:=by omega
 generalize hzz:n/32=z at *
 generalize hss:n%32=s at *
 have hm1:((z:Nat):Int)*((4:Nat):Int)≤140737488355328:=by omega
 have hm2:((z:Nat):Int)≤9223372036854775807:=by omega
 have hzr:bgV z [PV.int .u32 0]=aE (bgV z 0):=by
  simp[aE]
 have h2s:2 ^ s≤2147483648:=Nat.pow_le_pow_right (show 0<2 by decide) (show s≤31 by omega)
 have h2s0:0<2 ^ s:=bjG (by decide)
 simp -implicitDefEqProofs only[go_sem,μ,γ,decide_eq_false c0,aSW,ez,hm1,hm2,hzr]
 refine aQ fun o ho=>?_
 simp -implicitDefEqProofs only[go_sem,γ,aSX,aSY]
 refine wp_loop (α:=List Nat × Nat × Nat × PV × PH) (fun t=>aYF a n t.2.2.2.1 t.2.1 t.2.2.1) (fun t=>t.2.2.2.2)
  (fun t=>t.2.2.1≤a.length∧t.1.length=z+t.2.2.1∧Lim t.1∧t.2.1<2 ^ s∧val t.1+4294967296 ^ t.1.length*t.2.1=val (a.take t.2.2.1)*2 ^ n∧bB t.2.2.2.2 1 t.2.2.2.1 (aE t.1)) (fun t=>a.length-t.2.2.1) (bgV z 0,0,0,.osl o 1 0 z,PH.nil.set o (.rows 1 (aE (bgV z 0))))
  ⟨by simp,by simp,sQ _,h2s0,by simp[val,pI],.inr ⟨o,aE (bgV z 0),by rw[bP,List.length_replicate],by simp -implicitDefEqProofs only[go_sem],by rw[bP]; exact bgX _,bhZ⟩⟩ ?_ PH.le_refl ?_
 ·unfold aYF
  (repeat' (first|exact PF.nil_le|refine PF.aA ?_ ?_))<;>first|(simp -implicitDefEqProofs only[go_sem,γ,reduceCtorEq]<;>rfl)|rfl
 rintro⟨P,c,i,v,H0⟩ ⟨hi,hP,hLim,hc,hval,hO⟩
 simp only at hi hP hLim hc hval hO ⊢
 simp -implicitDefEqProofs only[go_sem,γ,reduceCtorEq,aHV,aSZ,aYF]
 by_cases c1:i<a.length
 ·have c1':(i:Int)<(a.length:Nat):=by omega
  have hai:=ha _ (bgY c1)
  have hta:=bT a c1
  have hax:=bJ a c1
  generalize hx:a[i]=x at *
  have hxs:x*2 ^ s≤4294967295*2147483648:=Nat.mul_le_mul (by omega) h2s
  have ex:IntKind.u64.wrap ((x:Nat):Int)=((x:Nat):Int):=aZ (by omega)
  have hxs':2 ^ s*x=x*2 ^ s:=bhR _ _
  have esh:shift .shl .u64 (x:Int) (s:Int)=some (.int .u64 ((2 ^ s*x:Nat):Int)):=EW (by omega) (by omega)
  have eor:=orI (a:=2 ^ s*x) (b:=c) (n:=c+2 ^ s*x) (by omega) (by omega) (by rw[Nat.or_comm]; exact avI hc (by omega)) (by omega)
  have hdig:(c+2 ^ s*x)/4294967296<2 ^ s:=by
   rw[bjL (by decide)]
   have:2 ^ s*(x+1)≤2 ^ s*4294967296:=biX _ (by omega)
   rw[bhD,Nat.mul_one] at this
   omega
  have hb1:(1:Nat)*1≤16777216:=by decide
  simp -implicitDefEqProofs only[go_sem,μ,υ,γ,η,ζ,reduceCtorEq,c1',aTA,hax,ex,em,eu,esh,eor,aTB,bX,hb1]
  refine fC (src:=[[.int .u32 (((c+2 ^ s*x)%4294967296:Nat):Int)]]) hO rfl (nD (by omega)) fun v' H' hO' _=>?_
  rw[nE] at hO'
  simp -implicitDefEqProofs only[go_sem,γ,reduceCtorEq,aTC,tY,aHW,aK (show i<9223372036854775807 by omega)]
  refine aI (P++[(c+2 ^ s*x)%4294967296],(c+2 ^ s*x)/4294967296,i+1,v',H') ⟨by simp only; omega,by simp; omega,hLim.app fun y hy=>by simp at hy; subst hy; exact biB _ (by decide),hdig,?_,hO'⟩ (by simp only; omega) ?_ PH.le_refl
  ·simp only
   have hp:4294967296 ^ P.length*(2 ^ s*x)=4294967296 ^ i*x*2 ^ n:=by
    rw[hP,Nat.pow_add,← hsp]
    rw[bhL,Nat.mul_left_comm (4294967296 ^ i),← bhL (4294967296 ^ z),bhR (4294967296 ^ z*2 ^ s),bhL,bhR x]
   rw[gL,bgW,bhA,biJ,bhL,biW,← bhD,Nat.mod_add_div,hta,bhD,bhT,← biW,hval,hp]
  ·(repeat' (first|exact PF.nil_le|refine PF.aA ?_ ?_))<;>first|(simp -implicitDefEqProofs only[go_sem,γ,reduceCtorEq]<;>rfl)|rfl
 ·have e:i=a.length:=by omega
  subst e
  have c1':¬ ((a.length:Nat):Int)<(a.length:Nat):=by omega
  have hb1:(1:Nat)*1≤16777216:=by decide
  have hV:val (P++[c])=val a*2 ^ n:=by
   rw[gL,hval,bhZ]
  have hLc:Lim (P++[c]):=hLim.app fun x hx=>by simp at hx; omega
  have ec:IntKind.u32.wrap ((c:Nat):Int)=((c:Nat):Int):=by rw[bX,bhX (by omega)]
  simp -implicitDefEqProofs only[go_sem,υ,γ,η,ζ,reduceCtorEq,c1',aHX,ec,hb1]
  refine fC (src:=[[.int .u32 ((c:Nat):Int)]]) hO rfl (nD (by omega)) fun v' H' hO' _=>?_
  rw[nE] at hO'
  have hs:=L.trimM _ hLc (by simp; omega)
  rw[hV] at hs
  refine alE hs hO' rfl fun F1 H1 _ r H2 hr _=>?_
  simp -implicitDefEqProofs only[go_sem]
  exact aQY (.inr rfl) hr rfl
def LN (a:List Nat) (n:Nat) (v:PV) (i:Nat):PF:=((((PF.nil.set 0 (aF a)).set 1 (.int .i64 n)).set 5 (v)).set 6 (.int .i64 i))
theorem aXQ {C:Ctx} (L:mT C) (a:List Nat) (n:Nat) (ha:Lim a) (h1:a.length≤8388608) (hn:n≤1000000000) :
  FO.wp C (aY aaE.res (bY (aF (aH (val a/2 ^ n))))) (PF.args [aF a,.int .i64 n]) .nil:=by
 have ez:IntKind.i64.wrap (Int.tdiv (n:Int) 32)=((n/32:Nat):Int):=by rw[aRS,UG (by omega)]
 have em:=aRX n
 have eu:IntKind.u64.wrap ((n%32:Nat):Int)=((n%32:Nat):Int):=aZ (by omega)
 have hsp:=agT n
 have hs:n%32<32:=biB _ (by decide)
 have hz:n/32≤1000000000:=by omega
 generalize hzz:n/32=z at *
 generalize hss:n%32=s at *
 simp -implicitDefEqProofs only[go_sem,μ,γ,reduceCtorEq,FO,ayM,ayN,aaE,bgT,ez]
 by_cases c0:a.length≤z
 ·have c0':((z:Nat):Int)≥(a.length:Nat):=by omega
  have hq:val a/2 ^ n=0:=by
   refine bjW (Nat.lt_of_lt_of_le (eG ha) ?_)
   rw[← hsp]
   exact bjM (Nat.pow_le_pow_right (by decide) c0) (Nat.le_mul_of_pos_right _ (bjG (by decide)))
  simp -implicitDefEqProofs only[go_sem,c0',ayO]
  rw[hq,eY]
  exact aW (vs:=[.nils]) (.inr rfl) .nil rfl PH.nil_le ⟨.nil 1,rfl⟩
 have c0':¬ ((z:Nat):Int)≥(a.length:Nat):=by omega
 have hR:val a/2 ^ n=val (a.drop z)/2 ^ s:=by
  rw[rM ha (by omega),← hsp,Nat.div_div_eq_div_mul]
 have hLd:Lim (a.drop z):=ha.drop z
 simp -implicitDefEqProofs only[go_sem,μ,γ,c0',ayP,ayQ,ez]
 refine wp_loop (α:=List Nat × PV × PH) (fun t=>LN a n t.2.1 (z+t.1.length)) (fun t=>t.2.2)
  (fun t=>z+t.1.length≤a.length∧t.1=cW t.1.length (val (a.drop z)/2 ^ s)∧bB t.2.2 1 t.2.1 (aE t.1)) (fun t=>a.length-t.1.length) ([],.nils,.nil)
  ⟨by simp; omega,rfl,.nil⟩ ?_ PH.nil_le ?_
 ·unfold LN
  (repeat' (first|exact PF.nil_le|refine PF.aA ?_ ?_))<;>first|(simp -implicitDefEqProofs only[go_sem,γ,reduceCtorEq,bjB]<;>rfl)|rfl
 rintro⟨P,v,H0⟩ ⟨hP,hD,hO⟩
 simp only at hP hD hO ⊢
 simp -implicitDefEqProofs only[go_sem,γ,reduceCtorEq,ajT,ayR,LN]
 have hlimP:Lim P:=by rw[hD]; exact kI _ _
 by_cases c1:z+P.length<a.length
 ·have c1':((z+P.length:Nat):Int)<(a.length:Nat):=by omega
  have hai:=ha _ (bgY c1)
  have hax:=bJ a c1
  have hkl:P.length≤(a.drop z).length:=by rw[biR]; omega
  have hvd:=rM hLd hkl
  have hdrop:(a.drop z).drop P.length=a[z+P.length]::a.drop (z+P.length+1):=by
   rw[List.drop_drop,biQ c1]
  generalize hx:a[z+P.length]=x at *
  have ex:IntKind.u64.wrap ((x:Nat):Int)=((x:Nat):Int):=aZ (by omega)
  have hb1:(1:Nat)*1≤16777216:=by decide
  have ew:IntKind.i64.wrap (((z+P.length:Nat):Int)+1)=((z+P.length+1:Nat):Int):=aK (by omega)
  have fin:∀ (t:Nat) (F:PF),t<18446744073709551616→val (a.drop z)/4294967296 ^ P.length%(4294967296*4294967296)=t→F 0=some (aF a)→F 1=some (.int .i64 n)→F 5=some v→F 6=some (.int .i64 (z+P.length:Nat))→F 7=some (.int .u64 t) →
    ∀ K:bZ,(∀ v' F2 H2,(LN a n v' (z+(P.length+1))).le F2→bB H2 1 v' (aE (P++[t/2 ^ s%4294967296]))→(P++[t/2 ^ s%4294967296])=cW (P.length+1) (val (a.drop z)/2 ^ s)→K .normal F2 H2) →
    aD.wp C (.region TZ) (dY 1 (iZ C (aD.wp C (.region LO)) K)) F H0:=by
   intro t F ht hte f0 f1 f5 f6 f7 K hK
   have esh:shift .shr .u64 (t:Int) (s:Int)=some (.int .u64 ((t/2 ^ s:Nat):Int)):=a5M (by omega)
   simp -implicitDefEqProofs only[go_sem,μ,υ,γ,η,ζ,TZ,f5,f7,f1,em,eu,esh,bX,hb1]
   refine fC (src:=[[.int .u32 ((t/2 ^ s%4294967296:Nat):Int)]]) hO rfl (nD (by omega)) fun v' H' hO' _=>?_
   rw[nE] at hO'
   simp -implicitDefEqProofs only[go_sem,γ,LO,f6,ew]
   refine hK v' _ H' ?_ hO' ?_
   ·unfold LN
    repeat' first|exact PF.nil_le|refine PF.aA ?_ ?_|rfl|assumption
   ·rw[sL,← hD]
    congr 2
    have e:val (a.drop z)/4294967296 ^ P.length=t%4294967296+4294967296*(t/4294967296+4294967296*(val (a.drop z)/4294967296 ^ P.length/(4294967296*4294967296))):=by
     have:=Nat.mod_add_div (val (a.drop z)/4294967296 ^ P.length) (4294967296*4294967296)
     rw[hte] at this
     have h2:=Nat.mod_add_div t 4294967296
     rw[bhD,← biW,h2,← bhL]
     exact this.symm
    have:=QC hs e
    rw[this]
    congr 2
    have h2:=Nat.mod_add_div t 4294967296
    omega
  simp only[aD.wp,go_sem] at fin
  simp -implicitDefEqProofs only[go_sem,γ,reduceCtorEq,c1',ayS,hax,ex,ayT,ew]
  by_cases c2:z+P.length+1<a.length
  ·have c2':((z+P.length+1:Nat):Int)<(a.length:Nat):=by omega
   have hai2:=ha _ (bgY c2)
   have hax2:=bJ a c2
   rw[biQ c2] at hdrop
   generalize hy:a[z+P.length+1]=y at *
   have ey:IntKind.u64.wrap ((y:Nat):Int)=((y:Nat):Int):=aZ (by omega)
   have esh:shift .shl .u64 (y:Int) ((32:Nat):Int)=some (.int .u64 ((2 ^ 32*y:Nat):Int)):=EW (by decide) (by omega)
   have eor:=orI (a:=x) (b:=2 ^ 32*y) (n:=x+2 ^ 32*y) (by omega) (by omega) (avI (by omega) (by omega)) (by omega)
   simp -implicitDefEqProofs only[go_sem,γ,reduceCtorEq,c2',ayU,ew,hax2,ey,show shift .shl .u64 (y:Int) 32=_ from esh,eor]
   refine fin (x+2 ^ 32*y) _ (by omega) ?_ rfl rfl rfl rfl rfl _ ?_
   ·rw[← hvd,hdrop]
    simp only[val]
    omega
   ·intro v' F2 H2 e1 e2 e3
    refine aI (α:=List Nat × PV × PH) (P++[(x+2 ^ 32*y)/2 ^ s%4294967296],v',H2) ⟨by simp; omega,by simpa using e3,e2⟩ (by simp; omega) ?_ PH.le_refl
    simp only[bgW,bhA]
    exact e1
  ·have c2':¬ ((z+P.length+1:Nat):Int)<(a.length:Nat):=by omega
   rw[bkA (l:=a) (i:=z+P.length+1) (by omega)] at hdrop
   simp -implicitDefEqProofs only[go_sem,c2']
   refine fin x _ (by omega) ?_ rfl rfl rfl rfl rfl _ ?_
   ·rw[← hvd,hdrop]
    simp only[val]
    omega
   ·intro v' F2 H2 e1 e2 e3
    refine aI (α:=List Nat × PV × PH) (P++[x/2 ^ s%4294967296],v',H2) ⟨by simp; omega,by simpa using e3,e2⟩ (by simp; omega) ?_ PH.le_refl
    simp only[bgW,bhA]
    exact e1
 ·have e:z+P.length=a.length:=by omega
  have c1':¬ ((z+P.length:Nat):Int)<(a.length:Nat):=by omega
  have hV:val P=val (a.drop z)/2 ^ s:=by
   rw[hD]
   refine lS (Nat.lt_of_le_of_lt (bjS _ _) ?_)
   have:=eG hLd
   rw[biR] at this
   rw[show P.length=a.length-z by omega]
   exact this
  have hs:=L.trim _ hlimP (by omega)
  rw[hV,← hR] at hs
  simp -implicitDefEqProofs only[go_sem,γ,reduceCtorEq,c1',ajU]
  refine qX hs hO rfl fun F1 H1 _=>?_
  simp -implicitDefEqProofs only[go_sem]
  exact aW (.inr rfl) .nil rfl PH.nil_le ⟨.refl _,rfl⟩
end Go.PM
namespace Go.PM
open Go Go.Na
structure GX (C:Ctx):Prop extends aNC C where
 bits:∀ xs,Lim xs→xs.length≤16777216→aJ C 31 [aF xs] .nil (aL (.int .i64 (cB (val xs):Nat)))
 upM:∀ (a:List Nat) (n:Nat),Lim a→a.length≤8388608→n≤8388608→(a.length=0→val a=0)→aJ C 45 [aF a,.int .i64 n] .nil (gO 1 (aE (aH (val a*2 ^ n))))
 down:∀ (a:List Nat) (n:Nat),Lim a→a.length≤8388608→n≤1000000000→aJ C 40 [aF a,.int .i64 n] .nil (aL (aF (aH (val a/2 ^ n))))
def udS:Spec:=fun name vs=>match name,vs with
 | 35,[.int _ v]=>some ([],fun _=>aL (aF (aH v.toNat)))
 | 44,[x,y]=>some ([],fun _=>aL (aF (aH (val (jG x)*val (jG y)))))
 | 32,[x,.osl q _ _ _]=>some ([q],fun H0 r H'=>H'=H0∧∀ xs,Lim xs→H0 q=some (.rows 1 (aE xs))→r=.int .i64 (dE (val (jG x)) (val xs)))
 | _,_=>none
theorem aXP (v:Nat):udS 35 [.int .u64 v]=some ([],fun _=>aL (aF (aH v))):=rfl
theorem aSJ (x y:List Nat):udS 44 [aF x,aF y]=some ([],fun _=>aL (aF (aH (val x*val y)))):=by
 show some ([],fun _=>aL (aF (aH (val (jG (aF x))*val (jG (aF y))))))=_; rw[eK,eK]
theorem aTP (q:Nat) (x L:List Nat):(PH.nil.set q (.rows 1 (aE L)))=(PH.nil.set q (.rows 1 (aE L)))∧∀ xs,Lim xs→(PH.nil.set q (.rows 1 (aE L))) q=some (.rows 1 (aE xs))→(PV.int .i64 (dE (val x) (val L)))=.int .i64 (dE (val (jG (aF x))) (val xs)):=by
 refine⟨rfl,fun xs hx e=>?_⟩
 rw[fS] at e
 have:aE L=aE xs:=(bV.rows.inj (biY.inj e)).2
 rw[JG this,eK]
def duF (n o lx:Nat) (y:List Nat) (top oq lq:Nat) (k:Int):PF :=
 ((((((PF.nil.set 10 (.int .i64 n)).set 11 (.osl o 1 0 lx)).set 12 (aF y)).set 13 (.int .u64 top)).set 14 (.osl oq 1 0 lq)).set 15 (.int .i64 k))
abbrev cZ (X:List Nat) (Z:List (List PV)):List (List PV):=aE X++Z
theorem GH {X:List Nat} {Z:List (List PV)} {i:Nat} (h:i<X.length):(cZ X Z)[i]?=some [.int .u32 ((X[i]:Nat):Int)]:=by
 rw[cZ,bjQ (by rw[bP]; exact h),bJ X h]
theorem akQ {X:List Nat} {Z:List (List PV)} {i:Nat} (h:i<X.length) (v:Nat):(cZ X Z).set i [.int .u32 (v:Int)]=cZ (X.set i v) Z:=by
 rw[cZ,List.set_append_left _ _ (by rw[bP]; exact h),eQ]
theorem akP {X:List Nat} {Z:List (List PV)} {j m:Nat} (h:j+m≤X.length):((cZ X Z).drop j).take m=aE ((X.drop j).take m):=by
 rw[cZ,List.drop_append_of_le_length (by rw[bP]; omega),List.take_append_of_le_length (by rw[biR,bP]; omega)]
 unfold aE
 rw[← List.map_drop,← List.map_take]
theorem a5S {C:Ctx} (L:GX C) (n o lx:Nat) (y:List Nat) (top oq lq j:Nat) (X:List Nat) (Z:List (List PV)) (hne:oq≠o) (hy:Lim y) (hX:Lim X) (hlx:X.length=lx) (hl:lx≤5000) (hj:j+(y.length+1)≤lx) (hy0:0<val y)
  (qv:bV) (g0:Nat) (hg:val ((X.drop j).take (y.length+1))/val y≤g0) (hg0:g0<4294967296) (K:bZ) (F:PF) (H:PH) (hF:((duF n o lx y top oq lq j).set 17 (.int .u64 g0)).le F) (hH:((PH.nil.set o (.rows 1 (cZ X Z))).set oq qv).le H)
  (hK:∀ F' H',((duF n o lx y top oq lq j).set 17 (.int .u64 (val ((X.drop j).take (y.length+1))/val y:Nat))).le F'→((PH.nil.set o (.rows 1 (cZ X Z))).set oq qv).le H'→K .normal F' H') :
  aD.wp C (.block 4 (.loop sD)) K F H:=by
 have hne':¬ o=oq:=fun h=>hne h.symm
 have hWl:((X.drop j).take (y.length+1)).length=y.length+1:=by rw[bhJ,biR]; omega
 have hWL:Lim ((X.drop j).take (y.length+1)):=(hX.drop _).take _
 have hcut:=akP (X:=X) (Z:=Z) (j:=j) (m:=y.length+1) (by omega)
 have hoff:j+(y.length+1)≤(cZ X Z).length:=by rw[cZ,bgW,bP]; omega
 have hWn:aE ((X.drop j).take (y.length+1))≠[]:=fun h=>by
  have:=congrArg List.length h
  rw[bP,hWl] at this
  simp at this
 generalize hW:(X.drop j).take (y.length+1)=W at *
 generalize hqq:val W/val y=qq at *
 simp -implicitDefEqProofs only[go_sem]
 refine wp_loop (α:=Nat) (fun g=>(duF n o lx y top oq lq j).set 17 (.int .u64 g)) (fun _=>(PH.nil.set o (.rows 1 (cZ X Z))).set oq qv) (fun g=>qq≤g∧g<4294967296) (fun g=>g) g0 ⟨hg,hg0⟩ hF hH ?_
 rintro g ⟨hge,hlt⟩
 have e1:IntKind.i64.wrap ((j:Int)+((y.length:Nat):Int))=((j+y.length:Nat):Int):=fI (by omega)
 have e2:IntKind.i64.wrap (((j+y.length:Nat):Int)+1)=((j+y.length+1:Nat):Int):=aK (by omega)
 have b1:(j:Int)≤((j+y.length+1:Nat):Int):=by omega
 have b2:((j+y.length+1:Nat):Int)≤(lx:Nat):=by omega
 have b3:j+y.length+1-j=y.length+1:=by omega
 have mk:=L.make g (by omega)
 have tm:=L.times y (aH g) hy (bD _) (by omega) (by
  have h1:nl g≤1:=mL (by rw[Nat.pow_one]; exact hlt)
  rw[bH]; omega)
 rw[aX] at tm
 have hnt:(aH (val y*g)).length≤16777216:=by
  have h1:nl g≤1:=mL (by rw[Nat.pow_one]; exact hlt)
  have h2:=sT (a:=val y) (b:=g) (eP hy) h1
  rw[bH]; omega
 have cm:=L.cmp (aH (val y*g)) W (bD _) hWL hnt (by omega)
 rw[aX] at cm
 simp -implicitDefEqProofs only[go_sem,sD]
 refine cA .nil udS PH.nil_le ?_
 simp -implicitDefEqProofs only[go_sem,γ,QQ,duF]
 refine cO (aXP g) mk (by simp -implicitDefEqProofs only[go_sem,γ]) PH.nil_le ?_
 simp -implicitDefEqProofs only[go_sem]
 have tS:=aSJ y (aH g)
 rw[aX] at tS
 refine cO tS tm (by simp -implicitDefEqProofs only[go_sem,γ]) PH.nil_le ?_
 simp -implicitDefEqProofs only[go_sem,γ,reduceCtorEq,bgT,e1,e2,b1,b2,b3]
 refine wG (src:=aE W) ?_ ?_ (fun h=>absurd h hWn) fun _ o' ho'=>?_
 ·simp -implicitDefEqProofs only[go_sem,hne',hoff,hcut]
 ·unfold roomFor
  rw[bP,hWl]
  simp only[maxLen]; omega
 refine⟨PH.nil_le,?_⟩
 rw[bP,hWl]
 have n1:¬ o'=oq:=(fZ.1 ho').1
 refine aTT (o:=o') (s:=1) (rs:=aE W) (vs:=[aF (aH (val y*g)),.osl o' 1 0 (y.length+1)]) (v:=.int .i64 (dE (val y*g) (val W))) rfl (.int _ _) (by simp -implicitDefEqProofs only[go_sem]) ?_ ?_ ?_ (by simp -implicitDefEqProofs only[go_sem,γ]) PH.nil_le ?_
 ·rw[biC,biC,biV,AY (by rw[bP,hWl]; exact bgX _),bhI (by rw[bP,hWl]; exact bgX _)]
  exact cm
 ·have:=aTP o' (aH (val y*g)) W
  rw[aX] at this
  exact this
 ·rintro r H' ⟨h1,h2⟩
  have:=h2 W hWL (by rw[fS])
  rw[eK,aX] at this
  exact⟨this,h1⟩
 simp -implicitDefEqProofs only[go_sem,γ]
 by_cases c:val W<val y*g
 ·have hc:dE (val y*g) (val W)=1:=by
   unfold dE
   rw[if_neg (by omega),if_pos c]
  have hq:qq<g:=by rw[← hqq]; exact (bjL hy0).2 (by rw[bhR]; exact c)
  have ew:IntKind.u64.wrap ((g:Int)-1)=((g-1:Nat):Int):=by rw[wrap_u64 (by omega) (by omega)]; omega
  simp -implicitDefEqProofs only[go_sem,γ,hc,show (1:Int)>0 by decide,QR,ew]
  refine aI (g-1) ⟨by omega,by omega⟩ (by omega) ?_ ?_
  ·(repeat' (first|exact PF.nil_le|refine PF.aA ?_ ?_))<;>first|(simp -implicitDefEqProofs only[go_sem,γ]<;>rfl)|rfl
  ·refine PH.aA (PH.aA PH.nil_le ?_) ?_
   ·have n2:¬ o=o':=fun h=>by
     subst h
     rw[aV,if_neg hne',fS] at ho'
     cases ho'
    simp -implicitDefEqProofs only[go_sem,n2,hne']
   ·have n3:¬ oq=o':=fun h=>n1 h.symm
    simp -implicitDefEqProofs only[go_sem,n3]
 ·have hc:¬ dE (val y*g) (val W)>0:=by
   unfold dE
   rw[if_neg c]
   split<;>decide
  have hq:g=qq:=by
   have:g≤qq:=by rw[← hqq]; exact (Nat.le_div_iff_mul_le hy0).2 (by rw[bhR]; omega)
   omega
  simp -implicitDefEqProofs only[go_sem,hc]
  refine hK _ _ ?_ ?_
  ·unfold duF
   (repeat' (first|exact PF.nil_le|refine PF.aA ?_ ?_))<;>first|(simp -implicitDefEqProofs only[go_sem,γ,← hq]<;>rfl)|rfl
  ·refine PH.aA (PH.aA PH.nil_le ?_) ?_
   ·have n2:¬ o=o':=fun h=>by
     subst h
     rw[aV,if_neg hne',fS] at ho'
     cases ho'
    simp -implicitDefEqProofs only[go_sem,n2,hne']
   ·have n3:¬ oq=o':=fun h=>n1 h.symm
    simp -implicitDefEqProofs only[go_sem,n3]
theorem a1D (R k:Nat) (h:k<nl R):∃ h':k<(aH R).length,(aH R)[k]=R/4294967296 ^ k%4294967296:=by
 have hl:k<(aH R).length:=by rw[bH]; exact h
 refine⟨hl,?_⟩
 have h1:=rM (bD R) (Nat.le_of_lt hl)
 rw[aX,biQ hl] at h1
 have h2:=bD R _ (bgY hl)
 simp only[val] at h1
 rw[← h1,Nat.add_mul_mod_self_left,bhX h2]
theorem aVF (R k:Nat) (h:nl R≤k):R/4294967296 ^ k%4294967296=0:=by
 rw[bjW ((gQ R k).1 h)]
theorem a2H {A P W Z:List Nat} {i:Nat} (hP:P.length=i) (hi:i<W.length) (v:Nat):(A++(P++W.drop i)++Z).set (A.length+i) v=A++((P++[v])++W.drop (i+1))++Z :=
 JG (by rw[← eQ]; exact BK hP hi v)
theorem a8C {C:Ctx} (n o lx:Nat) (y:List Nat) (top oq lq j:Nat) (X:List Nat) (Z:List (List PV)) (hne:oq≠o) (hlx:X.length=lx) (hl:lx≤5000) (hj:j+(y.length+1)≤lx)
  (qv:bV) (g R:Nat) (K:bZ) (F:PF) (H:PH) (hF:((((duF n o lx y top oq lq j).set 17 (.int .u64 g)).set 18 (aF (aH R))).set 19 (.int .i64 0)).le F) (hH:((PH.nil.set o (.rows 1 (cZ X Z))).set oq qv).le H)
  (hK:∀ F' H',((duF n o lx y top oq lq j).set 17 (.int .u64 g)).le F'→((PH.nil.set o (.rows 1 (cZ (X.take j++cW (y.length+1) R++X.drop (j+(y.length+1))) Z))).set oq qv).le H'→K .normal F' H') :
  aD.wp C (.block 6 (.loop sE)) K F H:=by
 have hne':¬ o=oq:=fun h=>hne h.symm
 have hA:(X.take j).length=j:=by rw[bhJ]; omega
 have hWl:((X.drop j).take (y.length+1)).length=y.length+1:=by rw[bhJ,biR]; omega
 have hZl:(X.drop (j+(y.length+1))).length=lx-(j+(y.length+1)):=by rw[biR,hlx]
 have hsplit:X.take j++(X.drop j).take (y.length+1)++X.drop (j+(y.length+1))=X:=by
  rw[bhY,← List.drop_drop,bjE,bjE]
 rw[← hsplit] at hH
 generalize hAA:X.take j=A at *
 generalize hWW:(X.drop j).take (y.length+1)=W at *
 generalize hZZ:X.drop (j+(y.length+1))=Zx at *
 simp -implicitDefEqProofs only[go_sem]
 refine wp_loop (α:=List Nat) (fun P=>(((duF n o lx y top oq lq j).set 17 (.int .u64 g)).set 18 (aF (aH R))).set 19 (.int .i64 P.length)) (fun P=>(PH.nil.set o (.rows 1 (cZ (A++(P++W.drop P.length)++Zx) Z))).set oq qv)
  (fun P=>P.length≤y.length+1∧P=cW P.length R) (fun P=>y.length+1-P.length) [] ⟨bhE _,rfl⟩ hF (by simpa using hH) ?_
 rintro P ⟨hP,hD⟩
 simp -implicitDefEqProofs only[go_sem,γ,sE,QS,duF]
 by_cases c:P.length<y.length+1
 ·have c':(P.length:Int)≤(y.length:Nat):=by omega
  have ei:IntKind.i64.wrap ((j:Int)+(P.length:Int))=((j+P.length:Nat):Int):=fI (by omega)
  have hlen:(A++(P++W.drop P.length)++Zx).length=lx:=by
   simp only[bgW,biR]; omega
  have hi:j+P.length<(A++(P++W.drop P.length)++Zx).length:=by omega
  have b1:((j+P.length:Nat):Int)<(lx:Nat):=by omega
  have r1:=GH (Z:=Z) hi
  have s1:=akQ (Z:=Z) hi 0
  have hi2:j+P.length<((A++(P++W.drop P.length)++Zx).set (j+P.length) 0).length:=by rw[bjC]; exact hi
  have hput:=fun v=>a2H (A:=A) (P:=P) (W:=W) (Z:=Zx) (i:=P.length) rfl (by omega) v
  rw[hA] at hput
  generalize hXX:A++(P++W.drop P.length)++Zx=XX at *
  have r2:(cZ (A++((P++[0])++W.drop (P.length+1))++Zx) Z)[j+P.length]?=some [.int .u32 ((0:Nat):Int)]:=by
   rw[← hput 0,GH hi2,List.getElem_set_self]
  have s2:∀ v,(cZ (A++((P++[0])++W.drop (P.length+1))++Zx) Z).set (j+P.length) [.int .u32 ((v:Nat):Int)]=cZ (A++((P++[v])++W.drop (P.length+1))++Zx) Z:=by
   intro v
   rw[← hput 0,akQ hi2,List.set_set,hput]
  have hnext:=sL P.length R
  rw[← hD] at hnext
  have ew:IntKind.i64.wrap ((P.length:Int)+1)=((P.length+1:Nat):Int):=aK (by omega)
  simp -implicitDefEqProofs only[go_sem,γ,c',QT,ei,b1,hne',r1,show ([PV.int .u32 (0:Int)])=[PV.int .u32 ((0:Nat):Int)] from rfl,s1,QU,bH]
  by_cases c2:P.length<nl R
  ·have c2':(P.length:Int)<(nl R:Nat):=by omega
   obtain⟨hl',hv⟩:=a1D R P.length c2
   have hr:=bJ (aH R) hl'
   rw[hv] at hr
   simp -implicitDefEqProofs only[go_sem,γ,c2',QV,hr,ei,b1,hne',r2,s2,List.set_set,hput,AG,ew]
   refine aI (P++[R/4294967296 ^ P.length%4294967296]) ⟨by simp; omega,by rw[bgW,bhA]; exact hnext.symm⟩ (by simp; omega) ?_ ?_
   ·rw[bgW,bhA]
    (repeat' (first|exact PF.nil_le|refine PF.aA ?_ ?_))<;>first|(simp -implicitDefEqProofs only[go_sem,γ]<;>rfl)|rfl
   ·rw[bgW,bhA]
    refine PH.aA (PH.aA PH.nil_le ?_) ?_<;>simp -implicitDefEqProofs only[go_sem,hne',show ¬ oq=o from hne]
  ·have c2':¬ (P.length:Int)<(nl R:Nat):=by omega
   have hv:=aVF R P.length (by omega)
   rw[hv] at hnext
   simp -implicitDefEqProofs only[go_sem,γ,c2',hput,AG,ew]
   refine aI (P++[0]) ⟨by simp; omega,by rw[bgW,bhA]; exact hnext.symm⟩ (by simp; omega) ?_ ?_
   ·rw[bgW,bhA]
    (repeat' (first|exact PF.nil_le|refine PF.aA ?_ ?_))<;>first|(simp -implicitDefEqProofs only[go_sem,γ]<;>rfl)|rfl
   ·rw[bgW,bhA]
    refine PH.aA (PH.aA PH.nil_le ?_) ?_<;>simp -implicitDefEqProofs only[go_sem,hne',show ¬ oq=o from hne]
 ·have c':¬ (P.length:Int)≤(y.length:Nat):=by omega
  have e:P.length=y.length+1:=by omega
  simp -implicitDefEqProofs only[go_sem,c']
  refine hK _ _ (by unfold duF; (repeat' (first|exact PF.nil_le|refine PF.aA ?_ ?_))<;>first|(simp -implicitDefEqProofs only[go_sem,γ]<;>rfl)|rfl) ?_
  have h2:A++cW (y.length+1) R++Zx=A++(P++W.drop P.length)++Zx:=by
   rw[bkA (by omega),biN,← e,← hD]
  rw[h2]
  exact PH.le_refl
end Go.PM
namespace Go.PM
open Go Go.Na
theorem aUT {y W:List Nat} {m:Nat} (hy:Lim y) (hW:Lim W) (hly:y.length=m+1) (hlW:W.length=m+2) (ht:0<y[m]):val W/val y≤(4294967296*W[m+1]+W[m])/y[m]:=by
 have h1:=bT y (show m<y.length by omega)
 rw[bhI (by omega)] at h1
 have h2:=bT W (show m+1<W.length by omega)
 rw[bhI (by omega),bT W (show m<W.length by omega)] at h2
 have h3:=eG (hW.take m)
 rw[bhJ,biT (by omega)] at h3
 have hp:0<4294967296 ^ m:=bjG (by decide)
 have hb:4294967296 ^ m*y[m]≤val y:=by omega
 have hpos:0<4294967296 ^ m*y[m]:=Nat.mul_pos hp ht
 have e:val W=val (W.take m)+4294967296 ^ m*(4294967296*W[m+1]+W[m]):=by
  rw[h2,biJ,bhD,bhL]; omega
 refine bjM (Nat.div_le_div_left hb hpos) ?_
 rw[← Nat.div_div_eq_div_mul,e,Nat.add_mul_div_left _ _ hp,bjW h3,bhS]
 exact bgX _
theorem aSK {C:Ctx} (L:GX C) (U0 n o lx lq oq m:Nat) (y z:List Nat) (hne:oq≠o) (hy:Lim y) (hly:y.length=m+1) (ht:0<y[m]) (hlu:lx=lq+(m+1)) (hmax:lx≤5000) (X:List Nat) (hI:mF U0 (val y) (m+1) lx lq lq X (bgV lq 0)) (K:bZ) (F:PF) (H:PH)
  (hF:(duF n o lx y (y[m]) oq lq ((lq:Int)-1)).le F) (hH:((PH.nil.set o (.rows 1 (cZ X (aE z)))).set oq (.rows 1 (aE (bgV lq 0)))).le H)
  (hK:∀ X' Q' F' H',mF U0 (val y) (m+1) lx lq 0 X' Q'→(duF n o lx y (y[m]) oq lq (-1)).le F'→((PH.nil.set o (.rows 1 (cZ X' (aE z)))).set oq (.rows 1 (aE Q'))).le H'→K .normal F' H') :
  aD.wp C (.block 2 (.loop sF)) K F H:=by
 have hne':¬ o=oq:=fun h=>hne h.symm
 have hne2:¬ oq=o:=hne
 have hV:val y<4294967296 ^ (m+1):=by have:=eG hy; rw[hly] at this; exact this
 have hV0:0<val y:=by
  have h1:=bT y (show m<y.length by omega)
  rw[bhI (by omega)] at h1
  have:0<4294967296 ^ m*y[m]:=Nat.mul_pos (bjG (by decide)) ht
  omega
 have htl:=hy _ (bgY (show m<y.length by omega))
 generalize htop:y[m]=top at *
 simp -implicitDefEqProofs only[go_sem]
 refine wp_loop (α:=Nat × List Nat × List Nat) (fun t=>duF n o lx y top oq lq ((t.1:Int)-1)) (fun t=>(PH.nil.set o (.rows 1 (cZ t.2.1 (aE z)))).set oq (.rows 1 (aE t.2.2)))
  (fun t=>t.1≤lq∧mF U0 (val y) (m+1) lx lq t.1 t.2.1 t.2.2) (fun t=>t.1) (lq,X,bgV lq 0) ⟨bgX _,hI⟩ hF hH ?_
 rintro⟨k,X,Q⟩ ⟨hk,hI⟩
 simp only at hk hI
 simp -implicitDefEqProofs only[go_sem,γ,sF,QL,duF]
 by_cases h0:0<k
 ·obtain⟨j,rfl⟩:∃ j,k=j+1:=⟨k-1,by omega⟩
  have hz:((j+1:Nat):Int)-1=(j:Int):=by omega
  have hge:(j:Int)≥0:=by omega
  have dst:=amW hI hV (by omega) hlu
  rw[show m+1+1=m+2 from rfl] at dst
  obtain⟨hlt,hI'⟩:=dst
  have hXl:=hI.lu'
  have hQl:=hI.lq'
  have hWl:((X.drop j).take (m+2)).length=m+2:=by rw[bhJ,biR]; omega
  have hWL:Lim ((X.drop j).take (m+2)):=(hI.limU.drop _).take _
  have hg1:m+1<((X.drop j).take (m+2)).length:=by omega
  have hg0:m<((X.drop j).take (m+2)).length:=by omega
  have a1:j+(m+1)<X.length:=by omega
  have a0:j+m<X.length:=by omega
  have w1:((X.drop j).take (m+2))[m+1]=X[j+(m+1)]:=by simp
  have w0:((X.drop j).take (m+2))[m]=X[j+m]:=by simp
  have hgu:=aUT hy hWL hly hWl (by rw[htop]; exact ht)
  rw[w1,w0,htop] at hgu
  have r1:=GH (Z:=aE z) a1
  have r0:=GH (Z:=aE z) a0
  have l1:=hI.limU _ (bgY a1)
  have l0:=hI.limU _ (bgY a0)
  generalize hx1:X[j+(m+1)]=x1 at *
  generalize hx0:X[j+m]=x0 at *
  have e1:IntKind.i64.wrap ((j:Int)+((y.length:Nat):Int))=((j+(m+1):Nat):Int):=by rw[hly]; exact fI (by omega)
  have e0:IntKind.i64.wrap (((j+(m+1):Nat):Int)-1)=((j+m:Nat):Int):=by rw[wrap_i64 (by omega) (by omega)]; omega
  have b1:((j+(m+1):Nat):Int)<(lx:Nat):=by omega
  have b0:((j+m:Nat):Int)<(lx:Nat):=by omega
  have ex1:IntKind.u64.wrap ((x1:Nat):Int)=((x1:Nat):Int):=aZ (by omega)
  have ex0:IntKind.u64.wrap ((x0:Nat):Int)=((x0:Nat):Int):=aZ (by omega)
  have esh:shift .shl .u64 (x1:Int) 32=some (.int .u64 ((2 ^ 32*x1:Nat):Int)):=EW (s:=32) (by omega) (by omega)
  have e32:(2:Nat) ^ 32=4294967296:=by decide
  have eor:=orI (a:=2 ^ 32*x1) (b:=x0) (n:=2 ^ 32*x1+x0) (by omega) (by omega) (Nat.two_pow_add_eq_or_of_lt (by omega) x1).symm (by omega)
  rw[e32] at esh eor
  have hdd:¬ ((top:Nat):Int)=0:=by omega
  have hq64:(4294967296*x1+x0)/top<18446744073709551616:=Nat.lt_of_le_of_lt (bjS _ _) (by omega)
  have equo:IntKind.u64.wrap (Int.tdiv ((4294967296*x1+x0:Nat):Int) ((top:Nat):Int))=(((4294967296*x1+x0)/top:Nat):Int):=by
   rw[show Int.tdiv ((4294967296*x1+x0:Nat):Int) ((top:Nat):Int)=(((4294967296*x1+x0)/top:Nat):Int) from rfl]
   exact aZ hq64
  have hqB:val ((X.drop j).take (m+2))/val y<4294967296:=(bjL hV0).2 (by rw[bhR]; exact hlt)
  have hcut:=akP (X:=X) (Z:=aE z) (j:=j) (m:=m+2) (by omega)
  have hoff:j+(m+2)≤(cZ X (aE z)).length:=by rw[cZ,bgW,bP]; omega
  have hrest:val ((X.drop j).take (m+2))-val y*(val ((X.drop j).take (m+2))/val y)=val ((X.drop j).take (m+2))%val y:=by
   have:=bjV (val ((X.drop j).take (m+2))) (val y)
   omega
  have hmulle:val y*(val ((X.drop j).take (m+2))/val y)≤val ((X.drop j).take (m+2)):=Nat.mul_div_le _ _
  clear w1 w0
  have gu:=fun g0=>a5S (C:=C) L n o lx y top oq lq j X (aE z) hne hy hI.limU hXl hmax (by omega) hV0 (.rows 1 (aE Q)) g0
  rw[hly,show m+1+1=m+2 from rfl] at gu
  generalize hW:(X.drop j).take (m+2)=W at *
  generalize hqq:val W/val y=qq at *
  have hWn:aE W≠[]:=fun h=>by
   have:=congrArg List.length h
   rw[bP,hWl] at this
   simp at this
  have tail:∀ (g0:Nat) (F:PF) (H:PH),qq≤g0→g0<4294967296→((duF n o lx y top oq lq j).set 17 (.int .u64 g0)).le F→((PH.nil.set o (.rows 1 (cZ X (aE z)))).set oq (.rows 1 (aE Q))).le H →
    aD.wp C (.seq (.block 4 (.loop sD)) (.seq (.region AE) (.seq (.seq (.region AF) (.block 6 (.loop sE))) (.region AH)))) (dY 3 (iZ C (aD.wp C (.region AI)) (eZ (fun (t:Nat × List Nat × List Nat)=>duF n o lx y top oq lq ((t.1:Int)-1)) (fun t=>(PH.nil.set o (.rows 1 (cZ t.2.1 (aE z)))).set oq (.rows 1 (aE t.2.2))) (fun t=>t.1≤lq∧mF U0 (val y) (m+1) lx lq t.1 t.2.1 t.2.2) (fun t=>t.1) (j+1) (dY 2 K)))) F H:=by
   intro g0 F H hg hgB hF hH
   have gu:=gu g0 hg hgB
   simp -implicitDefEqProofs only[go_sem] at gu
   simp -implicitDefEqProofs only[go_sem]
   refine gu _ F H hF hH ?_
   intro F1 H1 hF1 hH1
   have f11:F1 11=some (.osl o 1 0 lx):=hF1 11 _ (by unfold duF; simp -implicitDefEqProofs only[go_sem,γ])
   have f12:F1 12=some (aF y):=hF1 12 _ (by unfold duF; simp -implicitDefEqProofs only[go_sem,γ])
   have f15:F1 15=some (.int .i64 j):=hF1 15 _ (by unfold duF; simp -implicitDefEqProofs only[go_sem,γ])
   have f17:F1 17=some (.int .u64 (qq:Nat)):=hF1 17 _ (by unfold duF; simp -implicitDefEqProofs only[go_sem,γ])
   have f10:F1 10=some (.int .i64 n):=hF1 10 _ (by unfold duF; simp -implicitDefEqProofs only[go_sem,γ])
   have f13:F1 13=some (.int .u64 top):=hF1 13 _ (by unfold duF; simp -implicitDefEqProofs only[go_sem,γ])
   have f14:F1 14=some (.osl oq 1 0 lq):=hF1 14 _ (by unfold duF; simp -implicitDefEqProofs only[go_sem,γ])
   have ho:H1 o=some (.rows 1 (cZ X (aE z))):=hH1 o _ (by simp -implicitDefEqProofs only[go_sem,hne'])
   have hoq:H1 oq=some (.rows 1 (aE Q)):=hH1 oq _ (by simp -implicitDefEqProofs only[go_sem])
   have b3:(j:Int)≤((j+(m+1)+1:Nat):Int):=by omega
   have b4:((j+(m+1)+1:Nat):Int)≤(lx:Nat):=by omega
   have b5:j+(m+1)+1-j=m+2:=by omega
   have e2:IntKind.i64.wrap (((j+(m+1):Nat):Int)+1)=((j+(m+1)+1:Nat):Int):=aK (by omega)
   simp -implicitDefEqProofs only[go_sem,γ,reduceCtorEq,AE,f11,f15,f12,bgT,e1,e2,b3,b4,b5]
   refine wG (src:=aE W) ?_ ?_ (fun h=>absurd h hWn) fun _ o' ho'=>?_
   ·simp -implicitDefEqProofs only[go_sem,ho,hoff,hcut]
   ·unfold roomFor
    rw[bP,hWl]
    simp only[maxLen]; omega
   rw[bP,hWl]
   have n1:¬ oq=o':=fun h=>by subst h; rw[hoq] at ho'; cases ho'
   have n2:¬ o=o':=fun h=>by subst h; rw[ho] at ho'; cases ho'
   have nq:nl qq≤1:=mL (by rw[Nat.pow_one]; exact hqB)
   have tm:=L.times y (aH qq) hy (bD _) (by omega) (by rw[bH]; omega)
   rw[aX] at tm
   have nW:=eP hWL
   have mn:=L.minus W (aH (val y*qq)) hWL (bD _) (by rw[aX]; exact hmulle) (by rw[bH]; exact bjM (gN hmulle) nW) (by omega)
   rw[aX,hrest] at mn
   have hWt:(aE W).take (m+2)=aE W:=bhI (by rw[bP]; omega)
   simp -implicitDefEqProofs only[go_sem,f17]
   refine aB (L.make qq (by omega)) (by simp -implicitDefEqProofs only[go_sem,γ]) ?_
   simp -implicitDefEqProofs only[go_sem,f12]
   refine aB tm (by simp -implicitDefEqProofs only[go_sem,γ]) ?_
   simp -implicitDefEqProofs only[go_sem]
   refine oE (o:=o') (s:=1) (rs:=aE W) mn (by simp -implicitDefEqProofs only[go_sem]) (by simp -implicitDefEqProofs only[go_sem,γ,show m+2≤W.length by omega,hWt]) ?_
   simp -implicitDefEqProofs only[go_sem,γ,AF]
   have hfx:(cZ X (aE z)).map (fun r=>r.map (PV.cX o' 1 (aE W)))=cZ X (aE z):=by
    have:cZ X (aE z)=aE (X++z):=by simp[cZ,aE]
    rw[this]; exact oY _ _ _ _
   have hfq:(aE Q).map (fun r=>r.map (PV.cX o' 1 (aE W)))=aE Q:=oY _ _ _ _
   have ur:=a8C (C:=C) n o lx y top oq lq j X (aE z) hne hXl hmax (by omega) (.rows 1 (aE Q)) qq (val W%val y)
   rw[hly,show m+1+1=m+2 from rfl] at ur
   simp -implicitDefEqProofs only[go_sem] at ur
   refine ur _ _ _ ?_ ?_ ?_
   ·unfold duF
    (repeat' (first|exact PF.nil_le|refine PF.aA ?_ ?_))<;>first|(simp -implicitDefEqProofs only[go_sem,γ,f10,f11,f12,f13,f14,f15,f17,n1,n2]<;>rfl)|rfl
   ·refine PH.aA (PH.aA PH.nil_le ?_) ?_
    ·simp -implicitDefEqProofs only[go_sem,hne',n2,ho,bV.frz,hfx]
    ·simp -implicitDefEqProofs only[go_sem,n1,hoq,bV.frz,hfq]
   intro F3 H3 hF3 hH3
   have k10:F3 10=some (.int .i64 n):=hF3 10 _ (by unfold duF; simp -implicitDefEqProofs only[go_sem,γ])
   have k11:F3 11=some (.osl o 1 0 lx):=hF3 11 _ (by unfold duF; simp -implicitDefEqProofs only[go_sem,γ])
   have k12:F3 12=some (aF y):=hF3 12 _ (by unfold duF; simp -implicitDefEqProofs only[go_sem,γ])
   have k13:F3 13=some (.int .u64 top):=hF3 13 _ (by unfold duF; simp -implicitDefEqProofs only[go_sem,γ])
   have k14:F3 14=some (.osl oq 1 0 lq):=hF3 14 _ (by unfold duF; simp -implicitDefEqProofs only[go_sem,γ])
   have k15:F3 15=some (.int .i64 j):=hF3 15 _ (by unfold duF; simp -implicitDefEqProofs only[go_sem,γ])
   have k17:F3 17=some (.int .u64 qq):=hF3 17 _ (by unfold duF; simp -implicitDefEqProofs only[go_sem,γ])
   have ho3:H3 o=some (.rows 1 (cZ (X.take j++cW (m+2) (val W%val y)++X.drop (j+(m+2))) (aE z))):=hH3 o _ (by simp -implicitDefEqProofs only[go_sem,hne'])
   have hq3:H3 oq=some (.rows 1 (aE Q)):=hH3 oq _ (by simp -implicitDefEqProofs only[go_sem])
   have hjq:j<Q.length:=by omega
   have rq:=bJ Q hjq
   have hjl:(j:Int)<(lq:Nat):=by omega
   have sq:=eQ Q j qq
   have ec:IntKind.u32.wrap ((qq:Nat):Int)=((qq:Nat):Int):=by rw[bX,bhX hqB]
   have ej:IntKind.i64.wrap ((j:Int)-1)=(j:Int)-1:=wrap_i64 (by omega) (by omega)
   simp -implicitDefEqProofs only[go_sem,γ,AH,k14,k15,k17,hjl,hq3,rq,ec,sq,AI,ej]
   refine aI (α:=Nat × List Nat × List Nat) (j,_,_) ⟨by simp only; omega,hI'⟩ (by simp only; omega) ?_ ?_
   ·unfold duF
    (repeat' (first|exact PF.nil_le|refine PF.aA ?_ ?_))<;>first|(simp -implicitDefEqProofs only[go_sem,γ,k10,k11,k12,k13,k14]<;>rfl)|rfl
   ·refine PH.aA (PH.aA PH.nil_le ?_) ?_
    ·simp -implicitDefEqProofs only[go_sem,hne',ho3]
    ·simp -implicitDefEqProofs only[go_sem]
  simp only[aD.wp,go_sem] at tail
  simp -implicitDefEqProofs only[go_sem,hz,hge]
  refine cA .nil dU PH.nil_le ?_
  simp -implicitDefEqProofs only[go_sem,γ,reduceCtorEq,QM,e1,e0,b1,b0,hne',r1,r0,ex1,ex0,esh,eor,QN,hdd,equo,QO]
  by_cases c:(4294967296*x1+x0)/top>4294967295
  ·have c':(((4294967296*x1+x0)/top:Nat):Int)>4294967295:=by omega
   simp -implicitDefEqProofs only[go_sem,c',QP]
   exact tail 4294967295 _ _ (by omega) (by decide) (by unfold duF; (repeat' (first|exact PF.nil_le|refine PF.aA ?_ ?_))<;>first|(simp -implicitDefEqProofs only[go_sem,γ]<;>rfl)|rfl) PH.le_refl
  ·have c':¬ (((4294967296*x1+x0)/top:Nat):Int)>4294967295:=by omega
   simp -implicitDefEqProofs only[go_sem,c']
   exact tail _ _ _ hgu (by omega) (by unfold duF; (repeat' (first|exact PF.nil_le|refine PF.aA ?_ ?_))<;>first|(simp -implicitDefEqProofs only[go_sem,γ]<;>rfl)|rfl) PH.le_refl
 ·have:k=0:=by omega
  subst this
  have hz:¬ ((0:Nat):Int)-1≥0:=by decide
  simp -implicitDefEqProofs only[go_sem,hz]
  refine hK X Q _ _ hI ?_ PH.le_refl
  unfold duF
  (repeat' (first|exact PF.nil_le|refine PF.aA ?_ ?_))<;>first|(simp -implicitDefEqProofs only[go_sem,ο,γ,show ((0:Nat):Int)-1=-1 from rfl]<;>rfl)|rfl
end Go.PM
namespace Go.PM
open Go Go.Na
def aXO (a:List Nat) (d q k r:Nat):PF:=(((((PF.nil.set 0 (aF a)).set 1 (aF [d])).set 6 (.osl q 1 0 a.length)).set 7 (.int .u64 r)).set 8 (.int .i64 ((k:Int)-1)))
theorem aMM {C:Ctx} (L:GX C) (a:List Nat) (d:Nat) (ha:Lim a) (hd0:0<d) (hd:d<4294967296) (h1:a.length≤1000) (F:PF) (f0:F 0=some (aF a)) (f1:F 1=some (aF [d])) :
  aD.wp C (.seq (.region FL) (.seq (.region FM) (.seq (.seq (.region FN) (.block 0 (.loop zY))) (.seq (.region zZ) .ret)))) (aY [.tmp 4,.tmp 5] (bY (nN (val a) d))) F .nil:=by
 have hm1:((a.length:Nat):Int)*((4:Nat):Int)≤140737488355328:=by omega
 have hm2:((a.length:Nat):Int)≤9223372036854775807:=by omega
 have hz:bgV a.length [PV.int .u32 0]=aE (bgV a.length 0++[]):=by
  simp[aE]
 simp -implicitDefEqProofs only[go_sem,γ,FL,f0,bgT,hm1,hm2,hz]
 refine aQ fun o ho=>?_
 simp -implicitDefEqProofs only[go_sem,γ,reduceCtorEq,FM,FN,f0,bgT]
 refine wp_loop (α:=Nat × List Nat × Nat) (fun t=>aXO a d o t.1 t.2.2) (fun t=>PH.nil.set o (.rows 1 (aE (bgV t.1 0++t.2.1))))
  (fun t=>t.1+t.2.1.length=a.length∧Lim t.2.1∧t.2.2<d∧val t.2.1*d+t.2.2=val (a.drop t.1)) (fun t=>t.1) (a.length,[],0) ⟨by simp,by simp[Lim],hd0,by simp[val]⟩ ?_ ?_ ?_
 ·unfold aXO
  (repeat' (first|exact PF.nil_le|refine PF.aA ?_ ?_))<;>first|(simp -implicitDefEqProofs only[go_sem,γ,reduceCtorEq,f0,f1,wrap_i64 (show -9223372036854775808≤((a.length:Nat):Int)-1 by omega) (show ((a.length:Nat):Int)-1≤9223372036854775807 by omega)]<;>rfl)|rfl
 ·exact PH.aA PH.nil_le (by simp -implicitDefEqProofs only[go_sem])
 rintro⟨k,S,r⟩ ⟨hk,hLim,hr,hval⟩
 simp only at hk hLim hr hval
 simp -implicitDefEqProofs only[go_sem,γ,reduceCtorEq,zY,aaB,aXO]
 by_cases h0:0<k
 ·obtain⟨m,rfl⟩:∃ m,k=m+1:=⟨k-1,by omega⟩
  have hzz:((m+1:Nat):Int)-1=(m:Int):=by omega
  have hge:(m:Int)≥0:=by omega
  have hml:m<a.length:=by omega
  have hlt:(m:Int)<(a.length:Nat):=by omega
  have hai:=ha _ (bgY hml)
  have hdrop:val (a.drop m)=a[m]+4294967296*val (a.drop (m+1)):=by rw[biQ hml]; rfl
  have hax:=bJ a hml
  generalize hx:a[m]=x at *
  have ex:IntKind.u64.wrap ((x:Nat):Int)=((x:Nat):Int):=aZ (by omega)
  have ed:IntKind.u64.wrap ((d:Nat):Int)=((d:Nat):Int):=aZ (by omega)
  have esh:shift .shl .u64 (r:Int) 32=some (.int .u64 ((2 ^ 32*r:Nat):Int)):=EW (s:=32) (by omega) (by omega)
  have e32:(2:Nat) ^ 32=4294967296:=by decide
  have eor:=orI (a:=2 ^ 32*r) (b:=x) (n:=2 ^ 32*r+x) (by omega) (by omega) (Nat.two_pow_add_eq_or_of_lt (by omega) r).symm (by omega)
  rw[e32] at esh eor
  have hq:(4294967296*r+x)/d<4294967296:=by
   rw[bjL hd0]
   have:4294967296*(r+1)≤4294967296*d:=biX _ hr
   omega
  have hdd:¬ ((d:Nat):Int)=0:=by omega
  have equo:IntKind.u64.wrap (Int.tdiv ((4294967296*r+x:Nat):Int) ((d:Nat):Int))=(((4294967296*r+x)/d:Nat):Int):=by
   rw[show Int.tdiv ((4294967296*r+x:Nat):Int) ((d:Nat):Int)=(((4294967296*r+x)/d:Nat):Int) from rfl]
   exact aZ (by omega)
  have erem:Int.tmod ((4294967296*r+x:Nat):Int) ((d:Nat):Int)=(((4294967296*r+x)%d:Nat):Int):=rfl
  have ec:IntKind.u32.wrap (((4294967296*r+x)/d:Nat):Int)=(((4294967296*r+x)/d:Nat):Int):=by rw[bX,bhX hq]
  have hrep:bgV (m+1) 0++S=bgV m 0++(0::S):=by
   rw[List.replicate_succ',bhY]; rfl
  have hin:(aE (bgV m 0++(0::S)))[m]?=some [.int .u32 ((0:Nat):Int)]:=by
   rw[bJ _ (by simp)]; simp
  have hrow:(aE (bgV m 0++(0::S))).set m [.int .u32 (((4294967296*r+x)/d:Nat):Int)]=aE (bgV m 0++(((4294967296*r+x)/d)::S)):=by
   rw[eQ,bjR _ _ (by simp)]; simp
  simp -implicitDefEqProofs only[go_sem,ν,γ,reduceCtorEq,hzz,hge,aaC,esh,hax,ex,eor,aaD,ed,hdd,equo,ec,hlt,hrep,hin,hrow,QH,erem,QI]
  refine aI (m,((4294967296*r+x)/d)::S,(4294967296*r+x)%d) ⟨by simp only[bjJ]; omega,fun y hy=>?_,biB _ hd0,?_⟩ (by simp only; omega) ?_ (PH.aA PH.nil_le (by simp -implicitDefEqProofs only[go_sem]))
  ·rw[bhF] at hy
   rcases hy with rfl | hy
   ·exact hq
   ·exact hLim y hy
  ·simp only[val]
   rw[hdrop,← hval,bhT,bhD,bhL]
   have:=bjV (4294967296*r+x) d
   rw[bhR d] at this
   omega
  ·(repeat' (first|exact PF.nil_le|refine PF.aA ?_ ?_))<;>first|(simp -implicitDefEqProofs only[go_sem,γ,reduceCtorEq,wrap_i64 (show -9223372036854775808≤(m:Int)-1 by omega) (show (m:Int)-1≤9223372036854775807 by omega)]<;>rfl)|rfl
 ·have:k=0:=by omega
  subst this
  have hzz:¬ ((0:Nat):Int)-1≥0:=by decide
  rw[bhV] at hval
  have hS:S.length=a.length:=by omega
  have hq:val S=val a/d:=by
   rw[← hval,bhR,Nat.mul_add_div hd0,bjW hr,biP]
  have hrm:r=val a%d:=by rw[← hval,bhR,Nat.mul_add_mod,bhX hr]
  have hn0:bgV 0 0++S=S:=by simp
  have hl:=L.trim S hLim (by omega)
  have hSt:(aE S).take a.length=aE S:=bhI (by rw[bP]; omega)
  simp -implicitDefEqProofs only[go_sem,υ,γ,reduceCtorEq,hzz,zZ,List.nil_append]
  refine oE (o:=o) (s:=1) (rs:=aE S) hl (by simp -implicitDefEqProofs only[go_sem]) (by simp -implicitDefEqProofs only[go_sem,γ,reduceCtorEq,hSt,show a.length≤S.length by omega]) ?_
  simp -implicitDefEqProofs only[go_sem,γ,reduceCtorEq]
  refine aB (L.make r (by omega)) (by simp -implicitDefEqProofs only[go_sem,γ,reduceCtorEq]) ?_
  simp -implicitDefEqProofs only[go_sem,γ,reduceCtorEq]
  refine aW (vs:=[aF (aH (val S)),aF (aH r)]) (.inr rfl) .nil (by simp -implicitDefEqProofs only[go_sem,γ,reduceCtorEq]<;>rfl) PH.nil_le ⟨?_,rfl⟩
  rw[hq,hrm]
  exact .refl _
end Go.PM
namespace Go.PM
open Go Go.Na
theorem aZB {B m:Nat} (h:nl B=m+1):32*m<cB B∧cB B≤32*(m+1):=by
 refine⟨?_,(uL B (m+1)).2 (by omega)⟩
 rcases bhK (32*m) (cB B) with h1 | h1
 ·exact h1
 ·have:=(uL B m).1 h1
  omega
theorem aZC {B:Nat} (h:B≠0):2 ^ (cB B-1)≤B:=by
 rcases bhK B (2 ^ (cB B-1)) with h1 | h1
 ·have h2:=(jU B _).2 h1
  have h3:cB B≠0:=fun e=>h (gU.1 e)
  omega
 ·exact h1
theorem aMN {C:Ctx} (L:GX C) (A B:Nat) (hB:B≠0) (hA:nl A≤512) (hBl:nl B≤512) :
  wD.wp C (aY BQ.res (bY (nN A B))) (PF.args [aF (aH A),aF (aH B)]) .nil:=by
 have LA:=bD A
 have LB:=bD B
 have vA:=aX A
 have vB:=aX B
 have lA:(aH A).length=nl A:=rfl
 have lB:(aH B).length=nl B:=rfl
 simp -implicitDefEqProofs only[go_sem,γ,reduceCtorEq,wD,ZX,ZY,BQ]
 refine aB (L.cmp _ _ LA LB (by omega) (by omega)) rfl ?_
 rw[vA,vB]
 by_cases c1:A<B
 ·have hc:dE A B<0:=by simp[dE,c1]
  simp -implicitDefEqProofs only[go_sem,γ,reduceCtorEq,hc,ZZ]
  refine aB (L.trim _ LA (by omega)) rfl ?_
  rw[vA]
  simp -implicitDefEqProofs only[go_sem,γ]
  refine aW (vs:=[.nils,aF (aH A)]) (.inr rfl) .nil rfl PH.nil_le ⟨?_,rfl⟩
  rw[nN,bjW c1,bhX c1,eY]
  exact CoL.tup (CoL.cons (.nil 1) (CoL.cons (.refl _) .nil))
 have hc:¬ dE A B<0:=by
  unfold dE
  rw[if_neg c1]
  split<;>decide
 have hB0:0<B:=bjF hB
 have hnB:nl B≠0:=fun h=>hB (iV.1 h)
 simp -implicitDefEqProofs only[go_sem,γ,hc,aaA,bgT,lB]
 by_cases c2:nl B=1
 ·have hBB:B<4294967296:=by have:=(gQ B 1).1 (by omega); simpa using this
  have hlb:aH B=[B]:=lM hB hBB
  have sh:=aMM (C:=C) L (aH A) B LA hB0 hBB (by omega)
  rw[vA] at sh
  simp only[aD.wp,go_sem] at sh
  simp -implicitDefEqProofs only[go_sem,bS (show ((nl B:Nat):Int)=1 by omega)]
  exact sh _ rfl (by simp -implicitDefEqProofs only[go_sem,γ,hlb])
 obtain⟨m,hm⟩:∃ m,nl B=m+1:=⟨nl B-1,by omega⟩
 have hm1:1≤m:=by omega
 obtain⟨hb1,hb2⟩:=aZB hm
 obtain⟨n,hn⟩:∃ n,n+cB B=32*(m+1):=⟨32*(m+1)-cB B,by omega⟩
 have hn32:n<32:=by omega
 have hp2:0<2 ^ n:=bjG (by decide)
 have hBlt:B<2 ^ cB B:=(jU B _).1 (bgX _)
 have hBge:=aZC hB
 have hVhi:B*2 ^ n<4294967296 ^ (m+1):=by
  have:B*2 ^ n<2 ^ cB B*2 ^ n:=Nat.mul_lt_mul_of_pos_right hBlt hp2
  rw[← Nat.pow_add,show cB B+n=32*(m+1) by omega,Nat.pow_mul] at this
  exact this
 have hVlo:4294967296 ^ m*2147483648≤B*2 ^ n:=by
  have:2 ^ (cB B-1)*2 ^ n≤B*2 ^ n:=bhU _ hBge
  rw[← Nat.pow_add,show cB B-1+n=32*m+31 by omega,Nat.pow_add,Nat.pow_mul] at this
  exact this
 have nV:nl (B*2 ^ n)=m+1:=by
  have h1:=(gQ (B*2 ^ n) (m+1)).2 hVhi
  rcases bhK (nl (B*2 ^ n)) (m+1) with h | h
  ·have:=(gQ (B*2 ^ n) m).1 (by omega)
   have hpp:0<4294967296 ^ m:=bjG (by decide)
   omega
  ·omega
 have hV0:B*2 ^ n≠0:=Nat.mul_ne_zero hB (by omega)
 have nU1:nl (A*2 ^ n)≤nl A+1:=sT (bgX _) (mL (by rw[Nat.pow_one]; exact Nat.pow_lt_pow_right (a:=2) (m:=n) (n:=32) (by decide) hn32))
 have hUV:B*2 ^ n≤A*2 ^ n:=bhU _ (by omega)
 have nUV:m+1≤nl (A*2 ^ n):=by rw[← nV]; exact gN hUV
 have hU0:A*2 ^ n≠0:=by omega
 have e32:IntKind.i64.wrap (32*((nl B:Nat):Int))=((32*(m+1):Nat):Int):=by rw[wrap_i64 (by omega) (by omega)]; omega
 have en:IntKind.i64.wrap (((32*(m+1):Nat):Int)-((cB B:Nat):Int))=(n:Int):=by rw[wrap_i64 (by omega) (by omega)]; omega
 have bt:=L.bits (aH B) LB (by omega)
 rw[vB] at bt
 have ua:=L.upM (aH A) n LA (by omega) (by omega) (fun h=>by have:=eG LA; rw[h] at this; omega)
 have ub:=(L.upM (aH B) n LB (by omega) (by omega) (fun h=>by have:=eG LB; rw[h] at this; omega)).freeze
 rw[vA] at ua
 rw[vB] at ub
 have tail:∀ (o:Nat) (F:PF) (H:PH),F 0=some (aF (aH A))→F 1=some (aF (aH B))→F 10=some (.int .i64 n)→F 11=some (.osl o 1 0 (nl (A*2 ^ n)+2))→F 12=some (aF (aH (B*2 ^ n)))→H o=some (.rows 1 (aE (aH (A*2 ^ n))++[[.int .u32 0],[.int .u32 0]])) →
   aD.wp C (.seq (.region AA) (.seq (.region AB) (.seq (.region AC) (.seq (.seq (.region AD) (.block 2 (.loop sF))) (.seq (.region AJ) .ret))))) (aY [.tmp 4,.tmp 5] (bY (nN A B))) F H:=by
  intro o F H f0 f1 f10 f11 f12 hH
  have LU:=bD (A*2 ^ n)
  have LV:=bD (B*2 ^ n)
  have vU:=aX (A*2 ^ n)
  have vV:=aX (B*2 ^ n)
  have lU:(aH (A*2 ^ n)).length=nl (A*2 ^ n):=rfl
  have lV:(aH (B*2 ^ n)).length=m+1:=nV
  have eu:IntKind.i64.wrap (((nl (A*2 ^ n):Nat):Int)+1)=((nl (A*2 ^ n)+1:Nat):Int):=aK (by omega)
  have b1:((nl (A*2 ^ n)+1:Nat):Int)≤((nl (A*2 ^ n)+2:Nat):Int):=by omega
  simp -implicitDefEqProofs only[go_sem,γ,reduceCtorEq,AA,f11,f0,f10]
  refine aB ua.freeze rfl ?_
  obtain⟨lq,hlq⟩:∃ lq,nl (A*2 ^ n)+1-(m+1)=lq:=⟨_,rfl⟩
  have hlx:nl (A*2 ^ n)+1=lq+(m+1):=by omega
  have em:IntKind.i64.wrap (((m+1:Nat):Int)-1)=((m:Nat):Int):=by rw[wrap_i64 (by omega) (by omega)]; omega
  have hmV:m<(aH (B*2 ^ n)).length:=by omega
  have rm:=bJ (aH (B*2 ^ n)) hmV
  have tl:=LV _ (bgY hmV)
  have htop:0<(aH (B*2 ^ n))[m]:=by
   have h1:=bT (aH (B*2 ^ n)) hmV
   rw[bhI (by omega),vV] at h1
   have h2:=eG (LV.take m)
   rw[bhJ,biT (by omega)] at h2
   have hpp:0<4294967296 ^ m:=bjG (by decide)
   rcases bjA (aH (B*2 ^ n))[m] with h | h
   ·rw[h] at h1; omega
   ·exact h
  have htop31:2147483648≤(aH (B*2 ^ n))[m]:=by
   have h1:=bT (aH (B*2 ^ n)) hmV
   rw[bhI (by omega),vV] at h1
   have h2:=eG (LV.take m)
   rw[bhJ,biT (by omega)] at h2
   rcases bhK (aH (B*2 ^ n))[m] 2147483648 with h | h
   ·exfalso
    have h3:4294967296 ^ m*((aH (B*2 ^ n))[m]+1)≤4294967296 ^ m*2147483648:=biX _ h
    rw[bhD,Nat.mul_one] at h3
    omega
   ·exact h
  have key0:=aSK (C:=C) L (A*2 ^ n) n o (nl (A*2 ^ n)+1) lq
  have hI:mF (A*2 ^ n) (val (aH (B*2 ^ n))) (m+1) (nl (A*2 ^ n)+1) lq lq (aH (A*2 ^ n)++[0]) (bgV lq 0):=by
   refine⟨by rw[bgW,lU]; rfl,List.length_replicate,LU.app fun x hx=>by simp at hx; omega,sQ _,?_,?_,fun i x _ hx=>azW hx⟩
   ·rw[fA,vU,pI]; simp[val]
   ·have hlen:(aH (A*2 ^ n)++[0]).length=nl (A*2 ^ n)+1:=by rw[bgW,lU]; rfl
    have hv0:val (aH (A*2 ^ n)++[0])=A*2 ^ n:=by rw[fA,vU]; simp[val]
    rw[rM (LU.app fun x hx=>by simp at hx; omega) (by omega),hv0,vV,bjL (bjG (by decide))]
    have h1:A*2 ^ n<4294967296 ^ nl (A*2 ^ n):=(gQ _ _).1 (bgX _)
    have hx:nl (A*2 ^ n)=m+lq:=by omega
    rw[hx,Nat.pow_add] at h1
    have h2:4294967296 ^ m*4294967296 ^ lq≤(B*2 ^ n)*4294967296 ^ lq:=bhU _ (by omega)
    omega
  have hrows:aE (aH (A*2 ^ n))++[[PV.int .u32 0],[PV.int .u32 0]]=cZ (aH (A*2 ^ n)++[0]) (aE [0]):=by
   simp[cZ,aE]
  rw[hrows] at hH
  generalize htp:(aH (B*2 ^ n))[m]=top at *
  have et:IntKind.u64.wrap ((top:Nat):Int)=((top:Nat):Int):=aZ (by omega)
  have k2:IntKind.i64.wrap (((nl (A*2 ^ n)+1:Nat):Int)-((m+1:Nat):Int))=((lq:Nat):Int):=by rw[wrap_i64 (by omega) (by omega)]; omega
  have k3:((lq:Nat):Int)*((4:Nat):Int)≤140737488355328:=by omega
  have k4:((lq:Nat):Int)≤9223372036854775807:=by omega
  have hz:bgV lq [PV.int .u32 0]=aE (bgV lq 0):=by simp[aE]
  have jq:IntKind.i64.wrap ((lq:Int)-1)=(lq:Int)-1:=wrap_i64 (by omega) (by omega)
  simp -implicitDefEqProofs only[go_sem,ν,γ,reduceCtorEq,bgT,lU,eu,b1,AB,f12,lV,em,rm,et,AC,k2,k3,k4,hz]
  refine aQ fun oq hoq=>?_
  have hne:oq≠o:=by rintro rfl; rw[hH] at hoq; cases hoq
  have hne':¬ o=oq:=fun h=>hne h.symm
  have key:=key0 oq m (aH (B*2 ^ n)) [0] hne LV lV (by rw[htp]; exact htop) hlx (by omega) _ hI
  rw[htp] at key
  simp -implicitDefEqProofs only[go_sem,ο] at key
  simp -implicitDefEqProofs only[go_sem,γ,AD,jq]
  refine key _ _ _ ?_ ?_ ?_
  ·unfold duF
   repeat' first|exact PF.nil_le|refine PF.aA ?_ ?_|rfl|assumption
  ·refine PH.aA (PH.aA PH.nil_le ?_) ?_
   ·simp -implicitDefEqProofs only[go_sem,hne',hH]
   ·simp -implicitDefEqProofs only[go_sem]
  clear key key0
  intro X Q F1 H1 hI1 hF1 hH1
  have g10:F1 10=some (.int .i64 n):=hF1 10 _ (by unfold duF; simp -implicitDefEqProofs only[go_sem,ο,γ])
  have g11:F1 11=some (.osl o 1 0 (nl (A*2 ^ n)+1)):=hF1 11 _ (by unfold duF; simp -implicitDefEqProofs only[go_sem,ο,γ])
  have g14:F1 14=some (.osl oq 1 0 lq):=hF1 14 _ (by unfold duF; simp -implicitDefEqProofs only[go_sem,ο,γ])
  have ho1:H1 o=some (.rows 1 (cZ X (aE [0]))):=hH1 o _ (by simp -implicitDefEqProofs only[go_sem,hne'])
  have hq1:H1 oq=some (.rows 1 (aE Q)):=hH1 oq _ (by simp -implicitDefEqProofs only[go_sem])
  have hu:val X<val (aH (B*2 ^ n)):=by have:=hI1.r; rwa [bhV] at this
  have hv':=hI1.v
  rw[vV] at hu hv'
  have hQv:val Q=A/B:=by
   have:A*2 ^ n/(B*2 ^ n)=val Q:=by
    rw[← hv',Nat.add_mul_div_right _ _ (by omega),bjW hu,bhS]
   rw[← this,Nat.mul_div_mul_right _ _ hp2]
  have hUv:val X/2 ^ n=A%B:=by
   have:A*2 ^ n%(B*2 ^ n)=val X:=by rw[← hv',Nat.add_mul_mod_self_right,bhX hu]
   rw[← this,Nat.mul_mod_mul_right,Nat.mul_div_cancel _ hp2]
  have lX:=hI1.lu'
  have lQ:=hI1.lq'
  have hQt:(aE Q).take lq=aE Q:=bhI (by rw[bP]; omega)
  have hXt:(cZ X (aE [0])).take (nl (A*2 ^ n)+1)=aE X:=by
   rw[cZ,List.take_append_of_le_length (by rw[bP]; omega),bhI (by rw[bP]; omega)]
  have hXl:nl (A*2 ^ n)+1≤(cZ X (aE [0])).length:=by rw[cZ,bgW,bP]; omega
  have hfx:(cZ X (aE [0])).map (fun r=>r.map (PV.cX oq 1 (aE Q)))=cZ X (aE [0]):=by
   have:cZ X (aE [0])=aE (X++[0]):=by simp[cZ,aE]
   rw[this]; exact oY _ _ _ _
  have nX:=eP hI1.limU
  have t1:=L.trim Q hI1.limQ (by omega)
  have t2:=L.trim X hI1.limU (by omega)
  have dn:=L.down (aH (val X)) n (bD _) (by rw[bH]; omega) (by omega)
  rw[aX,hUv] at dn
  rw[hQv] at t1
  generalize aE [0]=Z0 at ho1 hXt hXl hfx
  simp -implicitDefEqProofs only[go_sem,AJ,g14]
  refine oE (o:=oq) (s:=1) (rs:=aE Q) t1 hq1 (by simp -implicitDefEqProofs only[go_sem,hQt,show lq≤Q.length by omega]) ?_
  simp -implicitDefEqProofs only[go_sem,γ,g11,hne']
  refine oE (o:=o) (s:=1) (rs:=cZ X Z0) t2 (by simp -implicitDefEqProofs only[go_sem,hne',ho1,bV.frz,hfx]) (by simp -implicitDefEqProofs only[go_sem,γ,hXt,hXl]) ?_
  simp -implicitDefEqProofs only[go_sem,γ,g10]
  refine aB dn rfl ?_
  simp -implicitDefEqProofs only[go_sem,γ]
  exact aW (vs:=[aF (aH (A/B)),aF (aH (A%B))]) (.inr rfl) .nil rfl PH.nil_le ⟨.refl _,rfl⟩
 simp only[aD.wp,go_sem] at tail
 simp -implicitDefEqProofs only[go_sem,γ,bF (show ¬ ((nl B:Nat):Int)=1 by omega),QJ,bgT,lB]
 refine aB bt rfl ?_
 simp -implicitDefEqProofs only[go_sem,γ,reduceCtorEq,e32,en,QK]
 refine lH ua rfl PH.nil_le fun r H1 hr _=>?_
 have hb2:(2:Nat)*1≤16777216:=by decide
 rcases hr with ⟨h0,_⟩ | ⟨o,rs,rfl,rfl,hrl,hrt⟩
 ·exfalso
  have:=congrArg List.length h0
  rw[bP,bH] at this
  simp at this
  omega
 rw[PH.kU]
 rw[bP,bH] at hrl hrt
 simp -implicitDefEqProofs only[go_sem,υ,δ,γ,η,ζ,hb2,bP,bH]
 refine azT (src:=[[.int .u32 0],[.int .u32 0]]) (rs:=rs) rfl ?_ (by simp -implicitDefEqProofs only[go_sem]) hrl ?_ fun o' ho'=>?_
 ·unfold roomFor
  simp only[maxLen,bjJ,bjB]; omega
 ·rw[hrt]
  simp -implicitDefEqProofs only[go_sem,δ]
  refine aB ub rfl ?_
  simp -implicitDefEqProofs only[go_sem,γ]
  exact tail o _ _ rfl rfl rfl rfl rfl (by simp -implicitDefEqProofs only[go_sem])
 ·rw[hrt]
  simp -implicitDefEqProofs only[go_sem,δ]
  refine aB ub rfl ?_
  simp -implicitDefEqProofs only[go_sem,γ]
  exact tail o' _ _ rfl rfl rfl rfl rfl (by simp -implicitDefEqProofs only[go_sem])
end Go.PM
namespace Go.PM
open Go Go.Na
def aR (C:Ctx) (k:Nat) (pf:bG):Prop:=∀ (args:List PV) (H:PH) (R:PV→PH→Prop),args.length≤pf.ntmps→pf.body.wp C (aY pf.res R) (PF.args args) H→aJ C k args H R
theorem aR.go {C:Ctx} {k:Nat} {pf:bG} (r:aR C k pf) {args:List PV} {H:PH} {R:PV→PH→Prop} (h:pf.body.wp C (aY pf.res R) (PF.args args) H) (hl:Nat.ble args.length pf.ntmps=true):aJ C k args H R:=r args H R (Nat.le_of_ble_eq_true hl) h
structure dP (C:Ctx):Prop where
 r0:aR C 0 IQ
 r1:aR C 1 XM
 r2:aR C 2 asF
 r4:aR C 4 ND
 r5:aR C 5 asR
 r7:aR C 7 NB
 r20:aR C 20 IJ
 r23:aR C 23 IM
 r27:aR C 27 IN
 r28:aR C 28 asO
 r29:aR C 29 XV
 r30:aR C 30 aXL
 r31:aR C 31 ZW
 r32:aR C 32 ayG
 r33:aR C 33 udiv
 r34:aR C 34 ayV
 r35:aR C 35 aaF
 r36:aR C 36 aXU
 r37:aR C 37 aYC
 r38:aR C 38 aaO
 r39:aR C 39 BQ
 r40:aR C 40 aaE
 r41:aR C 41 LQ
 r42:aR C 42 LS
 r43:aR C 43 aaJ
 r44:aR C 44 MD
 r45:aR C 45 uup
 r47:aR C 47 azK
 r50:aR C 50 NL
 r58:aR C 58 BS
 r59:aR C 59 aaW
 r95:aR C 95 apA
 r96:aR C 96 apZ
 r97:aR C 97 HV
 r98:aR C 98 VP
 r99:aR C 99 VQ
 r100:aR C 100 VR
 r101:aR C 101 gone
 r102:aR C 102 VS
 r103:aR C 103 HW
 r104:aR C 104 gin
 r105:aR C 105 apC
 r106:aR C 106 apD
 r107:aR C 107 VV
 r108:aR C 108 VW
 r109:aR C 109 IE
 r110:aR C 110 VX
 r111:aR C 111 abL
 r112:aR C 112 apG
 r113:aR C 113 HK
 r114:aR C 114 anD
 r115:aR C 115 MP
 r116:aR C 116 uN
 r117:aR C 117 RJ
 r118:aR C 118 HU
 r119:aR C 119 anA
 r120:aR C 120 mY
 r121:aR C 121 HT
 r122:aR C 122 VO
 r123:aR C 123 MY
 r124:aR C 124 BB
 r125:aR C 125 BC
 r126:aR C 126 uS
 r127:aR C 127 atE
 r128:aR C 128 XZ
 r129:aR C 129 atV
 r130:aR C 130 auB
 r131:aR C 131 auF
 r132:aR C 132 YK
 r133:aR C 133 auJ
 r134:aR C 134 auS
 r135:aR C 135 YN
 r136:aR C 136 BE
 r137:aR C 137 JD
 r138:aR C 138 rG
 r139:aR C 139 vP
 r140:aR C 140 JH
 r141:aR C 141 JI
 r142:aR C 142 sU
 r143:aR C 143 nup
 r147:aR C 147 tat
 r148:aR C 148 KM
 r149:aR C 149 BP
 r150:aR C 150 KQ
 r151:aR C 151 KK
 r152:aR C 152 uC
 r153:aR C 153 BN
 r154:aR C 154 ZV
 r155:aR C 155 KL
 r156:aR C 156 ZP
 r157:aR C 157 KR
 r158:aR C 158 alJ
 r159:aR C 159 LC
 r160:aR C 160 wC
 r161:aR C 161 KV
end Go.PM
namespace Go.PM
open Go Go.Na
theorem tW {C:Ctx} (c:dP C):oF C :=
 have len:∀ xs,Lim xs→xs.length≤16777216→aJ C 138 [aF xs] .nil (aL (.int .i64 (nl (val xs):Nat))):=fun xs h l=>c.r138.go (aLL xs h l) rfl
 {length:=len
  large:=fun xs h l=>c.r137.go (aPV xs (len xs h l)) rfl
  sized:=fun xs h l=>(c.r141.go (aQA xs h (len xs h l)) rfl).seen
  trim:=fun xs h l=>(c.r135.go (aWH xs h l (len xs h l)) rfl).seen
  make:=fun v h=>c.r132.go (aWE v h len) rfl
  cmp:=fun xs ys hx hy lx ly=>c.r129.go (a1S xs ys hx hy lx ly (len xs hx lx) (len ys hy ly)) rfl }
theorem a7Z {C:Ctx} (c:dP C):alG C :=
 {subtract:=fun A W Z v f o hW hv hl h1 hf hfit=>c.r142.go (auY A W Z v f hW hv hl h1 hf hfit o) rfl
  restore:=fun A W Z v o hW hv hl h1=>c.r139.go (aAM A W Z v hW hv hl h1 o) rfl }
theorem aWB {C:Ctx} (c:dP C):alV C :=
 {L:=tW c
  D:=a7Z c
  up:=fun a s ha hs h1=>c.r143.go (a5A a s ha hs h1) rfl
  short:=fun a d ha h0 hd h1=>c.r140.go (aPY (tW c) a d ha h0 hd h1) rfl
  lengthO:=fun xs o hx hl=>c.r138.go (aAL xs hx hl o) rfl }
theorem atD {C:Ctx} (c:dP C) (A B:Nat) (hB:B≠0) (hA:nl A≤900) (hBl:nl B≤900):aJ C 136 [aF (aH A),aF (aH B)] .nil (aL (nN A B)) :=
 (c.r136.go (aLG (aWB c) A B hB hA hBl) rfl).seen
theorem vN {C:Ctx} (c:dP C):pP C :=
 {tW c with
  bits:=fun xs h l=>c.r128.go (aWC xs h l ((tW c).length xs h l)) rfl
  add:=fun xs ys hx hy lx ly=>(c.r127.go (a1P (tW c) xs ys hx hy lx ly) rfl).seen
  sub:=fun xs ys hx hy lx ly=>(c.r134.go (a2A (tW c) xs ys hx hy lx ly) rfl).seen
  mul:=fun xs ys hx hy lx ly=>(c.r133.go (a1Y (tW c) xs ys hx hy lx ly) rfl).seen
  gcd:=fun xs ys hx hy lx ly=>(c.r131.go (a1W (tW c) (atD c) xs ys hx hy lx ly) rfl).seen
  div:=fun xs ys hx hy lx ly=>(c.r130.go (a1U (tW c) (atD c) xs ys hx hy lx ly) rfl).seen }
theorem MQ {C:Ctx} (c:dP C):BU C :=
 {vN c with
  times:=fun a b ha hb la lb na nb=>c.r121.go (aNU (vN c) a b ha hb la lb na nb) rfl
  zero:=fun neg a b ha la=>c.r122.go (aUE (vN c) neg a b ha la) rfl
  valid:=fun neg a b ha hb la lb=>c.r118.go (aNW (vN c) neg a b ha hb la lb) rfl
  abs:=fun v h1 h2=>c.r119.go (aZQ (vN c) v h1 h2) rfl
  lowest:=fun neg a b ha hb la lb na nb h0=>(c.r120.go (aJC (vN c) neg a b ha hb la lb na nb h0) rfl).seen }
theorem aNT {C:Ctx} (c:dP C) (x y:RF) (hx:x.Ok) (hy:y.Ok):aJ C 113 [.agg x.cells,.agg y.cells] .nil (aL (frV (iT x.v y.v))) :=
 (c.r113.go (aZS (MQ c) x.neg y.neg x.num x.den y.num y.den hx.1 hx.2.1 hy.1 hy.2.1 hx.2.2.1 hx.2.2.2 hy.2.2.1 hy.2.2.2) rfl).seen
theorem aJF {C:Ctx} (c:dP C):alF C :=
 {MQ c with
  frac:=fun n d hn hd=>(c.r115.go (aUC (MQ c) n d hn.1 hn.2 hd.1 hd.2) rfl).seen
  red:=fun x hx=>by
   rw[← aLV]
   exact (c.r116.go (aJG (MQ c) x.neg x.num x.den hx.1 hx.2.1 hx.2.2.1 hx.2.2.2) rfl).seen
  ord:=fun x y hx hy=>(c.r114.go (aZU (MQ c) x.neg y.neg x.num x.den y.num y.den hx.1 hx.2.1 hy.1 hy.2.1 hx.2.2.1 hx.2.2.2 hy.2.2.1 hy.2.2.2) rfl).seen
  plus:=aNT c
  tot:=fun l hl=>(c.r117.go (a0A (MQ c) (aNT c) l hl.all hl.fits) rfl).seen }
theorem MO {C:Ctx} (c:dP C):pL C :=
 have inn:∀ n lo hi:Int,aJ C 104 [.int .i64 n,.int .i64 lo,.int .i64 hi] .nil (aL (.bool (within n lo hi))):=fun n lo hi=>(c.r104.go (a4P n lo hi) rfl).seen
 have lY:∀ x:RF,x.Ok→aJ C 97 [.agg x.cells] .nil (aL (.bool (bR x))):=fun x hx=>(c.r97.go (aNY (vN c) x hx) rfl).seen
 have lim:∀ x:RF,x.Ok→aJ C 105 [.agg x.cells] .nil (aL (.bool (fF x))):=fun x hx=>(c.r105.go (a0G (aJF c) x hx) rfl).seen
 have letter:∀ n:Nat,aJ C 126 [.int .u8 n] .nil (aL (.bool (gB n))):=fun n=>c.r126.go (aKD n) rfl
 have digit:∀ n:Nat,aJ C 124 [.int .u8 n] .nil (aL (.bool (pV n))):=fun n=>c.r124.go (aOM n) rfl
 {aJF c with
  inn:=inn
  lY:=lY
  lim:=lim
  one:=fun x hx=>(c.r101.go (a0K (aJF c) x hx) rfl).seen
  allf:=fun p fn l hl h=>(c.r99.go (aUI p fn l hl h) rfl).seen
  alli:=fun p fn l hl h=>(c.r100.go (aUK p fn l hl h) rfl).seen
  allb:=fun p fn l hl h=>(c.r98.go (aUG p fn l hl h) rfl).seen
  ends1:=fun b=>(c.r103.go (aOA b) rfl).seen
  num1:=fun n=>(c.r107.go (aUP inn n) rfl).seen
  rate1:=fun x hx=>(c.r109.go (aOD lim lY x hx) rfl).seen
  name:=fun s=>c.r123.go (aVH letter (fun n=>c.r125.go (aOQ letter digit n) rfl) s) rfl }
theorem aNR {C:Ctx} (c:dP C):alR C :=
 {MO c with
  num:=fun p hp=>(c.r106.go (a0I (MO c) p hp) rfl).seen
  rate:=fun p hp=>(c.r108.go (aUR (MO c) p hp) rfl).seen
  uniq:=fun l hl=>(c.r110.go (aUU (MO c) l hl) rfl).seen }
theorem aNS {C:Ctx} (c:dP C):UJ C :=
 {aNR c with
  ends:=fun l hl he=>(c.r102.go (aUN (MO c) l hl he) rfl).seen }
theorem a4N {C:Ctx} (c:dP C):iK C :=
 {aNS c with
  law:=fun l hl=>(c.r95.go (a0E (aNS c) l hl) rfl).seen
  pol:=fun p n hp hn=>(c.r112.go (a0M (aNR c) p hp n hn) rfl).seen
  doms:=fun f hf=>(c.r111.go (a0C (MO c) f hf) rfl).seen }
theorem aZX {C:Ctx} (c:dP C) (f:aG) (hf:f.Ok):aJ C 96 [.agg f.cells] .nil (aL (.int .i64 (GB f))):=(c.r96.go (a0P (a4N c) f hf) rfl).seen
theorem NH {C:Ctx} (c:dP C):MI C :=
 {valid:=fun f hf=>(c.r161.go (aSE (aZX c) f hf) rfl).seen
  lY:=fun f d level hv hd h0 h4=>(c.r155.go (aRL f hv d hd level h0 h4) rfl).seen
  frag:=fun f v hv h=>(c.r156.go (aXC f hv v h) rfl).seen }
theorem ZS {C:Ctx} (c:dP C):UP C :=
 {NH c with
  room:=fun f room hf=>(c.r152.go (awR (NH c) f hf room) rfl).freeze
  loads:=fun f l hd hl=>(c.r157.go (aRV f hd l hl) rfl).seen }
theorem aRY {C:Ctx} (c:dP C):amA C :=
 {ZS c with
  shape:=fun f l v hV hl hv hvf=>(c.r160.go (aSC (ZS c) f hV l hl v hv hvf) rfl).seen }
theorem aRZ {C:Ctx} (c:dP C):AQ C :=
 {aRY c with
  bad:=fun o5 v k w=>c.r159.go (aSG o5 v k w) rfl }
theorem aSA {C:Ctx} (c:dP C):amB C :=
 {aRZ c with
  row:=fun f l v hV hfit hv hvf hr=>(c.r158.go (aXJ (aRZ c) f hV hfit l v hv hvf hr) rfl).seen }
theorem aYW {C:Ctx} (c:dP C):aYO C :=
 {aSA c with
  viol:=fun f l room hf hl=>(c.r154.go (aXH (aSA c) f hf l hl room) rfl).seen }
theorem sC {C:Ctx} (c:dP C):mT C:={ trimM:=fun xs h l=>c.r38.go (aYD xs h l) rfl }
theorem aQT {C:Ctx} (c:dP C):alX C :=
 {sC c with
  make:=fun v h=>(c.r35.go (aXS (sC c) v h) rfl).seen
  large:=fun xs h l=>(c.r41.go (aSL (sC c) xs h l) rfl).seen
  cmp:=fun xs ys hx hy lx ly=>c.r32.go (a2Y (sC c) xs ys hx hy lx ly) rfl }
theorem a5F {C:Ctx} (c:dP C):aNB C :=
 {aQT c with
  minus:=fun a b ha hb hle hl h1=>(c.r42.go (aSN (sC c) a b ha hb hle hl h1) rfl).seen
  times:=fun a b ha hb h1 h2=>(c.r44.go (aSR (sC c) a b ha hb h1 h2) rfl).seen }
theorem a5G {C:Ctx} (c:dP C):aNC C :=
 {a5F c with
  plus:=fun a b ha hb h1 h2=>(c.r43.go (aXZ (sC c) a b ha hb h1 h2) rfl).seen }
theorem a5H {C:Ctx} (c:dP C):GX C :=
 {a5G c with
  bits:=fun xs h l=>c.r31.go (aXM (sC c) xs h l) rfl
  upM:=fun a n ha h1 hn h0=>c.r45.go (a5T (sC c) a n ha h1 hn h0) rfl
  down:=fun a n ha h1 hn=>(c.r40.go (aXQ (sC c) a n ha h1 hn) rfl).seen }
theorem avQ {C:Ctx} (c:dP C):UN C :=
 {aQT c with
  divide:=fun A B hB hA hBl=>(c.r39.go (aMN (a5H c) A B hB hA hBl) rfl).seen }
theorem aQU {C:Ctx} (c:dP C):alY C :=
 {avQ c with
  gcd:=fun a b ha hb la lb=>(c.r34.go (a3C (avQ c) a b ha hb la lb) rfl).seen
  div:=fun a b ha hb la lb=>(c.r33.go (a3A (avQ c) a b ha hb la lb) rfl).seen }
theorem aYV {C:Ctx} (c:dP C):aIC C :=
 {aQU c with
  lowest:=fun neg a b ha hb la lb na nb h0=>(c.r58.go (aMW (aQU c) neg a b ha hb la lb na nb h0) rfl).seen
  size:=fun v hv=>c.r59.go (aYJ v hv.1 hv.2) rfl }
theorem aQV {C:Ctx} (c:dP C):alZ C :=
 {aYV c with
  fmk:=fun n d hn hd=>(c.r50.go (aYH (aYV c) n d hn hd) rfl).seen }
abbrev tC (C:Ctx):Prop:=∀ n:Nat,n<100→aJ C 195 [.int .i64 n] .nil (aL (.str (bO n)))
theorem XN {C:Ctx} (c:dP C) (hi:tC C):pN C :=
 {aQV c with
  int:=fun n hn=>(c.r47.go (a3V (aQV c) n hn) rfl).seen
  itoa:=hi
  next:=fun l v T o n a hn ha=>c.r4.go (aVX T o n a hn ha) rfl }
theorem aPL {C:Ctx} (c:dP C) (hi:tC C):alT C :=
 {XN c hi with
  frac:=fun l v T o a ha=>c.r1.go (aVO (XN c hi) T o a ha) rfl }
theorem aPM {C:Ctx} (c:dP C) (hi:tC C):pO C :=
 {aPL c hi with
  rep:=fun l v T o a m hm ha=>c.r5.go (a1N (aPL c hi) T o a m hm ha) rfl
  name:=fun s n hs hn=>c.r29.go (aVV (XN c hi) s n hs hn) rfl }
theorem aPN {C:Ctx} (c:dP C) (hi:tC C):kN C :=
 {aPM c hi with
  law:=fun l v T o dN a hm hm2 ha=>c.r2.go (a1H (aPM c hi) T o dN a hm hm2 ha) rfl }
end Go.PM
namespace Go.PM
open Go Go.Na
theorem aID {f:aG} (h:VF f) {d:Nat} (hd:d<f.drives.length) {lev:Int} (h0:0≤lev) (h4:lev≤4):fO f d lev<f.domains.length∧lvl f (fO f d lev)=lev:=by
 unfold fO
 obtain⟨a,b⟩:=LZ h hd (k:=4-lev.toNat) (by omega)
 refine⟨a,?_⟩
 rw[b]; omega
theorem pA {f:aG} (h:VF f) {i:Nat} (hi:i<f.domains.length):0≤lvl f i∧lvl f i≤4:=by
 rcases bjA i with e | e
 ·rw[e,h.root.2.1]; omega
 ·have:=h.dom i e hi; omega
end Go.PM
namespace Go.PM
open Go Go.Na
theorem akR {xs:List Int} {k:Nat} {d:Int} (h:k<xs.length):(xs.take (k+1)).contains d=((xs.take k).contains d||(xs[k]==d)):=by
 rw[biZ h,List.contains_append]
 congr 1
 show List.contains [xs[k]] d=_
 rw[List.contains_cons,List.contains_nil,Bool.or_false]
 exact BEq.comm
theorem ints_at {xs:List Int} {k:Nat} (h:k<xs.length):(xs.map fun x=>[PV.int .i64 x])[k]?=some [.int .i64 xs[k]]:=by simp[h]
end Go.PM
namespace Go.PM
open Go Go.Na
end Go.PM
namespace Go.PM
open Go Go.Na
end Go.PM
namespace Go.PM
open Go Go.Na
theorem aPO {C:Ctx} (c:dP C) (hi:tC C):alU C :=
 {aPN c hi with
  grow:=fun l v T mc drives h0 h1 h2=>apP (aPN c hi) T mc drives h0 h1 h2 (fun args H R hl h=>c.r7 args H R (by rw[hl]; decide) h) 4 (bgX _) }
theorem asE {C:Ctx} (c:dP C) (hi:tC C):aNA C :=
 {aPO c hi with
  new:=fun l hb hl=>c.r28.go (a1L l hb hl) rfl
  fleet:=fun l v T o drives volumes a hdr hvo ha=>GW.exact (c.r0.go (aPJ (aPO c hi) T o drives volumes a hdr hvo ha) rfl) }
theorem aqT {C:Ctx} (c:dP C) (hi:tC C):UL C :=
 {at_:=fun f hf d level=>(c.r147.go (a5P (NH c) f hf d level) rfl).seen
  child:=fun f hf d=>(c.r148.go (aRQ (NH c) f hf d) rfl).seen
  drives:=fun f hf d=>(c.r149.go (aMJ (NH c) f hf d) rfl).seen
  holds:=fun f l room hf hl=>(c.r150.go (aRT (aYW c) f hf l hl room) rfl).seen
  loads:=fun f l hf hl=>(c.r151.go (aRJ (ZS c) f hf l hl) rfl).seen
  room:=(ZS c).room
  shaped:=fun f l hf hl=>(c.r153.go (aMH (aRY c) f hf l hl) rfl).seen
  viol:=(aYW c).viol
  fleet:=fun l hb hl drives volumes hdr hvo=>(c.r27.go (aPG (asE c hi) l hb hl drives volumes hdr hvo) rfl).seen }
theorem aVD {C:Ctx} (c:dP C) (hi:tC C):aJ C 20 [] .nil (aL (.bool true)) :=
 c.r20.go (aOK (aqT c hi) (c.r23.go (aPE (aqT c hi)) rfl)) rfl
end Go.PM
