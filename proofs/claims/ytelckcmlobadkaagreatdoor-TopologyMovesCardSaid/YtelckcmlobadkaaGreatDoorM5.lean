/-
  Texts of ours, joined: R2W1 R2W2 R2W3 R2W4 R2W5 R2W6 R2W7 R2W8 Jn1 Jn2 L11P1 L11W2 L11W3 L11W4 Jn3. No condition.
-/
import Derived.Test.YtelckcmlobadkaaGreatDoorM1
import Derived.Test.YtelckcmlobadkaaGreatDoorM2
import Derived.Test.YtelckcmlobadkaaGreatDoorM3
import Derived.Test.YtelckcmlobadkaaGreatDoorM4

set_option linter.unusedSimpArgs false
set_option linter.unusedVariables false
open Nat renaming reduceEqDiff → γ, reduceAdd → δ, reduceSub → ε, reduceMul → ζ, reduceLT → η, reduceLeDiff → θ, reduceBEq → τ
open Int renaming reduceLT → ι, reduceLE → κ, reduceEq → μ, reduceToNat → ν, reduceAdd → ξ, reduceNeg → ο, reduceBEq → ρ, reduceBNe → σ
open List renaming reduceReplicate → υ
open List renaming length_map → bfT, replicate → bfV, length_append → bfW, length_singleton → bfZ, getElem_mem → bgA, mem_cons → bgD, getElem?_eq_getElem → bgF, take_of_length_le → bgH, length_take → bgJ, not_mem_nil → bgL, range → bgN, getD_eq_getElem?_getD → bgT, drop_zero → bgV, append_assoc → bgY, mem_map → bgZ, map_cons → bhA, take_length → bhB, getElem?_eq_none → bhD, all_eq_true → bhE, getElem?_eq_some_iff → bhF, getElem?_map → bhG, mem_append → bhJ, getElem_map → bhL, getElem_of_mem → bhM, append_nil → bhN, length_set → bhO, drop_eq_getElem_cons → bhP, length_drop → bhQ, length_nil → bhR, map_append → bhS, Sublist → bhU, map_nil → bhV, mem_range → bhW, take_append_drop → biC, mem_of_getElem? → biF, take_succ_eq_append_getElem → biG, length_cons → biH, nodup_append → biI, ext_getElem → biO, getElem?_append_left → biP, getElem?_take → biQ, nil_append → biR, getElem?_append_right → biT, set_append_right → biU, drop_of_length_le → bjA
open Nat renaming gcd → bfU, le_refl → bfX, mul_add → bgC, zero_le → bgE, lt_or_ge → bgI, mul_assoc → bgK, mul_comm → bgO, zero_add → bgQ, add_mul → bgS, mul_le_mul_right → bgU, mod_eq_of_lt → bgW, mod_lt → bgX, pow_succ → bhH, min_eq_left → bhT, add_assoc → bhX, add_zero → bhY, mul_le_mul_left → bhZ, eq_zero_or_pos → biB, pos_of_ne_zero → biD, pow_pos → biE, div_lt_iff_lt_mul → biJ, le_trans → biK, div_le_self → biS, div_add_mod → biV, div_eq_of_lt → biW
open Option renaming map_eq_some_iff → bfY, map_some → bhC, some → biA, getD_some → biM, bind_eq_some_iff → biX, bind_some → bjB
open Bool renaming not_true → bgB, false_and → bgG, not_false → bgM, and_eq_true → bgP, true_and → bgR, and_false → bhK, and_true → biN, false_eq_true → biZ
open Array renaming replicate → bhI, length_toList → biL, getElem?_eq_getElem → biY, getElem?_eq_some_iff → bjC
namespace Go.PM
open Go Go.Na
theorem mZ (P:List Nat) (v:Nat):aE P++[[.int .u32 (v:Int)]]=aE (P++[v]):=by simp[aE]
theorem mY {P:List Nat} (h:P.length≤16777216):roomFor (aE P).length 1 4:=by
 unfold roomFor
 rw[bQ]
 simp only[maxLen]; omega
def MQ (a b:List Nat) (v:PV) (c i:Nat):PF:=(((((PF.nil.set 0 (aF a)).set 1 (aF b)).set 5 (v)).set 6 (.int .u64 c)).set 7 (.int .i64 i))
theorem aSA {C:Ctx} (L:mP C) (a b:List Nat) (ha:Lim a) (hb:Lim b) (hle:val b≤val a) (hl:b.length≤a.length) (h1:a.length≤16777216) :
  zJ.wp C (aX KT.res (bY (aF (aG (val a-val b))))) (PF.args [aF a,aF b]) .nil:=by
 simp -implicitDefEqProofs only[go_sem,zJ,aiO,aiP,aiQ,aiR,KT]
 refine wp_loop (α:=List Nat × Nat × PV × PH) (fun s=>MQ a b s.2.2.1 s.2.1 s.1.length) (fun s=>s.2.2.2)
  (fun s=>s.1.length≤a.length∧Lim s.1∧s.2.1≤1∧val (a.take s.1.length)+4294967296 ^ s.1.length*s.2.1=val s.1+val (b.take s.1.length)∧bB s.2.2.2 1 s.2.2.1 (aE s.1)) (fun s=>a.length-s.1.length) ([],0,.nils,.nil) ⟨by simp,by simp[Lim],by simp,by simp[val],.nil⟩ ?_ PH.nil_le ?_
 ·unfold MQ
  (repeat' (first|exact PF.nil_le|refine PF.aA ?_ ?_))<;>first|(simp -implicitDefEqProofs only[go_sem,γ,reduceCtorEq]<;>rfl)|rfl
 rintro⟨P,c,v,H0⟩ ⟨hP,hLim,hc,hval,hO⟩
 simp only at hP hLim hc hval hO ⊢
 simp -implicitDefEqProofs only[go_sem,γ,reduceCtorEq,YO,aiS,MQ]
 by_cases c1:P.length<a.length
 ·have c1':(P.length:Int)<(a.length:Nat):=by omega
  have hai:=ha _ (bgA c1)
  have hta:=bT a c1
  have hac:(aE a)[P.length]?=some [.int .u32 ((a[P.length]:Nat):Int)]:=bJ a c1
  generalize hx:a[P.length]=x at *
  have ex:IntKind.u64.wrap ((x:Nat):Int)=((x:Nat):Int):=aZ (by omega)
  have fin:∀ (t:Nat) (F':PF),t<4294967296→val (b.take (P.length+1))=val (b.take P.length)+4294967296 ^ P.length*t →
    F' 0=some (aF a)→F' 1=some (aF b)→F' 5=some v→F' 8=some (.int .u64 (c+t:Nat))→F' 7=some (.int .i64 P.length) →
    ∀ K:cC,(∀ P' c' v' F2 H2,P'.length=P.length+1→Lim P'→c'≤1→val (a.take (P.length+1))+4294967296 ^ P'.length*c'=val P'+val (b.take (P.length+1))→(MQ a b v' c' P'.length).le F2→bB H2 1 v' (aE P')→K .normal F2 H2) →
    aD.wp C (.seq (.region KU) (.seq (.region KV) (.seq (.seq (.region ER) (.cond (.tmp 35) (.seq (.region ES) (.region ET)) .skip)) (.region tL)))) (eG 1 (jL C (aD.wp C (.region tM)) K)) F' H0:=by
   intro t F' ht htb g0 g1 g5 g8 g7 K hK
   have step:∀ (d c':Nat),d<4294967296→c'≤1→x+4294967296*c'=d+(c+t)→val (a.take (P.length+1))+4294967296 ^ (P.length+1)*c'=val (P++[d])+val (b.take (P.length+1)):=by
    intro d c' hd hc' he
    have h2:4294967296 ^ P.length*(x+4294967296*c')=4294967296 ^ P.length*(d+(c+t)):=by rw[he]
    rw[bgC,bgC,bgC] at h2
    rw[gI,bhH,bgK,hta,htb]
    omega
   simp -implicitDefEqProofs only[go_sem,γ,KU,g0,g7,hac,ex,KV,ER,g8]
   by_cases c2:x<c+t
   ·have c2':((x:Nat):Int)<((c+t:Nat):Int):=by omega
    have e1:IntKind.u64.wrap ((x:Int)+4294967296)=((x+4294967296:Nat):Int):=by
     rw[show (x:Int)+4294967296=((x+4294967296:Nat):Int) by omega]
     exact aZ (by omega)
    have e2:IntKind.u64.wrap (((x+4294967296:Nat):Int)-((c+t:Nat):Int))=((x+4294967296-(c+t):Nat):Int):=by
     rw[show ((x+4294967296:Nat):Int)-((c+t:Nat):Int)=((x+4294967296-(c+t):Nat):Int) by omega]
     exact aZ (by omega)
    have e3:IntKind.u32.wrap ((x+4294967296-(c+t):Nat):Int)=((x+4294967296-(c+t):Nat):Int):=by
     rw[bX,bgW (by omega)]
    have hb1:(1:Nat)*1≤16777216:=by decide
    simp -implicitDefEqProofs only[go_sem,υ,γ,η,ζ,c2',ES,e1,ET,tL,g5,g8,e2,e3,hb1]
    refine fB (src:=[[.int .u32 ((x+4294967296-(c+t):Nat):Int)]]) hO rfl (mY (by omega)) fun v' H' hO' _=>?_
    rw[mZ] at hO'
    simp -implicitDefEqProofs only[go_sem,γ,tM,g7,aN (show P.length<9223372036854775807 by omega)]
    refine hK _ 1 v' _ H' (by simp) (hLim.app fun y hy=>by simp at hy; subst hy; omega) (bfX _) ?_ ?_ hO'
    ·rw[bfW,bfZ]
     exact step _ 1 (by omega) (bfX _) (by omega)
    ·unfold MQ
     rw[bfW,bfZ]
     repeat' first|exact PF.nil_le|refine PF.aA ?_ ?_|rfl|assumption
   ·have c2':¬ ((x:Nat):Int)<((c+t:Nat):Int):=by omega
    have e2:IntKind.u64.wrap (((x:Nat):Int)-((c+t:Nat):Int))=((x-(c+t):Nat):Int):=by
     rw[show ((x:Nat):Int)-((c+t:Nat):Int)=((x-(c+t):Nat):Int) by omega]
     exact aZ (by omega)
    have e3:IntKind.u32.wrap ((x-(c+t):Nat):Int)=((x-(c+t):Nat):Int):=by
     rw[bX,bgW (by omega)]
    have hb1:(1:Nat)*1≤16777216:=by decide
    simp -implicitDefEqProofs only[go_sem,υ,γ,η,ζ,c2',tL,g5,g8,e2,e3,hb1]
    refine fB (src:=[[.int .u32 ((x-(c+t):Nat):Int)]]) hO rfl (mY (by omega)) fun v' H' hO' _=>?_
    rw[mZ] at hO'
    simp -implicitDefEqProofs only[go_sem,γ,tM,g7,aN (show P.length<9223372036854775807 by omega)]
    refine hK _ 0 v' _ H' (by simp) (hLim.app fun y hy=>by simp at hy; subst hy; omega) (by decide) ?_ ?_ hO'
    ·rw[bfW,bfZ]
     exact step _ 0 (by omega) (by decide) (by omega)
    ·unfold MQ
     rw[bfW,bfZ]
     repeat' first|exact PF.nil_le|refine PF.aA ?_ ?_|rfl|assumption
  simp only[aD.wp,go_sem] at fin
  simp -implicitDefEqProofs only[go_sem,γ,reduceCtorEq,c1',aiT,aiU]
  by_cases c3:P.length<b.length
  ·have c3':(P.length:Int)<(b.length:Nat):=by omega
   have hbi:=hb _ (bgA c3)
   have htb:=bT b c3
   have eb:IntKind.u64.wrap ((b[P.length]:Nat):Int)=((b[P.length]:Nat):Int):=aZ (by omega)
   have es:IntKind.u64.wrap ((c:Int)+(b[P.length]:Int))=((c+b[P.length]:Nat):Int):=eE (by omega)
   simp -implicitDefEqProofs only[go_sem,γ,reduceCtorEq,c3',aiV,bJ b c3,eb,es]
   refine fin b[P.length] _ hbi htb rfl rfl rfl rfl rfl _ ?_
   intro P' c' v' F2 H2 e1 e2 e3 e4 e5 e6
   rw[← e1] at e4
   exact aJ (α:=List Nat × Nat × PV × PH) (P',c',v',H2) ⟨by simp only; omega,e2,e3,e4,e6⟩ (by simp only; omega) e5 PH.le_refl
  ·have c3':¬ (P.length:Int)<(b.length:Nat):=by omega
   have htb:val (b.take (P.length+1))=val (b.take P.length)+4294967296 ^ P.length*0:=by rw[bgH (by omega),bgH (by omega)]; simp
   simp -implicitDefEqProofs only[go_sem,c3']
   refine fin 0 _ (by decide) htb rfl rfl rfl rfl rfl _ ?_
   intro P' c' v' F2 H2 e1 e2 e3 e4 e5 e6
   rw[← e1] at e4
   exact aJ (α:=List Nat × Nat × PV × PH) (P',c',v',H2) ⟨by simp only; omega,e2,e3,e4,e6⟩ (by simp only; omega) e5 PH.le_refl
 ·have e:P.length=a.length:=by omega
  have c1':¬ (P.length:Int)<(a.length:Nat):=by omega
  have hV:val P=val a-val b:=by
   rw[e,bhB,bgH hl] at hval
   have hlt:=eD hLim
   rw[e] at hlt
   rcases biB c with h | h
   ·subst h; omega
   ·have:c=1:=by omega
    subst this; omega
  simp -implicitDefEqProofs only[go_sem,γ,reduceCtorEq,c1',YP]
  have hs:=L.trim _ hLim (by omega)
  rw[hV] at hs
  refine qJ hs hO rfl fun F1 H1 _=>?_
  simp -implicitDefEqProofs only[go_sem]
  exact aW (.inr rfl) .nil rfl PH.nil_le ⟨.refl _,rfl⟩
end Go.PM
namespace Go.PM
open Go Go.Na
def oN (a b:List Nat) (o i:Nat):PF:=((((PF.nil.set 0 (aF a)).set 1 (aF b)).set 5 (.osl o 1 0 (a.length+b.length))).set 6 (.int .i64 i))
def utG (a b:List Nat) (o i c j:Nat):PF:=((((((PF.nil.set 0 (aF a)).set 1 (aF b)).set 5 (.osl o 1 0 (a.length+b.length))).set 6 (.int .i64 i)).set 7 (.int .u64 c)).set 8 (.int .i64 j))
theorem aMP {C:Ctx} (a b:List Nat) (ha:Lim a) (hb:Lim b) (h1:a.length≤16777216) (h2:b.length≤16777216) (L:List Nat) (i:Nat) (hi:i<a.length) (hI:zO a b L i) (q:Nat) (K:cC) (F:PF) (H:PH) (hF:(oN a b q i).le F) (hH:H q=some (.rows 1 (aE L)))
  (hK:∀ L' F' H',zO a b L' (i+1)→(oN a b q i).le F'→H' q=some (.rows 1 (aE L'))→K .normal F' H') :
  aD.wp C (.block 1 (.seq (.region LC) (.seq (.seq (.region LD) (.block 2 (.loop EX))) (.region EY)))) K F H:=by
 have f0:=hF 0 _ (by unfold oN; simp -implicitDefEqProofs only[go_sem,reduceCtorEq]; rfl)
 have f1:=hF 1 _ (by unfold oN; simp -implicitDefEqProofs only[go_sem,γ,reduceCtorEq]; rfl)
 have f5:=hF 5 _ (by unfold oN; simp -implicitDefEqProofs only[go_sem,γ,reduceCtorEq]; rfl)
 have f6:=hF 6 _ (by unfold oN; simp -implicitDefEqProofs only[go_sem,γ,reduceCtorEq]; rfl)
 have hx:=ha _ (bgA hi)
 have hta:=bT a hi
 generalize hxe:a[i]=x at *
 have hax:(aE a)[i]?=some [.int .u32 ((x:Nat):Int)]:=by rw[bJ a hi,hxe]
 simp -implicitDefEqProofs only[go_sem,LC,LD]
 refine wp_loop (α:=List Nat × Nat × Nat) (fun t=>utG a b q i t.2.1 t.2.2) (fun t=>PH.nil.set q (.rows 1 (aE t.1)))
  (fun t=>t.2.2≤b.length∧t.1.length=a.length+b.length∧Lim t.1∧t.2.1<4294967296∧val t.1+4294967296 ^ (i+t.2.2)*t.2.1=val (a.take i)*val b+4294967296 ^ i*(x*val (b.take t.2.2))∧∀ j y,i+b.length≤j→t.1[j]?=some y→y=0) (fun t=>b.length-t.2.2) (L,0,0)
  ⟨by simp,hI.len,hI.lim,by simp,by simp[val,hI.v],hI.z⟩ ?_ (PH.aA PH.nil_le hH) ?_
 ·unfold utG
  repeat' first|exact PF.nil_le|refine PF.aA ?_ ?_|rfl|assumption
 rintro⟨M,c,j⟩ ⟨hj,hM,hLim,hc,hval,hz⟩
 simp only at hj hM hLim hc hval hz
 simp -implicitDefEqProofs only[go_sem,γ,reduceCtorEq,EX,ajB,utG]
 by_cases c1:j<b.length
 ·have c1':(j:Int)<(b.length:Nat):=by omega
  have hy:=hb _ (bgA c1)
  have htb:=bT b c1
  generalize hye:b[j]=y at *
  have hby:(aE b)[j]?=some [.int .u32 ((y:Nat):Int)]:=by rw[bJ b c1,hye]
  have hij:i+j<M.length:=by omega
  have hz0:=hLim _ (bgA hij)
  have hset:=AO hij
  generalize hze:M[i+j]=z at *
  have hMz:(aE M)[i+j]?=some [.int .u32 ((z:Nat):Int)]:=by rw[bJ M hij,hze]
  have ex:IntKind.u64.wrap ((x:Nat):Int)=((x:Nat):Int):=aZ (by omega)
  have ey:IntKind.u64.wrap ((y:Nat):Int)=((y:Nat):Int):=aZ (by omega)
  have ez:IntKind.u64.wrap ((z:Nat):Int)=((z:Nat):Int):=aZ (by omega)
  have em:=aFE hx hy
  have hxy:x*y≤4294967295*4294967295:=Nat.mul_le_mul (by omega) (by omega)
  have e1:IntKind.u64.wrap (((x*y:Nat):Int)+(z:Int))=((x*y+z:Nat):Int):=eE (by omega)
  have e2:IntKind.u64.wrap (((x*y+z:Nat):Int)+(c:Int))=((x*y+z+c:Nat):Int):=eE (by omega)
  have eij:IntKind.i64.wrap ((i:Int)+(j:Int))=((i+j:Nat):Int):=fH (by omega)
  have hlt:((i+j:Nat):Int)<((a.length+b.length:Nat):Int):=by omega
  generalize ht:x*y+z+c=t at *
  have htt:t<4294967296*4294967296:=by omega
  have hrow:(aE M).set (i+j) [.int .u32 ((t%4294967296:Nat):Int)]=aE (M.set (i+j) (t%4294967296)):=eP M (i+j) _
  simp -implicitDefEqProofs only[go_sem,c1']
  refine cD .nil dS PH.nil_le ?_
  simp -implicitDefEqProofs only[go_sem,γ,reduceCtorEq,ajC,hax,hby,ex,ey,em,eij,hlt,hMz,ez,e1,e2,ajD,bX,hrow,ajE,tH,YU,aN (show j<9223372036854775807 by omega)]
  refine aJ (M.set (i+j) (t%4294967296),t/4294967296,j+1) ⟨by simp only; omega,by simp only[bhO]; exact hM,hLim.set _ (bgX _ (by decide)),by simp only; omega,?_,ZH hz _ _ (by omega)⟩ (by simp only; omega) ?_ (PH.aA PH.nil_le (by simp -implicitDefEqProofs only[go_sem]))
  ·simp only
   have h3:=hset (t%4294967296)
   have h4:4294967296 ^ (i+(j+1))*(t/4294967296)+4294967296 ^ (i+j)*(t%4294967296)=4294967296 ^ (i+j)*t:=by
    rw[← bhX,bhH,bgK,← bgC,biV]
   have h5:4294967296 ^ (i+j)*t=4294967296 ^ (i+j)*(x*y)+4294967296 ^ (i+j)*z+4294967296 ^ (i+j)*c:=by rw[← ht,bgC,bgC]
   have h6:4294967296 ^ i*(x*val (b.take (j+1)))=4294967296 ^ i*(x*val (b.take j))+4294967296 ^ (i+j)*(x*y):=by
    rw[htb,bgC,bgC,Nat.pow_add]
    congr 1
    rw[Nat.mul_left_comm x,bgK]
   omega
  ·(repeat' (first|exact PF.nil_le|refine PF.aA ?_ ?_))<;>first|(simp -implicitDefEqProofs only[go_sem,γ,reduceCtorEq]<;>rfl)|rfl
 ·have he:j=b.length:=by omega
  have c1':¬ (j:Int)<(b.length:Nat):=by omega
  subst he
  have hij:i+b.length<M.length:=by omega
  have hz0:M[i+b.length]=0:=hz _ _ (bfX _) (bgF hij)
  have hset:=AO hij
  have hMz:(aE M)[i+b.length]?=some [.int .u32 ((0:Nat):Int)]:=by rw[bJ M hij,hz0]
  have eij:IntKind.i64.wrap ((i:Int)+((b.length:Nat):Int))=((i+b.length:Nat):Int):=fH (by omega)
  have hlt:((i+b.length:Nat):Int)<((a.length+b.length:Nat):Int):=by omega
  have hrow:(aE M).set (i+b.length) [.int .u32 ((c%4294967296:Nat):Int)]=aE (M.set (i+b.length) c):=by
   rw[bgW hc]; exact eP M _ _
  simp -implicitDefEqProofs only[go_sem,γ,reduceCtorEq,c1',EY,eij,bX,hlt,hMz,hrow]
  refine hK (M.set (i+b.length) c) _ _ ⟨by rw[bhO]; exact hM,hLim.set _ hc,?_,fun j y hj hy=>?_⟩ (by unfold oN; (repeat' (first|exact PF.nil_le|refine PF.aA ?_ ?_))<;>first|(simp -implicitDefEqProofs only[go_sem,γ,reduceCtorEq]<;>rfl)|rfl) (by simp -implicitDefEqProofs only[go_sem])
  ·have h3:=hset c
   rw[hz0,Nat.mul_zero,bhY] at h3
   rw[h3,hval,bhB,hta,bgS,bgK]
  ·rw[List.getElem?_set_ne (by omega)] at hy
   exact hz j y (by omega) hy
theorem aSE {C:Ctx} (L:mP C) (a b:List Nat) (ha:Lim a) (hb:Lim b) (h1:a.length≤8388608) (h2:b.length≤8388608) :
  zK.wp C (aX KZ.res (bY (aF (aG (val a*val b))))) (PF.args [aF a,aF b]) .nil:=by
 have hlen:IntKind.i64.wrap (((a.length:Nat):Int)+((b.length:Nat):Int))=((a.length+b.length:Nat):Int):=fH (by omega)
 have hm1:((a.length+b.length:Nat):Int)*((4:Nat):Int)≤140737488355328:=by omega
 have hm2:((a.length+b.length:Nat):Int)≤9223372036854775807:=by omega
 have hz:bfV (a.length+b.length) [PV.int .u32 0]=aE (bfV (a.length+b.length) 0):=by
  simp[aE]
 simp -implicitDefEqProofs only[go_sem,γ,reduceCtorEq,zK,aiX,aiY,KZ,bfT,hlen,hm1,hm2,hz]
 refine aP fun o ho=>?_
 simp -implicitDefEqProofs only[go_sem,γ,aiZ]
 refine wp_loop (α:=List Nat × Nat) (fun t=>oN a b o t.2) (fun t=>PH.nil.set o (.rows 1 (aE t.1))) (fun t=>t.2≤a.length∧zO a b t.1 t.2) (fun t=>a.length-t.2) (bfV (a.length+b.length) 0,0)
  ⟨by simp,by simp,rY _,by simp[val,pA],fun j x _ hx=>by rw[List.getElem?_replicate] at hx; split at hx<;>simp_all⟩ ?_ (PH.aA PH.nil_le (by simp -implicitDefEqProofs only[go_sem])) ?_
 ·unfold oN
  (repeat' (first|exact PF.nil_le|refine PF.aA ?_ ?_))<;>first|(simp -implicitDefEqProofs only[go_sem,γ,reduceCtorEq]<;>rfl)|rfl
 rintro⟨M,i⟩ ⟨hi,hI⟩
 simp only at hi hI
 simp -implicitDefEqProofs only[go_sem,γ,reduceCtorEq,YT,ajA,oN]
 by_cases c1:i<a.length
 ·have c1':(i:Int)<(a.length:Nat):=by omega
  have key:=aMP (C:=C) a b ha hb (by omega) (by omega) M i c1 hI o
  simp -implicitDefEqProofs only[go_sem] at key
  simp -implicitDefEqProofs only[go_sem,c1']
  refine key _ _ _ (by unfold oN; (repeat' (first|exact PF.nil_le|refine PF.aA ?_ ?_))<;>first|(simp -implicitDefEqProofs only[go_sem,γ,reduceCtorEq]<;>rfl)|rfl) (by simp -implicitDefEqProofs only[go_sem]) ?_
  intro L' F' H' hI' hF' hH'
  have g6:=hF' 6 _ (by unfold oN; simp -implicitDefEqProofs only[go_sem,γ,reduceCtorEq]; rfl)
  have g0:=hF' 0 _ (by unfold oN; simp -implicitDefEqProofs only[go_sem,reduceCtorEq]; rfl)
  have g1:=hF' 1 _ (by unfold oN; simp -implicitDefEqProofs only[go_sem,γ,reduceCtorEq]; rfl)
  have g5:=hF' 5 _ (by unfold oN; simp -implicitDefEqProofs only[go_sem,γ,reduceCtorEq]; rfl)
  simp -implicitDefEqProofs only[go_sem,γ,YV,g6,aN (show i<9223372036854775807 by omega)]
  refine aJ (L',i+1) ⟨by simp only; omega,hI'⟩ (by simp only; omega) ?_ (PH.aA PH.nil_le hH')
  repeat' first|exact PF.nil_le|refine PF.aA ?_ ?_|rfl|assumption
 ·have he:i=a.length:=by omega
  subst he
  have c1':¬ ((a.length:Nat):Int)<(a.length:Nat):=by omega
  have hV:val M=val a*val b:=by rw[hI.v,bhB]
  simp -implicitDefEqProofs only[go_sem,γ,reduceCtorEq,YW]
  have hs:=L.trim _ hI.lim (by rw[hI.len]; omega)
  rw[hV] at hs
  refine nE (o:=o) (s:=1) (k:=a.length+b.length) (rs:=aE M) (v:=aF (aG (val a*val b))) ?_ rfl (by simp -implicitDefEqProofs only[go_sem]) (by rw[bQ,hI.len]; exact bfX _) ?_
  ·rw[bgH (by rw[bQ,hI.len]; exact bfX _)]; exact hs
  ·simp -implicitDefEqProofs only[go_sem,γ,reduceCtorEq]
   exact aW (.inr rfl) .nil rfl PH.nil_le ⟨.refl _,rfl⟩
structure aNB (C:Ctx):Prop extends akM C where
 minus:∀ a b,Lim a→Lim b→val b≤val a→b.length≤a.length→a.length≤16777216→aI C 42 [aF a,aF b] .nil (aL (aF (aG (val a-val b))))
 times:∀ a b,Lim a→Lim b→a.length≤8388608→b.length≤8388608→aI C 44 [aF a,aF b] .nil (aL (aF (aG (val a*val b))))
end Go.PM
namespace Go.PM
open Go Go.Na
def sP (a:List Nat) (i:Nat):Nat:=a.getD i 0
theorem alG {a:List Nat} (h:Lim a) (i:Nat):sP a i<4294967296:=by
 unfold sP
 rw[bgT]
 rcases bgI i a.length with h1 | h1
 ·rw[bgF h1]; exact h _ (bgA h1)
 ·rw[bhD h1]; decide
theorem PJ {a:List Nat} {i:Nat} (h:i<a.length):sP a i=a[i]:=by simp[sP,bgT,h]
theorem GI {a:List Nat} {i:Nat} (h:¬ i<a.length):sP a i=0:=by simp[sP,bgT,h]
theorem LE (a:List Nat) (i:Nat):val (a.take (i+1))=val (a.take i)+4294967296 ^ i*sP a i:=by
 rcases bgI i a.length with h | h
 ·rw[PJ h]; exact bT a h
 ·rw[GI (by omega),bgH (by omega),bgH (by omega)]; simp
def qH (a b:List Nat) (v:PV) (c i:Nat):PF:=(((((PF.nil.set 0 (aF a)).set 1 (aF b)).set 5 (v)).set 6 (.int .u64 c)).set 7 (.int .i64 i))
theorem aXM {C:Ctx} (L:mP C) (a b:List Nat) (ha:Lim a) (hb:Lim b) (h1:a.length≤8388608) (h2:b.length≤8388608) :
  EU.wp C (aX YS.res (bY (aF (aG (val a+val b))))) (PF.args [aF a,aF b]) .nil:=by
 simp -implicitDefEqProofs only[go_sem,EU,axQ,axR,axS,axT,YS]
 refine wp_loop (α:=List Nat × Nat × PV × PH) (fun s=>qH a b s.2.2.1 s.2.1 s.1.length) (fun s=>s.2.2.2)
  (fun s=>s.1.length≤max a.length b.length+1∧(s.1.length≤max a.length b.length∨s.2.1=0)∧Lim s.1∧s.2.1≤1∧val s.1+4294967296 ^ s.1.length*s.2.1=val (a.take s.1.length)+val (b.take s.1.length)∧bB s.2.2.2 1 s.2.2.1 (aE s.1)) (fun s=>max a.length b.length+1-s.1.length) ([],0,.nils,.nil)
  ⟨by simp,by simp,by simp[Lim],by simp,by simp[val],.nil⟩ ?_ PH.nil_le ?_
 ·unfold qH
  (repeat' (first|exact PF.nil_le|refine PF.aA ?_ ?_))<;>first|(simp -implicitDefEqProofs only[go_sem,γ,reduceCtorEq]<;>rfl)|rfl
 rintro⟨P,c,v,H0⟩ ⟨hP,hPc,hLim,hc,hval,hO⟩
 simp only at hP hPc hLim hc hval hO ⊢
 have hda:=alG ha P.length
 have hdb:=alG hb P.length
 have hta:=LE a P.length
 have htb:=LE b P.length
 generalize hx:sP a P.length=x at *
 generalize hy:sP b P.length=y at *
 have ex:IntKind.u64.wrap ((x:Nat):Int)=((x:Nat):Int):=aZ (by omega)
 have ey:IntKind.u64.wrap ((y:Nat):Int)=((y:Nat):Int):=aZ (by omega)
 have e1:IntKind.u64.wrap ((c:Int)+(x:Int))=((c+x:Nat):Int):=eE (by omega)
 have e2:IntKind.u64.wrap (((c+x:Nat):Int)+(y:Int))=((c+x+y:Nat):Int):=eE (by omega)
 have hra:P.length<a.length→(aE a)[P.length]?=some [.int .u32 ((x:Nat):Int)]:=fun h=>by rw[bJ a h,← hx,PJ h]
 have hrb:P.length<b.length→(aE b)[P.length]?=some [.int .u32 ((y:Nat):Int)]:=fun h=>by rw[bJ b h,← hy,PJ h]
 have hxa:¬ P.length<a.length→x=0:=fun h=>by rw[← hx,GI h]
 have hyb:¬ P.length<b.length→y=0:=fun h=>by rw[← hy,GI h]
 have body:(P.length≤max a.length b.length)→∀ K:cC,(∀ P' c' v' F2 H2,P'.length=P.length+1→Lim P'→c'≤1→(P.length+1≤max a.length b.length∨c'=0)→val P'+4294967296 ^ P'.length*c'=val (a.take (P.length+1))+val (b.take (P.length+1))→(qH a b v' c' P'.length).le F2→bB H2 1 v' (aE P')→K .normal F2 H2) →
   ∀ F:PF,(qH a b v c P.length).le F→aD.wp C (.seq (.block 1 (.seq (.region SK) (.seq (.seq (.region SL) (.cond (.tmp 29) (.region SM) .skip)) (.seq (.seq (.region EV) (.cond (.tmp 40) (.region EW) .skip)) (.seq (.region wS) (.region wT)))))) (.region wU)) K F H0:=by
  intro hle K hK F hF
  have g0:F 0=some (aF a):=hF 0 _ (by unfold qH; simp -implicitDefEqProofs only[go_sem,reduceCtorEq])
  have g1:F 1=some (aF b):=hF 1 _ (by unfold qH; simp -implicitDefEqProofs only[go_sem,γ,reduceCtorEq])
  have g5:F 5=some v:=hF 5 _ (by unfold qH; simp -implicitDefEqProofs only[go_sem,γ,reduceCtorEq])
  have g6:F 6=some (.int .u64 c):=hF 6 _ (by unfold qH; simp -implicitDefEqProofs only[go_sem,γ,reduceCtorEq])
  have g7:F 7=some (.int .i64 P.length):=hF 7 _ (by unfold qH; simp -implicitDefEqProofs only[go_sem,γ,reduceCtorEq])
  have fin:∀ F':PF,F' 0=some (aF a)→F' 1=some (aF b)→F' 5=some v→F' 7=some (.int .i64 P.length)→F' 8=some (.int .u64 (c+x+y:Nat)) →
    aD.wp C (.seq (.region wS) (.region wT)) (eG 1 (jL C (aD.wp C (.region wU)) K)) F' H0:=by
   intro F' q0 q1 q5 q7 q8
   have hb1:(1:Nat)*1≤16777216:=by decide
   generalize ht:c+x+y=t at *
   have htt:t<2*4294967296:=by omega
   simp -implicitDefEqProofs only[go_sem,υ,γ,η,ζ,wS,q5,q8,hb1,bX]
   refine fB (src:=[[.int .u32 ((t%4294967296:Nat):Int)]]) hO rfl (mY (by omega)) fun v' H' hO' _=>?_
   rw[mZ] at hO'
   simp -implicitDefEqProofs only[go_sem,γ,wT,q8,tH,wU,q7,aN (show P.length<9223372036854775807 by omega)]
   refine hK (P++[t%4294967296]) (t/4294967296) v' _ H' (by simp) (hLim.app fun y hy=>by simp at hy; subst hy; omega) (by omega) ?_ ?_ ?_ hO'
   ·rcases bgI P.length (max a.length b.length) with h | h
    ·exact .inl h
    ·right
     have h1:=hxa (by omega)
     have h2:=hyb (by omega)
     omega
   ·rw[gI,bfW,bfZ,hta,htb,bhH,bgK,bhX,← bgC]
    rw[show t%4294967296+4294967296*(t/4294967296)=t from Nat.mod_add_div t 4294967296]
    have h3:4294967296 ^ P.length*t=4294967296 ^ P.length*c+4294967296 ^ P.length*x+4294967296 ^ P.length*y:=by rw[← ht,bgC,bgC]
    omega
   ·unfold qH
    rw[bfW,bfZ]
    repeat' first|exact PF.nil_le|refine PF.aA ?_ ?_|rfl|assumption
  simp only[aD.wp,go_sem] at fin
  simp -implicitDefEqProofs only[go_sem,γ,reduceCtorEq,SK,g6,SL,g7,g0]
  by_cases c1:P.length<a.length
  ·have c1':(P.length:Int)<(a.length:Nat):=by omega
   simp -implicitDefEqProofs only[go_sem,γ,reduceCtorEq,c1',SM,g0,g7,hra c1,ex,e1,EV,g1]
   by_cases c2:P.length<b.length
   ·have c2':(P.length:Int)<(b.length:Nat):=by omega
    simp -implicitDefEqProofs only[go_sem,γ,c2',EW,g1,g7,hrb c2,ey,e2]
    exact fin _ (by simp -implicitDefEqProofs only[go_sem,reduceCtorEq,g0]) (by simp -implicitDefEqProofs only[go_sem,γ,g1]) (by simp -implicitDefEqProofs only[go_sem,γ,g5]) (by simp -implicitDefEqProofs only[go_sem,γ,g7]) rfl
   ·have c2':¬ (P.length:Int)<(b.length:Nat):=by omega
    have h0:=hyb c2
    simp -implicitDefEqProofs only[go_sem,c2']
    exact fin _ (by simp -implicitDefEqProofs only[go_sem,reduceCtorEq,g0]) (by simp -implicitDefEqProofs only[go_sem,γ,g1]) (by simp -implicitDefEqProofs only[go_sem,γ,g5]) (by simp -implicitDefEqProofs only[go_sem,γ,g7]) (by simp -implicitDefEqProofs only[go_sem,γ,h0])
  ·have c1':¬ (P.length:Int)<(a.length:Nat):=by omega
   have h0:=hxa c1
   simp -implicitDefEqProofs only[go_sem,γ,c1',EV,g1,g7]
   by_cases c2:P.length<b.length
   ·have c2':(P.length:Int)<(b.length:Nat):=by omega
    have e2':IntKind.u64.wrap ((c:Int)+(y:Int))=((c+x+y:Nat):Int):=by rw[h0]; exact eE (by omega)
    simp -implicitDefEqProofs only[go_sem,γ,c2',EW,g1,g7,hrb c2,ey,e2']
    exact fin _ (by simp -implicitDefEqProofs only[go_sem,reduceCtorEq,g0]) (by simp -implicitDefEqProofs only[go_sem,γ,g1]) (by simp -implicitDefEqProofs only[go_sem,γ,g5]) (by simp -implicitDefEqProofs only[go_sem,γ,g7]) rfl
   ·have c2':¬ (P.length:Int)<(b.length:Nat):=by omega
    have h0':=hyb c2
    simp -implicitDefEqProofs only[go_sem,c2']
    exact fin _ (by simp -implicitDefEqProofs only[go_sem,reduceCtorEq,g0]) (by simp -implicitDefEqProofs only[go_sem,γ,g1]) (by simp -implicitDefEqProofs only[go_sem,γ,g5]) (by simp -implicitDefEqProofs only[go_sem,γ,g7]) (by simp -implicitDefEqProofs only[go_sem,γ,h0,h0'])
 simp only[aD.wp,go_sem] at body
 have hexit:¬ P.length<a.length→¬ P.length<b.length→c=0→∀ F:PF,F 5=some v→aD.wp C (.seq (.region KX) .ret) (aX [.tmp 4] (bY (aF (aG (val a+val b))))) F H0:=by
  intro n1 n2 n3 F f5
  have hV:val P=val a+val b:=by
   rw[n3,bgH (by omega),bgH (by omega)] at hval
   omega
  have hs:=L.trim _ hLim (by omega)
  rw[hV] at hs
  simp -implicitDefEqProofs only[go_sem,KX,f5]
  refine qJ hs hO rfl fun F1 H1 _=>?_
  simp -implicitDefEqProofs only[go_sem]
  exact aW (.inr rfl) .nil rfl PH.nil_le ⟨.refl _,rfl⟩
 simp only[aD.wp,go_sem] at hexit
 simp -implicitDefEqProofs only[go_sem,γ,reduceCtorEq,aiW,axU,qH]
 by_cases c1:P.length<a.length
 ·have c1':(P.length:Int)<(a.length:Nat):=by omega
  simp -implicitDefEqProofs only[go_sem,γ,reduceCtorEq,c1']
  refine body (by omega) _ ?_ _ (by unfold qH; (repeat' (first|exact PF.nil_le|refine PF.aA ?_ ?_))<;>first|(simp -implicitDefEqProofs only[go_sem,γ,reduceCtorEq]<;>rfl)|rfl)
  intro P' c' v' F2 H2 e1 e2 e3 e4 e5 e6 e7
  rw[← e1] at e5 e4
  exact aJ (α:=List Nat × Nat × PV × PH) (P',c',v',H2) ⟨by simp only; omega,e4,e2,e3,e5,e7⟩ (by simp only; omega) e6 PH.le_refl
 ·have c1':¬ (P.length:Int)<(a.length:Nat):=by omega
  simp -implicitDefEqProofs only[go_sem,γ,reduceCtorEq,c1']
  by_cases c2:P.length<b.length
  ·have c2':(P.length:Int)<(b.length:Nat):=by omega
   simp -implicitDefEqProofs only[go_sem,γ,reduceCtorEq,c2']
   refine body (by omega) _ ?_ _ (by unfold qH; (repeat' (first|exact PF.nil_le|refine PF.aA ?_ ?_))<;>first|(simp -implicitDefEqProofs only[go_sem,γ,reduceCtorEq]<;>rfl)|rfl)
   intro P' c' v' F2 H2 e1 e2 e3 e4 e5 e6 e7
   rw[← e1] at e5 e4
   exact aJ (α:=List Nat × Nat × PV × PH) (P',c',v',H2) ⟨by simp only; omega,e4,e2,e3,e5,e7⟩ (by simp only; omega) e6 PH.le_refl
  ·have c2':¬ (P.length:Int)<(b.length:Nat):=by omega
   simp -implicitDefEqProofs only[go_sem,γ,reduceCtorEq,c2']
   by_cases c3:c=0
   ·have c3':¬ (c:Int)>0:=by omega
    simp -implicitDefEqProofs only[go_sem,c3']
    exact hexit c1 c2 c3 _ rfl
   ·have c3':(c:Int)>0:=by omega
    simp -implicitDefEqProofs only[go_sem,c3']
    refine body (by omega) _ ?_ _ (by unfold qH; (repeat' (first|exact PF.nil_le|refine PF.aA ?_ ?_))<;>first|(simp -implicitDefEqProofs only[go_sem,γ,reduceCtorEq]<;>rfl)|rfl)
    intro P' c' v' F2 H2 e1 e2 e3 e4 e5 e6 e7
    rw[← e1] at e5 e4
    exact aJ (α:=List Nat × Nat × PV × PH) (P',c',v',H2) ⟨by simp only; omega,e4,e2,e3,e5,e7⟩ (by simp only; omega) e6 PH.le_refl
structure aNC (C:Ctx):Prop extends aNB C where
 plus:∀ a b,Lim a→Lim b→a.length≤8388608→b.length≤8388608→aI C 43 [aF a,aF b] .nil (aL (aF (aG (val a+val b))))
end Go.PM
namespace Go.PM
open Go Go.Na
def awM (k:Nat) (v:Nat):PF:=((PF.nil.set 3 (.int .i64 k)).set 4 (.int .u32 v))
theorem aWZ {C:Ctx} (L:mP C) (xs:List Nat) (hx:Lim xs) (lx:xs.length≤16777216) :
  EL.wp C (aX YE.res (aL (.int .i64 (cA (val xs):Nat)))) (PF.args [aF xs]) .nil:=by
 simp -implicitDefEqProofs only[go_sem,reduceCtorEq,EL,awO,awP,YE]
 refine aB (L.trim xs hx lx) rfl ?_
 have bx:=eO hx
 simp -implicitDefEqProofs only[go_sem,γ,reduceCtorEq,awQ,bfT,bH,wR]
 by_cases c1:nl (val xs)=0
 ·simp -implicitDefEqProofs only[go_sem,decide_eq_true c1,awR]
  refine bZ (.inr rfl) rfl ?_
  have:val xs=0:=iT.1 c1
  simp[cN,this,iW]
 obtain⟨n,hn⟩:∃ n,nl (val xs)=n+1:=⟨nl (val xs)-1,by omega⟩
 obtain⟨t,ht,ht0⟩:=avG (xs:=aG (val xs)) (bE _) (by rw[aY]; exact hn)
 have htl:t<4294967296:=bE _ t (biF ht)
 have hv:val xs=val ((aG (val xs)).take n)+4294967296 ^ n*t:=by
  have:=aY (val xs)
  have hnl:n<(aG (val xs)).length:=by rw[bH]; omega
  have hg:(aG (val xs))[n]=t:=by rw[bgF hnl] at ht; exact biA.inj ht
  conv=>lhs; rw[← this,← bgH (l:=aG (val xs)) (i:=n+1) (by rw[bH]; omega)]
  rw[bT _ hnl,hg]
 have hb:cA (val xs)=32*n+cA t:=by
  have h3:=eD ((bE (val xs)).take n)
  rw[bgJ,bH,bhT (by omega)] at h3
  have hk:=akZ (lo:=val ((aG (val xs)).take n)) (k:=32*n) (hi:=t) (by rw[Nat.pow_mul]; exact h3) ht0
  rw[← hk,Nat.pow_mul]
  exact congrArg cA hv
 have hrow:(aE (aG (val xs)))[n]?=some [.int .u32 (t:Nat)]:=by
  simp[aE,ht]
 have e1:IntKind.i64.wrap (((nl (val xs):Nat):Int)-1)=(n:Int):=by rw[wrap_i64 (by omega) (by omega)]; omega
 have e2:IntKind.i64.wrap (32*(n:Int))=((32*n:Nat):Int):=by rw[wrap_i64 (by omega) (by omega)]; omega
 simp -implicitDefEqProofs only[go_sem,γ,reduceCtorEq,decide_eq_false c1,awS,awT,bfT,bH,e1,e2,hrow]
 refine wp_loop (α:=Nat × Nat) (fun a=>awM a.1 a.2) (fun _=>.nil) (fun a=>a.1+cA a.2=32*n+cA t∧a.2<4294967296) (fun a=>a.2) (32*n,t) ⟨rfl,htl⟩ ?_ PH.nil_le ?_
 ·unfold awM
  (repeat' (first|exact PF.nil_le|refine PF.aA ?_ ?_))<;>first|(simp -implicitDefEqProofs only[go_sem,γ,reduceCtorEq]<;>rfl)|rfl
 rintro⟨k,v⟩ ⟨hk,hlt⟩
 simp only at hk hlt
 have hk32:cA t≤32:=(jQ t 32).2 htl
 simp -implicitDefEqProofs only[go_sem,γ,awN,awU,awM]
 by_cases c2:(v:Int)>0
 ·have hv0:v≠0:=by omega
  have hsh:IntKind.u32.wrap (Int.tdiv (v:Int) 2)=((v/2:Nat):Int):=by
   rw[show Int.tdiv (v:Int) 2=((v/2:Nat):Int) from Int.ofNat_tdiv v 2,bX,bgW (by omega)]
  simp -implicitDefEqProofs only[go_sem,μ,γ,c2,awV,awW,hsh,aN (show k<9223372036854775807 by omega)]
  refine aJ (k+1,v/2) ⟨?_,?_⟩ (Nat.div_lt_self (by omega) (by decide)) ?_ PH.nil_le
  ·have:=oA hv0
   simp only; omega
  ·simp only; omega
  ·(repeat' (first|exact PF.nil_le|refine PF.aA ?_ ?_))<;>first|(simp -implicitDefEqProofs only[go_sem,γ]<;>rfl)|rfl
 ·have:v=0:=by omega
  subst this
  simp -implicitDefEqProofs only[go_sem,γ,c2,aiJ]
  refine bZ (.inr rfl) rfl ?_
  rw[iW] at hk
  simp only[cN,PV.int.injEq,true_and]
  omega
theorem afJ (n:Nat):4294967296 ^ (n/32)*2 ^ (n%32)=2 ^ n:=by
 rw[show (4294967296:Nat)=2 ^ 32 by decide,← Nat.pow_mul,← Nat.pow_add]
 congr 1
 omega
theorem aRF (n:Nat):IntKind.i64.wrap (Int.tdiv (n:Int) 32)=IntKind.i64.wrap ((n/32:Nat):Int):=by
 rw[show Int.tdiv (n:Int) 32=((n/32:Nat):Int) from Int.ofNat_tdiv n 32]
theorem aRK (n:Nat):Int.tmod (n:Int) 32=((n%32:Nat):Int):=Int.ofNat_tmod n 32
def aXS (a:List Nat) (n:Nat) (v:PV) (c i:Nat):PF:=(((((PF.nil.set 0 (aF a)).set 1 (.int .i64 n)).set 5 (v)).set 6 (.int .u64 c)).set 7 (.int .i64 i))
theorem a4U {C:Ctx} (L:mP C) (a:List Nat) (n:Nat) (ha:Lim a) (h1:a.length≤8388608) (hn:n≤8388608) (h0:a.length=0→val a=0) :
  SO.wp C (aX uup.res (kD 1 (aE (aG (val a*2 ^ n))))) (PF.args [aF a,.int .i64 n]) .nil:=by
 simp -implicitDefEqProofs only[go_sem,γ,reduceCtorEq,SO,aSG,aSH,uup,bfT,wR]
 by_cases c0:a.length=0
 ·simp -implicitDefEqProofs only[go_sem,decide_eq_true c0,aSI]
  rw[h0 c0,Nat.zero_mul,eY]
  exact AF (.inr rfl) rfl
 have ez:IntKind.i64.wrap (Int.tdiv (n:Int) 32)=((n/32:Nat):Int):=by rw[aRF,SP (by omega)]
 have em:=aRK n
 have eu:IntKind.u64.wrap ((n%32:Nat):Int)=((n%32:Nat):Int):=aZ (by omega)
 have hsp:=afJ n
 have hs:n%32<32:=bgX _ (by decide)
 have hz:n/32≤8388608:=by omega
 generalize hzz:n/32=z at *
 generalize hss:n%32=s at *
 have hm1:((z:Nat):Int)*((4:Nat):Int)≤140737488355328:=by omega
 have hm2:((z:Nat):Int)≤9223372036854775807:=by omega
 have hzr:bfV z [PV.int .u32 0]=aE (bfV z 0):=by
  simp[aE]
 have h2s:2 ^ s≤2147483648:=Nat.pow_le_pow_right (show 0<2 by decide) (show s≤31 by omega)
 have h2s0:0<2 ^ s:=biE (by decide)
 simp -implicitDefEqProofs only[go_sem,μ,γ,decide_eq_false c0,aSJ,ez,hm1,hm2,hzr]
 refine aP fun o ho=>?_
 simp -implicitDefEqProofs only[go_sem,γ,aSK,aSL]
 refine wp_loop (α:=List Nat × Nat × Nat × PV × PH) (fun t=>aXS a n t.2.2.2.1 t.2.1 t.2.2.1) (fun t=>t.2.2.2.2)
  (fun t=>t.2.2.1≤a.length∧t.1.length=z+t.2.2.1∧Lim t.1∧t.2.1<2 ^ s∧val t.1+4294967296 ^ t.1.length*t.2.1=val (a.take t.2.2.1)*2 ^ n∧bB t.2.2.2.2 1 t.2.2.2.1 (aE t.1)) (fun t=>a.length-t.2.2.1) (bfV z 0,0,0,.osl o 1 0 z,PH.nil.set o (.rows 1 (aE (bfV z 0))))
  ⟨by simp,by simp,rY _,h2s0,by simp[val,pA],.inr ⟨o,aE (bfV z 0),by rw[bQ,List.length_replicate],by simp -implicitDefEqProofs only[go_sem],by rw[bQ]; exact bfX _,bhB⟩⟩ ?_ PH.le_refl ?_
 ·unfold aXS
  (repeat' (first|exact PF.nil_le|refine PF.aA ?_ ?_))<;>first|(simp -implicitDefEqProofs only[go_sem,γ,reduceCtorEq]<;>rfl)|rfl
 rintro⟨P,c,i,v,H0⟩ ⟨hi,hP,hLim,hc,hval,hO⟩
 simp only at hi hP hLim hc hval hO ⊢
 simp -implicitDefEqProofs only[go_sem,γ,reduceCtorEq,aIC,aSM,aXS]
 by_cases c1:i<a.length
 ·have c1':(i:Int)<(a.length:Nat):=by omega
  have hai:=ha _ (bgA c1)
  have hta:=bT a c1
  have hax:=bJ a c1
  generalize hx:a[i]=x at *
  have hxs:x*2 ^ s≤4294967295*2147483648:=Nat.mul_le_mul (by omega) h2s
  have ex:IntKind.u64.wrap ((x:Nat):Int)=((x:Nat):Int):=aZ (by omega)
  have hxs':2 ^ s*x=x*2 ^ s:=bgO _ _
  have esh:shift .shl .u64 (x:Int) (s:Int)=some (.int .u64 ((2 ^ s*x:Nat):Int)):=DZ (by omega) (by omega)
  have eor:=orI (a:=2 ^ s*x) (b:=c) (n:=c+2 ^ s*x) (by omega) (by omega) (by rw[Nat.or_comm]; exact atX hc (by omega)) (by omega)
  have hdig:(c+2 ^ s*x)/4294967296<2 ^ s:=by
   rw[biJ (by decide)]
   have:2 ^ s*(x+1)≤2 ^ s*4294967296:=bhZ _ (by omega)
   rw[bgC,Nat.mul_one] at this
   omega
  have hb1:(1:Nat)*1≤16777216:=by decide
  simp -implicitDefEqProofs only[go_sem,μ,υ,γ,η,ζ,reduceCtorEq,c1',aSN,hax,ex,em,eu,esh,eor,aSO,bX,hb1]
  refine fB (src:=[[.int .u32 (((c+2 ^ s*x)%4294967296:Nat):Int)]]) hO rfl (mY (by omega)) fun v' H' hO' _=>?_
  rw[mZ] at hO'
  simp -implicitDefEqProofs only[go_sem,γ,reduceCtorEq,aSP,tH,aID,aN (show i<9223372036854775807 by omega)]
  refine aJ (P++[(c+2 ^ s*x)%4294967296],(c+2 ^ s*x)/4294967296,i+1,v',H') ⟨by simp only; omega,by simp; omega,hLim.app fun y hy=>by simp at hy; subst hy; exact bgX _ (by decide),hdig,?_,hO'⟩ (by simp only; omega) ?_ PH.le_refl
  ·simp only
   have hp:4294967296 ^ P.length*(2 ^ s*x)=4294967296 ^ i*x*2 ^ n:=by
    rw[hP,Nat.pow_add,← hsp]
    rw[bgK,Nat.mul_left_comm (4294967296 ^ i),← bgK (4294967296 ^ z),bgO (4294967296 ^ z*2 ^ s),bgK,bgO x]
   rw[gI,bfW,bfZ,bhH,bgK,bhX,← bgC,Nat.mod_add_div,hta,bgC,bgS,← bhX,hval,hp]
  ·(repeat' (first|exact PF.nil_le|refine PF.aA ?_ ?_))<;>first|(simp -implicitDefEqProofs only[go_sem,γ,reduceCtorEq]<;>rfl)|rfl
 ·have e:i=a.length:=by omega
  subst e
  have c1':¬ ((a.length:Nat):Int)<(a.length:Nat):=by omega
  have hb1:(1:Nat)*1≤16777216:=by decide
  have hV:val (P++[c])=val a*2 ^ n:=by
   rw[gI,hval,bhB]
  have hLc:Lim (P++[c]):=hLim.app fun x hx=>by simp at hx; omega
  have ec:IntKind.u32.wrap ((c:Nat):Int)=((c:Nat):Int):=by rw[bX,bgW (by omega)]
  simp -implicitDefEqProofs only[go_sem,υ,γ,η,ζ,reduceCtorEq,c1',aIE,ec,hb1]
  refine fB (src:=[[.int .u32 ((c:Nat):Int)]]) hO rfl (mY (by omega)) fun v' H' hO' _=>?_
  rw[mZ] at hO'
  have hs:=L.trimM _ hLc (by simp; omega)
  rw[hV] at hs
  refine ajT hs hO' rfl fun F1 H1 _ r H2 hr _=>?_
  simp -implicitDefEqProofs only[go_sem]
  exact aQM (.inr rfl) hr rfl
def KO (a:List Nat) (n:Nat) (v:PV) (i:Nat):PF:=((((PF.nil.set 0 (aF a)).set 1 (.int .i64 n)).set 5 (v)).set 6 (.int .i64 i))
theorem aXD {C:Ctx} (L:mP C) (a:List Nat) (n:Nat) (ha:Lim a) (h1:a.length≤8388608) (hn:n≤1000000000) :
  EP.wp C (aX YM.res (bY (aF (aG (val a/2 ^ n))))) (PF.args [aF a,.int .i64 n]) .nil:=by
 have ez:IntKind.i64.wrap (Int.tdiv (n:Int) 32)=((n/32:Nat):Int):=by rw[aRF,SP (by omega)]
 have em:=aRK n
 have eu:IntKind.u64.wrap ((n%32:Nat):Int)=((n%32:Nat):Int):=aZ (by omega)
 have hsp:=afJ n
 have hs:n%32<32:=bgX _ (by decide)
 have hz:n/32≤1000000000:=by omega
 generalize hzz:n/32=z at *
 generalize hss:n%32=s at *
 simp -implicitDefEqProofs only[go_sem,μ,γ,reduceCtorEq,EP,axD,axE,YM,bfT,ez]
 by_cases c0:a.length≤z
 ·have c0':((z:Nat):Int)≥(a.length:Nat):=by omega
  have hq:val a/2 ^ n=0:=by
   refine biW (Nat.lt_of_lt_of_le (eD ha) ?_)
   rw[← hsp]
   exact biK (Nat.pow_le_pow_right (by decide) c0) (Nat.le_mul_of_pos_right _ (biE (by decide)))
  simp -implicitDefEqProofs only[go_sem,c0',axF]
  rw[hq,eY]
  exact aW (vs:=[.nils]) (.inr rfl) .nil rfl PH.nil_le ⟨.nil 1,rfl⟩
 have c0':¬ ((z:Nat):Int)≥(a.length:Nat):=by omega
 have hR:val a/2 ^ n=val (a.drop z)/2 ^ s:=by
  rw[qZ ha (by omega),← hsp,Nat.div_div_eq_div_mul]
 have hLd:Lim (a.drop z):=ha.drop z
 simp -implicitDefEqProofs only[go_sem,μ,γ,c0',axG,axH,ez]
 refine wp_loop (α:=List Nat × PV × PH) (fun t=>KO a n t.2.1 (z+t.1.length)) (fun t=>t.2.2)
  (fun t=>z+t.1.length≤a.length∧t.1=cV t.1.length (val (a.drop z)/2 ^ s)∧bB t.2.2 1 t.2.1 (aE t.1)) (fun t=>a.length-t.1.length) ([],.nils,.nil)
  ⟨by simp; omega,rfl,.nil⟩ ?_ PH.nil_le ?_
 ·unfold KO
  (repeat' (first|exact PF.nil_le|refine PF.aA ?_ ?_))<;>first|(simp -implicitDefEqProofs only[go_sem,γ,reduceCtorEq,bhR]<;>rfl)|rfl
 rintro⟨P,v,H0⟩ ⟨hP,hD,hO⟩
 simp only at hP hD hO ⊢
 simp -implicitDefEqProofs only[go_sem,γ,reduceCtorEq,aiK,axI,KO]
 have hlimP:Lim P:=by rw[hD]; exact kC _ _
 by_cases c1:z+P.length<a.length
 ·have c1':((z+P.length:Nat):Int)<(a.length:Nat):=by omega
  have hai:=ha _ (bgA c1)
  have hax:=bJ a c1
  have hkl:P.length≤(a.drop z).length:=by rw[bhQ]; omega
  have hvd:=qZ hLd hkl
  have hdrop:(a.drop z).drop P.length=a[z+P.length]::a.drop (z+P.length+1):=by
   rw[List.drop_drop,bhP c1]
  generalize hx:a[z+P.length]=x at *
  have ex:IntKind.u64.wrap ((x:Nat):Int)=((x:Nat):Int):=aZ (by omega)
  have hb1:(1:Nat)*1≤16777216:=by decide
  have ew:IntKind.i64.wrap (((z+P.length:Nat):Int)+1)=((z+P.length+1:Nat):Int):=aN (by omega)
  have fin:∀ (t:Nat) (F:PF),t<18446744073709551616→val (a.drop z)/4294967296 ^ P.length%(4294967296*4294967296)=t→F 0=some (aF a)→F 1=some (.int .i64 n)→F 5=some v→F 6=some (.int .i64 (z+P.length:Nat))→F 7=some (.int .u64 t) →
    ∀ K:cC,(∀ v' F2 H2,(KO a n v' (z+(P.length+1))).le F2→bB H2 1 v' (aE (P++[t/2 ^ s%4294967296]))→(P++[t/2 ^ s%4294967296])=cV (P.length+1) (val (a.drop z)/2 ^ s)→K .normal F2 H2) →
    aD.wp C (.region SJ) (eG 1 (jL C (aD.wp C (.region KP)) K)) F H0:=by
   intro t F ht hte f0 f1 f5 f6 f7 K hK
   have esh:shift .shr .u64 (t:Int) (s:Int)=some (.int .u64 ((t/2 ^ s:Nat):Int)):=a4O (by omega)
   simp -implicitDefEqProofs only[go_sem,μ,υ,γ,η,ζ,SJ,f5,f7,f1,em,eu,esh,bX,hb1]
   refine fB (src:=[[.int .u32 ((t/2 ^ s%4294967296:Nat):Int)]]) hO rfl (mY (by omega)) fun v' H' hO' _=>?_
   rw[mZ] at hO'
   simp -implicitDefEqProofs only[go_sem,γ,KP,f6,ew]
   refine hK v' _ H' ?_ hO' ?_
   ·unfold KO
    repeat' first|exact PF.nil_le|refine PF.aA ?_ ?_|rfl|assumption
   ·rw[rS,← hD]
    congr 2
    have e:val (a.drop z)/4294967296 ^ P.length=t%4294967296+4294967296*(t/4294967296+4294967296*(val (a.drop z)/4294967296 ^ P.length/(4294967296*4294967296))):=by
     have:=Nat.mod_add_div (val (a.drop z)/4294967296 ^ P.length) (4294967296*4294967296)
     rw[hte] at this
     have h2:=Nat.mod_add_div t 4294967296
     rw[bgC,← bhX,h2,← bgK]
     exact this.symm
    have:=OI hs e
    rw[this]
    congr 2
    have h2:=Nat.mod_add_div t 4294967296
    omega
  simp only[aD.wp,go_sem] at fin
  simp -implicitDefEqProofs only[go_sem,γ,reduceCtorEq,c1',axJ,hax,ex,axK,ew]
  by_cases c2:z+P.length+1<a.length
  ·have c2':((z+P.length+1:Nat):Int)<(a.length:Nat):=by omega
   have hai2:=ha _ (bgA c2)
   have hax2:=bJ a c2
   rw[bhP c2] at hdrop
   generalize hy:a[z+P.length+1]=y at *
   have ey:IntKind.u64.wrap ((y:Nat):Int)=((y:Nat):Int):=aZ (by omega)
   have esh:shift .shl .u64 (y:Int) ((32:Nat):Int)=some (.int .u64 ((2 ^ 32*y:Nat):Int)):=DZ (by decide) (by omega)
   have eor:=orI (a:=x) (b:=2 ^ 32*y) (n:=x+2 ^ 32*y) (by omega) (by omega) (atX (by omega) (by omega)) (by omega)
   simp -implicitDefEqProofs only[go_sem,γ,reduceCtorEq,c2',axL,ew,hax2,ey,show shift .shl .u64 (y:Int) 32=_ from esh,eor]
   refine fin (x+2 ^ 32*y) _ (by omega) ?_ rfl rfl rfl rfl rfl _ ?_
   ·rw[← hvd,hdrop]
    simp only[val]
    omega
   ·intro v' F2 H2 e1 e2 e3
    refine aJ (α:=List Nat × PV × PH) (P++[(x+2 ^ 32*y)/2 ^ s%4294967296],v',H2) ⟨by simp; omega,by simpa using e3,e2⟩ (by simp; omega) ?_ PH.le_refl
    simp only[bfW,bfZ]
    exact e1
  ·have c2':¬ ((z+P.length+1:Nat):Int)<(a.length:Nat):=by omega
   rw[bjA (l:=a) (i:=z+P.length+1) (by omega)] at hdrop
   simp -implicitDefEqProofs only[go_sem,c2']
   refine fin x _ (by omega) ?_ rfl rfl rfl rfl rfl _ ?_
   ·rw[← hvd,hdrop]
    simp only[val]
    omega
   ·intro v' F2 H2 e1 e2 e3
    refine aJ (α:=List Nat × PV × PH) (P++[x/2 ^ s%4294967296],v',H2) ⟨by simp; omega,by simpa using e3,e2⟩ (by simp; omega) ?_ PH.le_refl
    simp only[bfW,bfZ]
    exact e1
 ·have e:z+P.length=a.length:=by omega
  have c1':¬ ((z+P.length:Nat):Int)<(a.length:Nat):=by omega
  have hV:val P=val (a.drop z)/2 ^ s:=by
   rw[hD]
   refine lM (Nat.lt_of_le_of_lt (biS _ _) ?_)
   have:=eD hLd
   rw[bhQ] at this
   rw[show P.length=a.length-z by omega]
   exact this
  have hs:=L.trim _ hlimP (by omega)
  rw[hV,← hR] at hs
  simp -implicitDefEqProofs only[go_sem,γ,reduceCtorEq,c1',aiL]
  refine qJ hs hO rfl fun F1 H1 _=>?_
  simp -implicitDefEqProofs only[go_sem]
  exact aW (.inr rfl) .nil rfl PH.nil_le ⟨.refl _,rfl⟩
end Go.PM
namespace Go.PM
open Go Go.Na
structure FX (C:Ctx):Prop extends aNC C where
 bits:∀ xs,Lim xs→xs.length≤16777216→aI C 31 [aF xs] .nil (aL (.int .i64 (cA (val xs):Nat)))
 upM:∀ (a:List Nat) (n:Nat),Lim a→a.length≤8388608→n≤8388608→(a.length=0→val a=0)→aI C 45 [aF a,.int .i64 n] .nil (kD 1 (aE (aG (val a*2 ^ n))))
 down:∀ (a:List Nat) (n:Nat),Lim a→a.length≤8388608→n≤1000000000→aI C 40 [aF a,.int .i64 n] .nil (aL (aF (aG (val a/2 ^ n))))
def udS:Spec:=fun name vs=>match name,vs with
 | 35,[.int _ v]=>some ([],fun _=>aL (aF (aG v.toNat)))
 | 44,[x,y]=>some ([],fun _=>aL (aF (aG (val (jD x)*val (jD y)))))
 | 32,[x,.osl q _ _ _]=>some ([q],fun H0 r H'=>H'=H0∧∀ xs,Lim xs→H0 q=some (.rows 1 (aE xs))→r=.int .i64 (dD (val (jD x)) (val xs)))
 | _,_=>none
theorem aXC (v:Nat):udS 35 [.int .u64 v]=some ([],fun _=>aL (aF (aG v))):=rfl
theorem aRW (x y:List Nat):udS 44 [aF x,aF y]=some ([],fun _=>aL (aF (aG (val x*val y)))):=by
 show some ([],fun _=>aL (aF (aG (val (jD (aF x))*val (jD (aF y))))))=_; rw[eH,eH]
theorem aTD (q:Nat) (x L:List Nat):(PH.nil.set q (.rows 1 (aE L)))=(PH.nil.set q (.rows 1 (aE L)))∧∀ xs,Lim xs→(PH.nil.set q (.rows 1 (aE L))) q=some (.rows 1 (aE xs))→(PV.int .i64 (dD (val x) (val L)))=.int .i64 (dD (val (jD (aF x))) (val xs)):=by
 refine⟨rfl,fun xs hx e=>?_⟩
 rw[gS] at e
 have:aE L=aE xs:=(bV.rows.inj (biA.inj e)).2
 rw[IJ this,eH]
def duF (n o lx:Nat) (y:List Nat) (top oq lq:Nat) (k:Int):PF :=
 ((((((PF.nil.set 10 (.int .i64 n)).set 11 (.osl o 1 0 lx)).set 12 (aF y)).set 13 (.int .u64 top)).set 14 (.osl oq 1 0 lq)).set 15 (.int .i64 k))
abbrev cX (X:List Nat) (Z:List (List PV)):List (List PV):=aE X++Z
theorem FI {X:List Nat} {Z:List (List PV)} {i:Nat} (h:i<X.length):(cX X Z)[i]?=some [.int .u32 ((X[i]:Nat):Int)]:=by
 rw[cX,biP (by rw[bQ]; exact h),bJ X h]
theorem ajH {X:List Nat} {Z:List (List PV)} {i:Nat} (h:i<X.length) (v:Nat):(cX X Z).set i [.int .u32 (v:Int)]=cX (X.set i v) Z:=by
 rw[cX,List.set_append_left _ _ (by rw[bQ]; exact h),eP]
theorem ajG {X:List Nat} {Z:List (List PV)} {j m:Nat} (h:j+m≤X.length):((cX X Z).drop j).take m=aE ((X.drop j).take m):=by
 rw[cX,List.drop_append_of_le_length (by rw[bQ]; omega),List.take_append_of_le_length (by rw[bhQ,bQ]; omega)]
 unfold aE
 rw[← List.map_drop,← List.map_take]
theorem a4T {C:Ctx} (L:FX C) (n o lx:Nat) (y:List Nat) (top oq lq j:Nat) (X:List Nat) (Z:List (List PV)) (hne:oq≠o) (hy:Lim y) (hX:Lim X) (hlx:X.length=lx) (hl:lx≤5000) (hj:j+(y.length+1)≤lx) (hy0:0<val y)
  (qv:bV) (g0:Nat) (hg:val ((X.drop j).take (y.length+1))/val y≤g0) (hg0:g0<4294967296) (K:cC) (F:PF) (H:PH) (hF:((duF n o lx y top oq lq j).set 17 (.int .u64 g0)).le F) (hH:((PH.nil.set o (.rows 1 (cX X Z))).set oq qv).le H)
  (hK:∀ F' H',((duF n o lx y top oq lq j).set 17 (.int .u64 (val ((X.drop j).take (y.length+1))/val y:Nat))).le F'→((PH.nil.set o (.rows 1 (cX X Z))).set oq qv).le H'→K .normal F' H') :
  aD.wp C (.block 4 (.loop rK)) K F H:=by
 have hne':¬ o=oq:=fun h=>hne h.symm
 have hWl:((X.drop j).take (y.length+1)).length=y.length+1:=by rw[bgJ,bhQ]; omega
 have hWL:Lim ((X.drop j).take (y.length+1)):=(hX.drop _).take _
 have hcut:=ajG (X:=X) (Z:=Z) (j:=j) (m:=y.length+1) (by omega)
 have hoff:j+(y.length+1)≤(cX X Z).length:=by rw[cX,bfW,bQ]; omega
 have hWn:aE ((X.drop j).take (y.length+1))≠[]:=fun h=>by
  have:=congrArg List.length h
  rw[bQ,hWl] at this
  simp at this
 generalize hW:(X.drop j).take (y.length+1)=W at *
 generalize hqq:val W/val y=qq at *
 simp -implicitDefEqProofs only[go_sem]
 refine wp_loop (α:=Nat) (fun g=>(duF n o lx y top oq lq j).set 17 (.int .u64 g)) (fun _=>(PH.nil.set o (.rows 1 (cX X Z))).set oq qv) (fun g=>qq≤g∧g<4294967296) (fun g=>g) g0 ⟨hg,hg0⟩ hF hH ?_
 rintro g ⟨hge,hlt⟩
 have e1:IntKind.i64.wrap ((j:Int)+((y.length:Nat):Int))=((j+y.length:Nat):Int):=fH (by omega)
 have e2:IntKind.i64.wrap (((j+y.length:Nat):Int)+1)=((j+y.length+1:Nat):Int):=aN (by omega)
 have b1:(j:Int)≤((j+y.length+1:Nat):Int):=by omega
 have b2:((j+y.length+1:Nat):Int)≤(lx:Nat):=by omega
 have b3:j+y.length+1-j=y.length+1:=by omega
 have mk:=L.make g (by omega)
 have tm:=L.times y (aG g) hy (bE _) (by omega) (by
  have h1:nl g≤1:=mI (by rw[Nat.pow_one]; exact hlt)
  rw[bH]; omega)
 rw[aY] at tm
 have hnt:(aG (val y*g)).length≤16777216:=by
  have h1:nl g≤1:=mI (by rw[Nat.pow_one]; exact hlt)
  have h2:=sB (a:=val y) (b:=g) (eO hy) h1
  rw[bH]; omega
 have cm:=L.cmp (aG (val y*g)) W (bE _) hWL hnt (by omega)
 rw[aY] at cm
 simp -implicitDefEqProofs only[go_sem,rK]
 refine cD .nil udS PH.nil_le ?_
 simp -implicitDefEqProofs only[go_sem,γ,OW,duF]
 refine cU (aXC g) mk (by simp -implicitDefEqProofs only[go_sem,γ]) PH.nil_le ?_
 simp -implicitDefEqProofs only[go_sem]
 have tS:=aRW y (aG g)
 rw[aY] at tS
 refine cU tS tm (by simp -implicitDefEqProofs only[go_sem,γ]) PH.nil_le ?_
 simp -implicitDefEqProofs only[go_sem,γ,reduceCtorEq,bfT,e1,e2,b1,b2,b3]
 refine vJ (src:=aE W) ?_ ?_ (fun h=>absurd h hWn) fun _ o' ho'=>?_
 ·simp -implicitDefEqProofs only[go_sem,hne',hoff,hcut]
 ·unfold roomFor
  rw[bQ,hWl]
  simp only[maxLen]; omega
 refine⟨PH.nil_le,?_⟩
 rw[bQ,hWl]
 have n1:¬ o'=oq:=(fW.1 ho').1
 refine aTF (o:=o') (s:=1) (rs:=aE W) (vs:=[aF (aG (val y*g)),.osl o' 1 0 (y.length+1)]) (v:=.int .i64 (dD (val y*g) (val W))) rfl (.int _ _) (by simp -implicitDefEqProofs only[go_sem]) ?_ ?_ ?_ (by simp -implicitDefEqProofs only[go_sem,γ]) PH.nil_le ?_
 ·rw[bhA,bhA,bhV,zW (by rw[bQ,hWl]; exact bfX _),bgH (by rw[bQ,hWl]; exact bfX _)]
  exact cm
 ·have:=aTD o' (aG (val y*g)) W
  rw[aY] at this
  exact this
 ·rintro r H' ⟨h1,h2⟩
  have:=h2 W hWL (by rw[gS])
  rw[eH,aY] at this
  exact⟨this,h1⟩
 simp -implicitDefEqProofs only[go_sem,γ]
 by_cases c:val W<val y*g
 ·have hc:dD (val y*g) (val W)=1:=by
   unfold dD
   rw[if_neg (by omega),if_pos c]
  have hq:qq<g:=by rw[← hqq]; exact (biJ hy0).2 (by rw[bgO]; exact c)
  have ew:IntKind.u64.wrap ((g:Int)-1)=((g-1:Nat):Int):=by rw[wrap_u64 (by omega) (by omega)]; omega
  simp -implicitDefEqProofs only[go_sem,γ,hc,show (1:Int)>0 by decide,OX,ew]
  refine aJ (g-1) ⟨by omega,by omega⟩ (by omega) ?_ ?_
  ·(repeat' (first|exact PF.nil_le|refine PF.aA ?_ ?_))<;>first|(simp -implicitDefEqProofs only[go_sem,γ]<;>rfl)|rfl
  ·refine PH.aA (PH.aA PH.nil_le ?_) ?_
   ·have n2:¬ o=o':=fun h=>by
     subst h
     rw[aV,if_neg hne',gS] at ho'
     cases ho'
    simp -implicitDefEqProofs only[go_sem,n2,hne']
   ·have n3:¬ oq=o':=fun h=>n1 h.symm
    simp -implicitDefEqProofs only[go_sem,n3]
 ·have hc:¬ dD (val y*g) (val W)>0:=by
   unfold dD
   rw[if_neg c]
   split<;>decide
  have hq:g=qq:=by
   have:g≤qq:=by rw[← hqq]; exact (Nat.le_div_iff_mul_le hy0).2 (by rw[bgO]; omega)
   omega
  simp -implicitDefEqProofs only[go_sem,hc]
  refine hK _ _ ?_ ?_
  ·unfold duF
   (repeat' (first|exact PF.nil_le|refine PF.aA ?_ ?_))<;>first|(simp -implicitDefEqProofs only[go_sem,γ,← hq]<;>rfl)|rfl
  ·refine PH.aA (PH.aA PH.nil_le ?_) ?_
   ·have n2:¬ o=o':=fun h=>by
     subst h
     rw[aV,if_neg hne',gS] at ho'
     cases ho'
    simp -implicitDefEqProofs only[go_sem,n2,hne']
   ·have n3:¬ oq=o':=fun h=>n1 h.symm
    simp -implicitDefEqProofs only[go_sem,n3]
theorem a0I (R k:Nat) (h:k<nl R):∃ h':k<(aG R).length,(aG R)[k]=R/4294967296 ^ k%4294967296:=by
 have hl:k<(aG R).length:=by rw[bH]; exact h
 refine⟨hl,?_⟩
 have h1:=qZ (bE R) (Nat.le_of_lt hl)
 rw[aY,bhP hl] at h1
 have h2:=bE R _ (bgA hl)
 simp only[val] at h1
 rw[← h1,Nat.add_mul_mod_self_left,bgW h2]
theorem aUT (R k:Nat) (h:nl R≤k):R/4294967296 ^ k%4294967296=0:=by
 rw[biW ((gM R k).1 h)]
theorem a1L {A P W Z:List Nat} {i:Nat} (hP:P.length=i) (hi:i<W.length) (v:Nat):(A++(P++W.drop i)++Z).set (A.length+i) v=A++((P++[v])++W.drop (i+1))++Z :=
 IJ (by rw[← eP]; exact AI hP hi v)
theorem a7D {C:Ctx} (n o lx:Nat) (y:List Nat) (top oq lq j:Nat) (X:List Nat) (Z:List (List PV)) (hne:oq≠o) (hlx:X.length=lx) (hl:lx≤5000) (hj:j+(y.length+1)≤lx)
  (qv:bV) (g R:Nat) (K:cC) (F:PF) (H:PH) (hF:((((duF n o lx y top oq lq j).set 17 (.int .u64 g)).set 18 (aF (aG R))).set 19 (.int .i64 0)).le F) (hH:((PH.nil.set o (.rows 1 (cX X Z))).set oq qv).le H)
  (hK:∀ F' H',((duF n o lx y top oq lq j).set 17 (.int .u64 g)).le F'→((PH.nil.set o (.rows 1 (cX (X.take j++cV (y.length+1) R++X.drop (j+(y.length+1))) Z))).set oq qv).le H'→K .normal F' H') :
  aD.wp C (.block 6 (.loop rL)) K F H:=by
 have hne':¬ o=oq:=fun h=>hne h.symm
 have hA:(X.take j).length=j:=by rw[bgJ]; omega
 have hWl:((X.drop j).take (y.length+1)).length=y.length+1:=by rw[bgJ,bhQ]; omega
 have hZl:(X.drop (j+(y.length+1))).length=lx-(j+(y.length+1)):=by rw[bhQ,hlx]
 have hsplit:X.take j++(X.drop j).take (y.length+1)++X.drop (j+(y.length+1))=X:=by
  rw[bgY,← List.drop_drop,biC,biC]
 rw[← hsplit] at hH
 generalize hAA:X.take j=A at *
 generalize hWW:(X.drop j).take (y.length+1)=W at *
 generalize hZZ:X.drop (j+(y.length+1))=Zx at *
 simp -implicitDefEqProofs only[go_sem]
 refine wp_loop (α:=List Nat) (fun P=>(((duF n o lx y top oq lq j).set 17 (.int .u64 g)).set 18 (aF (aG R))).set 19 (.int .i64 P.length)) (fun P=>(PH.nil.set o (.rows 1 (cX (A++(P++W.drop P.length)++Zx) Z))).set oq qv)
  (fun P=>P.length≤y.length+1∧P=cV P.length R) (fun P=>y.length+1-P.length) [] ⟨bgE _,rfl⟩ hF (by simpa using hH) ?_
 rintro P ⟨hP,hD⟩
 simp -implicitDefEqProofs only[go_sem,γ,rL,OY,duF]
 by_cases c:P.length<y.length+1
 ·have c':(P.length:Int)≤(y.length:Nat):=by omega
  have ei:IntKind.i64.wrap ((j:Int)+(P.length:Int))=((j+P.length:Nat):Int):=fH (by omega)
  have hlen:(A++(P++W.drop P.length)++Zx).length=lx:=by
   simp only[bfW,bhQ]; omega
  have hi:j+P.length<(A++(P++W.drop P.length)++Zx).length:=by omega
  have b1:((j+P.length:Nat):Int)<(lx:Nat):=by omega
  have r1:=FI (Z:=Z) hi
  have s1:=ajH (Z:=Z) hi 0
  have hi2:j+P.length<((A++(P++W.drop P.length)++Zx).set (j+P.length) 0).length:=by rw[bhO]; exact hi
  have hput:=fun v=>a1L (A:=A) (P:=P) (W:=W) (Z:=Zx) (i:=P.length) rfl (by omega) v
  rw[hA] at hput
  generalize hXX:A++(P++W.drop P.length)++Zx=XX at *
  have r2:(cX (A++((P++[0])++W.drop (P.length+1))++Zx) Z)[j+P.length]?=some [.int .u32 ((0:Nat):Int)]:=by
   rw[← hput 0,FI hi2,List.getElem_set_self]
  have s2:∀ v,(cX (A++((P++[0])++W.drop (P.length+1))++Zx) Z).set (j+P.length) [.int .u32 ((v:Nat):Int)]=cX (A++((P++[v])++W.drop (P.length+1))++Zx) Z:=by
   intro v
   rw[← hput 0,ajH hi2,List.set_set,hput]
  have hnext:=rS P.length R
  rw[← hD] at hnext
  have ew:IntKind.i64.wrap ((P.length:Int)+1)=((P.length+1:Nat):Int):=aN (by omega)
  simp -implicitDefEqProofs only[go_sem,γ,c',OZ,ei,b1,hne',r1,show ([PV.int .u32 (0:Int)])=[PV.int .u32 ((0:Nat):Int)] from rfl,s1,PA,bH]
  by_cases c2:P.length<nl R
  ·have c2':(P.length:Int)<(nl R:Nat):=by omega
   obtain⟨hl',hv⟩:=a0I R P.length c2
   have hr:=bJ (aG R) hl'
   rw[hv] at hr
   simp -implicitDefEqProofs only[go_sem,γ,c2',PB,hr,ei,b1,hne',r2,s2,List.set_set,hput,zE,ew]
   refine aJ (P++[R/4294967296 ^ P.length%4294967296]) ⟨by simp; omega,by rw[bfW,bfZ]; exact hnext.symm⟩ (by simp; omega) ?_ ?_
   ·rw[bfW,bfZ]
    (repeat' (first|exact PF.nil_le|refine PF.aA ?_ ?_))<;>first|(simp -implicitDefEqProofs only[go_sem,γ]<;>rfl)|rfl
   ·rw[bfW,bfZ]
    refine PH.aA (PH.aA PH.nil_le ?_) ?_<;>simp -implicitDefEqProofs only[go_sem,hne',show ¬ oq=o from hne]
  ·have c2':¬ (P.length:Int)<(nl R:Nat):=by omega
   have hv:=aUT R P.length (by omega)
   rw[hv] at hnext
   simp -implicitDefEqProofs only[go_sem,γ,c2',hput,zE,ew]
   refine aJ (P++[0]) ⟨by simp; omega,by rw[bfW,bfZ]; exact hnext.symm⟩ (by simp; omega) ?_ ?_
   ·rw[bfW,bfZ]
    (repeat' (first|exact PF.nil_le|refine PF.aA ?_ ?_))<;>first|(simp -implicitDefEqProofs only[go_sem,γ]<;>rfl)|rfl
   ·rw[bfW,bfZ]
    refine PH.aA (PH.aA PH.nil_le ?_) ?_<;>simp -implicitDefEqProofs only[go_sem,hne',show ¬ oq=o from hne]
 ·have c':¬ (P.length:Int)≤(y.length:Nat):=by omega
  have e:P.length=y.length+1:=by omega
  simp -implicitDefEqProofs only[go_sem,c']
  refine hK _ _ (by unfold duF; (repeat' (first|exact PF.nil_le|refine PF.aA ?_ ?_))<;>first|(simp -implicitDefEqProofs only[go_sem,γ]<;>rfl)|rfl) ?_
  have h2:A++cV (y.length+1) R++Zx=A++(P++W.drop P.length)++Zx:=by
   rw[bjA (by omega),bhN,← e,← hD]
  rw[h2]
  exact PH.le_refl
end Go.PM
namespace Go.PM
open Go Go.Na
theorem aUG {y W:List Nat} {m:Nat} (hy:Lim y) (hW:Lim W) (hly:y.length=m+1) (hlW:W.length=m+2) (ht:0<y[m]):val W/val y≤(4294967296*W[m+1]+W[m])/y[m]:=by
 have h1:=bT y (show m<y.length by omega)
 rw[bgH (by omega)] at h1
 have h2:=bT W (show m+1<W.length by omega)
 rw[bgH (by omega),bT W (show m<W.length by omega)] at h2
 have h3:=eD (hW.take m)
 rw[bgJ,bhT (by omega)] at h3
 have hp:0<4294967296 ^ m:=biE (by decide)
 have hb:4294967296 ^ m*y[m]≤val y:=by omega
 have hpos:0<4294967296 ^ m*y[m]:=Nat.mul_pos hp ht
 have e:val W=val (W.take m)+4294967296 ^ m*(4294967296*W[m+1]+W[m]):=by
  rw[h2,bhH,bgC,bgK]; omega
 refine biK (Nat.div_le_div_left hb hpos) ?_
 rw[← Nat.div_div_eq_div_mul,e,Nat.add_mul_div_left _ _ hp,biW h3,bgQ]
 exact bfX _
theorem aRX {C:Ctx} (L:FX C) (U0 n o lx lq oq m:Nat) (y z:List Nat) (hne:oq≠o) (hy:Lim y) (hly:y.length=m+1) (ht:0<y[m]) (hlu:lx=lq+(m+1)) (hmax:lx≤5000) (X:List Nat) (hI:mB U0 (val y) (m+1) lx lq lq X (bfV lq 0)) (K:cC) (F:PF) (H:PH)
  (hF:(duF n o lx y (y[m]) oq lq ((lq:Int)-1)).le F) (hH:((PH.nil.set o (.rows 1 (cX X (aE z)))).set oq (.rows 1 (aE (bfV lq 0)))).le H)
  (hK:∀ X' Q' F' H',mB U0 (val y) (m+1) lx lq 0 X' Q'→(duF n o lx y (y[m]) oq lq (-1)).le F'→((PH.nil.set o (.rows 1 (cX X' (aE z)))).set oq (.rows 1 (aE Q'))).le H'→K .normal F' H') :
  aD.wp C (.block 2 (.loop rM)) K F H:=by
 have hne':¬ o=oq:=fun h=>hne h.symm
 have hne2:¬ oq=o:=hne
 have hV:val y<4294967296 ^ (m+1):=by have:=eD hy; rw[hly] at this; exact this
 have hV0:0<val y:=by
  have h1:=bT y (show m<y.length by omega)
  rw[bgH (by omega)] at h1
  have:0<4294967296 ^ m*y[m]:=Nat.mul_pos (biE (by decide)) ht
  omega
 have htl:=hy _ (bgA (show m<y.length by omega))
 generalize htop:y[m]=top at *
 simp -implicitDefEqProofs only[go_sem]
 refine wp_loop (α:=Nat × List Nat × List Nat) (fun t=>duF n o lx y top oq lq ((t.1:Int)-1)) (fun t=>(PH.nil.set o (.rows 1 (cX t.2.1 (aE z)))).set oq (.rows 1 (aE t.2.2)))
  (fun t=>t.1≤lq∧mB U0 (val y) (m+1) lx lq t.1 t.2.1 t.2.2) (fun t=>t.1) (lq,X,bfV lq 0) ⟨bfX _,hI⟩ hF hH ?_
 rintro⟨k,X,Q⟩ ⟨hk,hI⟩
 simp only at hk hI
 simp -implicitDefEqProofs only[go_sem,γ,rM,OR,duF]
 by_cases h0:0<k
 ·obtain⟨j,rfl⟩:∃ j,k=j+1:=⟨k-1,by omega⟩
  have hz:((j+1:Nat):Int)-1=(j:Int):=by omega
  have hge:(j:Int)≥0:=by omega
  have dst:=alJ hI hV (by omega) hlu
  rw[show m+1+1=m+2 from rfl] at dst
  obtain⟨hlt,hI'⟩:=dst
  have hXl:=hI.lu'
  have hQl:=hI.lq'
  have hWl:((X.drop j).take (m+2)).length=m+2:=by rw[bgJ,bhQ]; omega
  have hWL:Lim ((X.drop j).take (m+2)):=(hI.limU.drop _).take _
  have hg1:m+1<((X.drop j).take (m+2)).length:=by omega
  have hg0:m<((X.drop j).take (m+2)).length:=by omega
  have a1:j+(m+1)<X.length:=by omega
  have a0:j+m<X.length:=by omega
  have w1:((X.drop j).take (m+2))[m+1]=X[j+(m+1)]:=by simp
  have w0:((X.drop j).take (m+2))[m]=X[j+m]:=by simp
  have hgu:=aUG hy hWL hly hWl (by rw[htop]; exact ht)
  rw[w1,w0,htop] at hgu
  have r1:=FI (Z:=aE z) a1
  have r0:=FI (Z:=aE z) a0
  have l1:=hI.limU _ (bgA a1)
  have l0:=hI.limU _ (bgA a0)
  generalize hx1:X[j+(m+1)]=x1 at *
  generalize hx0:X[j+m]=x0 at *
  have e1:IntKind.i64.wrap ((j:Int)+((y.length:Nat):Int))=((j+(m+1):Nat):Int):=by rw[hly]; exact fH (by omega)
  have e0:IntKind.i64.wrap (((j+(m+1):Nat):Int)-1)=((j+m:Nat):Int):=by rw[wrap_i64 (by omega) (by omega)]; omega
  have b1:((j+(m+1):Nat):Int)<(lx:Nat):=by omega
  have b0:((j+m:Nat):Int)<(lx:Nat):=by omega
  have ex1:IntKind.u64.wrap ((x1:Nat):Int)=((x1:Nat):Int):=aZ (by omega)
  have ex0:IntKind.u64.wrap ((x0:Nat):Int)=((x0:Nat):Int):=aZ (by omega)
  have esh:shift .shl .u64 (x1:Int) 32=some (.int .u64 ((2 ^ 32*x1:Nat):Int)):=DZ (s:=32) (by omega) (by omega)
  have e32:(2:Nat) ^ 32=4294967296:=by decide
  have eor:=orI (a:=2 ^ 32*x1) (b:=x0) (n:=2 ^ 32*x1+x0) (by omega) (by omega) (Nat.two_pow_add_eq_or_of_lt (by omega) x1).symm (by omega)
  rw[e32] at esh eor
  have hdd:¬ ((top:Nat):Int)=0:=by omega
  have hq64:(4294967296*x1+x0)/top<18446744073709551616:=Nat.lt_of_le_of_lt (biS _ _) (by omega)
  have equo:IntKind.u64.wrap (Int.tdiv ((4294967296*x1+x0:Nat):Int) ((top:Nat):Int))=(((4294967296*x1+x0)/top:Nat):Int):=by
   rw[show Int.tdiv ((4294967296*x1+x0:Nat):Int) ((top:Nat):Int)=(((4294967296*x1+x0)/top:Nat):Int) from rfl]
   exact aZ hq64
  have hqB:val ((X.drop j).take (m+2))/val y<4294967296:=(biJ hV0).2 (by rw[bgO]; exact hlt)
  have hcut:=ajG (X:=X) (Z:=aE z) (j:=j) (m:=m+2) (by omega)
  have hoff:j+(m+2)≤(cX X (aE z)).length:=by rw[cX,bfW,bQ]; omega
  have hrest:val ((X.drop j).take (m+2))-val y*(val ((X.drop j).take (m+2))/val y)=val ((X.drop j).take (m+2))%val y:=by
   have:=biV (val ((X.drop j).take (m+2))) (val y)
   omega
  have hmulle:val y*(val ((X.drop j).take (m+2))/val y)≤val ((X.drop j).take (m+2)):=Nat.mul_div_le _ _
  clear w1 w0
  have gu:=fun g0=>a4T (C:=C) L n o lx y top oq lq j X (aE z) hne hy hI.limU hXl hmax (by omega) hV0 (.rows 1 (aE Q)) g0
  rw[hly,show m+1+1=m+2 from rfl] at gu
  generalize hW:(X.drop j).take (m+2)=W at *
  generalize hqq:val W/val y=qq at *
  have hWn:aE W≠[]:=fun h=>by
   have:=congrArg List.length h
   rw[bQ,hWl] at this
   simp at this
  have tail:∀ (g0:Nat) (F:PF) (H:PH),qq≤g0→g0<4294967296→((duF n o lx y top oq lq j).set 17 (.int .u64 g0)).le F→((PH.nil.set o (.rows 1 (cX X (aE z)))).set oq (.rows 1 (aE Q))).le H →
    aD.wp C (.seq (.block 4 (.loop rK)) (.seq (.region zC) (.seq (.seq (.region zD) (.block 6 (.loop rL))) (.region zF)))) (eG 3 (jL C (aD.wp C (.region zG)) (fQ (fun (t:Nat × List Nat × List Nat)=>duF n o lx y top oq lq ((t.1:Int)-1)) (fun t=>(PH.nil.set o (.rows 1 (cX t.2.1 (aE z)))).set oq (.rows 1 (aE t.2.2))) (fun t=>t.1≤lq∧mB U0 (val y) (m+1) lx lq t.1 t.2.1 t.2.2) (fun t=>t.1) (j+1) (eG 2 K)))) F H:=by
   intro g0 F H hg hgB hF hH
   have gu:=gu g0 hg hgB
   simp -implicitDefEqProofs only[go_sem] at gu
   simp -implicitDefEqProofs only[go_sem]
   refine gu _ F H hF hH ?_
   intro F1 H1 hF1 hH1
   have f11:F1 11=some (.osl o 1 0 lx):=hF1 11 _ (by unfold duF; simp -implicitDefEqProofs only[go_sem,γ])
   have f12:F1 12=some (aF y):=hF1 12 _ (by unfold duF; simp -implicitDefEqProofs only[go_sem,γ])
   have f15:F1 15=some (.int .i64 j):=hF1 15 _ (by unfold duF; simp -implicitDefEqProofs only[go_sem,γ])
   have f17:F1 17=some (.int .u64 (qq:Nat)):=hF1 17 _ (by unfold duF; simp -implicitDefEqProofs only[go_sem,γ])
   have f10:F1 10=some (.int .i64 n):=hF1 10 _ (by unfold duF; simp -implicitDefEqProofs only[go_sem,γ])
   have f13:F1 13=some (.int .u64 top):=hF1 13 _ (by unfold duF; simp -implicitDefEqProofs only[go_sem,γ])
   have f14:F1 14=some (.osl oq 1 0 lq):=hF1 14 _ (by unfold duF; simp -implicitDefEqProofs only[go_sem,γ])
   have ho:H1 o=some (.rows 1 (cX X (aE z))):=hH1 o _ (by simp -implicitDefEqProofs only[go_sem,hne'])
   have hoq:H1 oq=some (.rows 1 (aE Q)):=hH1 oq _ (by simp -implicitDefEqProofs only[go_sem])
   have b3:(j:Int)≤((j+(m+1)+1:Nat):Int):=by omega
   have b4:((j+(m+1)+1:Nat):Int)≤(lx:Nat):=by omega
   have b5:j+(m+1)+1-j=m+2:=by omega
   have e2:IntKind.i64.wrap (((j+(m+1):Nat):Int)+1)=((j+(m+1)+1:Nat):Int):=aN (by omega)
   simp -implicitDefEqProofs only[go_sem,γ,reduceCtorEq,zC,f11,f15,f12,bfT,e1,e2,b3,b4,b5]
   refine vJ (src:=aE W) ?_ ?_ (fun h=>absurd h hWn) fun _ o' ho'=>?_
   ·simp -implicitDefEqProofs only[go_sem,ho,hoff,hcut]
   ·unfold roomFor
    rw[bQ,hWl]
    simp only[maxLen]; omega
   rw[bQ,hWl]
   have n1:¬ oq=o':=fun h=>by subst h; rw[hoq] at ho'; cases ho'
   have n2:¬ o=o':=fun h=>by subst h; rw[ho] at ho'; cases ho'
   have nq:nl qq≤1:=mI (by rw[Nat.pow_one]; exact hqB)
   have tm:=L.times y (aG qq) hy (bE _) (by omega) (by rw[bH]; omega)
   rw[aY] at tm
   have nW:=eO hWL
   have mn:=L.minus W (aG (val y*qq)) hWL (bE _) (by rw[aY]; exact hmulle) (by rw[bH]; exact biK (gK hmulle) nW) (by omega)
   rw[aY,hrest] at mn
   have hWt:(aE W).take (m+2)=aE W:=bgH (by rw[bQ]; omega)
   simp -implicitDefEqProofs only[go_sem,f17]
   refine aB (L.make qq (by omega)) (by simp -implicitDefEqProofs only[go_sem,γ]) ?_
   simp -implicitDefEqProofs only[go_sem,f12]
   refine aB tm (by simp -implicitDefEqProofs only[go_sem,γ]) ?_
   simp -implicitDefEqProofs only[go_sem]
   refine nO (o:=o') (s:=1) (rs:=aE W) mn (by simp -implicitDefEqProofs only[go_sem]) (by simp -implicitDefEqProofs only[go_sem,γ,show m+2≤W.length by omega,hWt]) ?_
   simp -implicitDefEqProofs only[go_sem,γ,zD]
   have hfx:(cX X (aE z)).map (fun r=>r.map (PV.cR o' 1 (aE W)))=cX X (aE z):=by
    have:cX X (aE z)=aE (X++z):=by simp[cX,aE]
    rw[this]; exact oQ _ _ _ _
   have hfq:(aE Q).map (fun r=>r.map (PV.cR o' 1 (aE W)))=aE Q:=oQ _ _ _ _
   have ur:=a7D (C:=C) n o lx y top oq lq j X (aE z) hne hXl hmax (by omega) (.rows 1 (aE Q)) qq (val W%val y)
   rw[hly,show m+1+1=m+2 from rfl] at ur
   simp -implicitDefEqProofs only[go_sem] at ur
   refine ur _ _ _ ?_ ?_ ?_
   ·unfold duF
    (repeat' (first|exact PF.nil_le|refine PF.aA ?_ ?_))<;>first|(simp -implicitDefEqProofs only[go_sem,γ,f10,f11,f12,f13,f14,f15,f17,n1,n2]<;>rfl)|rfl
   ·refine PH.aA (PH.aA PH.nil_le ?_) ?_
    ·simp -implicitDefEqProofs only[go_sem,hne',n2,ho,bV.frz,hfx]
    ·simp -implicitDefEqProofs only[go_sem,n1,hoq,bV.frz,hfq]
   intro F3 H3 hF3 hH3
   have k10:F3 10=some (.int .i64 n):=hF3 10 _ (by unfold duF; simp -implicitDefEqProofs only[go_sem,γ])
   have k11:F3 11=some (.osl o 1 0 lx):=hF3 11 _ (by unfold duF; simp -implicitDefEqProofs only[go_sem,γ])
   have k12:F3 12=some (aF y):=hF3 12 _ (by unfold duF; simp -implicitDefEqProofs only[go_sem,γ])
   have k13:F3 13=some (.int .u64 top):=hF3 13 _ (by unfold duF; simp -implicitDefEqProofs only[go_sem,γ])
   have k14:F3 14=some (.osl oq 1 0 lq):=hF3 14 _ (by unfold duF; simp -implicitDefEqProofs only[go_sem,γ])
   have k15:F3 15=some (.int .i64 j):=hF3 15 _ (by unfold duF; simp -implicitDefEqProofs only[go_sem,γ])
   have k17:F3 17=some (.int .u64 qq):=hF3 17 _ (by unfold duF; simp -implicitDefEqProofs only[go_sem,γ])
   have ho3:H3 o=some (.rows 1 (cX (X.take j++cV (m+2) (val W%val y)++X.drop (j+(m+2))) (aE z))):=hH3 o _ (by simp -implicitDefEqProofs only[go_sem,hne'])
   have hq3:H3 oq=some (.rows 1 (aE Q)):=hH3 oq _ (by simp -implicitDefEqProofs only[go_sem])
   have hjq:j<Q.length:=by omega
   have rq:=bJ Q hjq
   have hjl:(j:Int)<(lq:Nat):=by omega
   have sq:=eP Q j qq
   have ec:IntKind.u32.wrap ((qq:Nat):Int)=((qq:Nat):Int):=by rw[bX,bgW hqB]
   have ej:IntKind.i64.wrap ((j:Int)-1)=(j:Int)-1:=wrap_i64 (by omega) (by omega)
   simp -implicitDefEqProofs only[go_sem,γ,zF,k14,k15,k17,hjl,hq3,rq,ec,sq,zG,ej]
   refine aJ (α:=Nat × List Nat × List Nat) (j,_,_) ⟨by simp only; omega,hI'⟩ (by simp only; omega) ?_ ?_
   ·unfold duF
    (repeat' (first|exact PF.nil_le|refine PF.aA ?_ ?_))<;>first|(simp -implicitDefEqProofs only[go_sem,γ,k10,k11,k12,k13,k14]<;>rfl)|rfl
   ·refine PH.aA (PH.aA PH.nil_le ?_) ?_
    ·simp -implicitDefEqProofs only[go_sem,hne',ho3]
    ·simp -implicitDefEqProofs only[go_sem]
  simp only[aD.wp,go_sem] at tail
  simp -implicitDefEqProofs only[go_sem,hz,hge]
  refine cD .nil dS PH.nil_le ?_
  simp -implicitDefEqProofs only[go_sem,γ,reduceCtorEq,OS,e1,e0,b1,b0,hne',r1,r0,ex1,ex0,esh,eor,OT,hdd,equo,OU]
  by_cases c:(4294967296*x1+x0)/top>4294967295
  ·have c':(((4294967296*x1+x0)/top:Nat):Int)>4294967295:=by omega
   simp -implicitDefEqProofs only[go_sem,c',OV]
   exact tail 4294967295 _ _ (by omega) (by decide) (by unfold duF; (repeat' (first|exact PF.nil_le|refine PF.aA ?_ ?_))<;>first|(simp -implicitDefEqProofs only[go_sem,γ]<;>rfl)|rfl) PH.le_refl
  ·have c':¬ (((4294967296*x1+x0)/top:Nat):Int)>4294967295:=by omega
   simp -implicitDefEqProofs only[go_sem,c']
   exact tail _ _ _ hgu (by omega) (by unfold duF; (repeat' (first|exact PF.nil_le|refine PF.aA ?_ ?_))<;>first|(simp -implicitDefEqProofs only[go_sem,γ]<;>rfl)|rfl) PH.le_refl
 ·have:k=0:=by omega
  subst this
  have hz:¬ ((0:Nat):Int)-1≥0:=by decide
  simp -implicitDefEqProofs only[go_sem,hz]
  refine hK X Q _ _ hI ?_ PH.le_refl
  unfold duF
  (repeat' (first|exact PF.nil_le|refine PF.aA ?_ ?_))<;>first|(simp -implicitDefEqProofs only[go_sem,ο,γ,show ((0:Nat):Int)-1=-1 from rfl]<;>rfl)|rfl
end Go.PM
namespace Go.PM
open Go Go.Na
def aXB (a:List Nat) (d q k r:Nat):PF:=(((((PF.nil.set 0 (aF a)).set 1 (aF [d])).set 6 (.osl q 1 0 a.length)).set 7 (.int .u64 r)).set 8 (.int .i64 ((k:Int)-1)))
theorem aMK {C:Ctx} (L:FX C) (a:List Nat) (d:Nat) (ha:Lim a) (hd0:0<d) (hd:d<4294967296) (h1:a.length≤1000) (F:PF) (f0:F 0=some (aF a)) (f1:F 1=some (aF [d])) :
  aD.wp C (.seq (.region EM) (.seq (.region EN) (.seq (.seq (.region EO) (.block 0 (.loop yW))) (.seq (.region yX) .ret)))) (aX [.tmp 4,.tmp 5] (bY (nG (val a) d))) F .nil:=by
 have hm1:((a.length:Nat):Int)*((4:Nat):Int)≤140737488355328:=by omega
 have hm2:((a.length:Nat):Int)≤9223372036854775807:=by omega
 have hz:bfV a.length [PV.int .u32 0]=aE (bfV a.length 0++[]):=by
  simp[aE]
 simp -implicitDefEqProofs only[go_sem,γ,EM,f0,bfT,hm1,hm2,hz]
 refine aP fun o ho=>?_
 simp -implicitDefEqProofs only[go_sem,γ,reduceCtorEq,EN,EO,f0,bfT]
 refine wp_loop (α:=Nat × List Nat × Nat) (fun t=>aXB a d o t.1 t.2.2) (fun t=>PH.nil.set o (.rows 1 (aE (bfV t.1 0++t.2.1))))
  (fun t=>t.1+t.2.1.length=a.length∧Lim t.2.1∧t.2.2<d∧val t.2.1*d+t.2.2=val (a.drop t.1)) (fun t=>t.1) (a.length,[],0) ⟨by simp,by simp[Lim],hd0,by simp[val]⟩ ?_ ?_ ?_
 ·unfold aXB
  (repeat' (first|exact PF.nil_le|refine PF.aA ?_ ?_))<;>first|(simp -implicitDefEqProofs only[go_sem,γ,reduceCtorEq,f0,f1,wrap_i64 (show -9223372036854775808≤((a.length:Nat):Int)-1 by omega) (show ((a.length:Nat):Int)-1≤9223372036854775807 by omega)]<;>rfl)|rfl
 ·exact PH.aA PH.nil_le (by simp -implicitDefEqProofs only[go_sem])
 rintro⟨k,S,r⟩ ⟨hk,hLim,hr,hval⟩
 simp only at hk hLim hr hval
 simp -implicitDefEqProofs only[go_sem,γ,reduceCtorEq,yW,YJ,aXB]
 by_cases h0:0<k
 ·obtain⟨m,rfl⟩:∃ m,k=m+1:=⟨k-1,by omega⟩
  have hzz:((m+1:Nat):Int)-1=(m:Int):=by omega
  have hge:(m:Int)≥0:=by omega
  have hml:m<a.length:=by omega
  have hlt:(m:Int)<(a.length:Nat):=by omega
  have hai:=ha _ (bgA hml)
  have hdrop:val (a.drop m)=a[m]+4294967296*val (a.drop (m+1)):=by rw[bhP hml]; rfl
  have hax:=bJ a hml
  generalize hx:a[m]=x at *
  have ex:IntKind.u64.wrap ((x:Nat):Int)=((x:Nat):Int):=aZ (by omega)
  have ed:IntKind.u64.wrap ((d:Nat):Int)=((d:Nat):Int):=aZ (by omega)
  have esh:shift .shl .u64 (r:Int) 32=some (.int .u64 ((2 ^ 32*r:Nat):Int)):=DZ (s:=32) (by omega) (by omega)
  have e32:(2:Nat) ^ 32=4294967296:=by decide
  have eor:=orI (a:=2 ^ 32*r) (b:=x) (n:=2 ^ 32*r+x) (by omega) (by omega) (Nat.two_pow_add_eq_or_of_lt (by omega) r).symm (by omega)
  rw[e32] at esh eor
  have hq:(4294967296*r+x)/d<4294967296:=by
   rw[biJ hd0]
   have:4294967296*(r+1)≤4294967296*d:=bhZ _ hr
   omega
  have hdd:¬ ((d:Nat):Int)=0:=by omega
  have equo:IntKind.u64.wrap (Int.tdiv ((4294967296*r+x:Nat):Int) ((d:Nat):Int))=(((4294967296*r+x)/d:Nat):Int):=by
   rw[show Int.tdiv ((4294967296*r+x:Nat):Int) ((d:Nat):Int)=(((4294967296*r+x)/d:Nat):Int) from rfl]
   exact aZ (by omega)
  have erem:Int.tmod ((4294967296*r+x:Nat):Int) ((d:Nat):Int)=(((4294967296*r+x)%d:Nat):Int):=rfl
  have ec:IntKind.u32.wrap (((4294967296*r+x)/d:Nat):Int)=(((4294967296*r+x)/d:Nat):Int):=by rw[bX,bgW hq]
  have hrep:bfV (m+1) 0++S=bfV m 0++(0::S):=by
   rw[List.replicate_succ',bgY]; rfl
  have hin:(aE (bfV m 0++(0::S)))[m]?=some [.int .u32 ((0:Nat):Int)]:=by
   rw[bJ _ (by simp)]; simp
  have hrow:(aE (bfV m 0++(0::S))).set m [.int .u32 (((4294967296*r+x)/d:Nat):Int)]=aE (bfV m 0++(((4294967296*r+x)/d)::S)):=by
   rw[eP,biU _ _ (by simp)]; simp
  simp -implicitDefEqProofs only[go_sem,ν,γ,reduceCtorEq,hzz,hge,YK,esh,hax,ex,eor,YL,ed,hdd,equo,ec,hlt,hrep,hin,hrow,ON,erem,OO]
  refine aJ (m,((4294967296*r+x)/d)::S,(4294967296*r+x)%d) ⟨by simp only[biH]; omega,fun y hy=>?_,bgX _ hd0,?_⟩ (by simp only; omega) ?_ (PH.aA PH.nil_le (by simp -implicitDefEqProofs only[go_sem]))
  ·rw[bgD] at hy
   rcases hy with rfl | hy
   ·exact hq
   ·exact hLim y hy
  ·simp only[val]
   rw[hdrop,← hval,bgS,bgC,bgK]
   have:=biV (4294967296*r+x) d
   rw[bgO d] at this
   omega
  ·(repeat' (first|exact PF.nil_le|refine PF.aA ?_ ?_))<;>first|(simp -implicitDefEqProofs only[go_sem,γ,reduceCtorEq,wrap_i64 (show -9223372036854775808≤(m:Int)-1 by omega) (show (m:Int)-1≤9223372036854775807 by omega)]<;>rfl)|rfl
 ·have:k=0:=by omega
  subst this
  have hzz:¬ ((0:Nat):Int)-1≥0:=by decide
  rw[bgV] at hval
  have hS:S.length=a.length:=by omega
  have hq:val S=val a/d:=by
   rw[← hval,bgO,Nat.mul_add_div hd0,biW hr,bhY]
  have hrm:r=val a%d:=by rw[← hval,bgO,Nat.mul_add_mod,bgW hr]
  have hn0:bfV 0 0++S=S:=by simp
  have hl:=L.trim S hLim (by omega)
  have hSt:(aE S).take a.length=aE S:=bgH (by rw[bQ]; omega)
  simp -implicitDefEqProofs only[go_sem,υ,γ,reduceCtorEq,hzz,yX,biR]
  refine nO (o:=o) (s:=1) (rs:=aE S) hl (by simp -implicitDefEqProofs only[go_sem]) (by simp -implicitDefEqProofs only[go_sem,γ,reduceCtorEq,hSt,show a.length≤S.length by omega]) ?_
  simp -implicitDefEqProofs only[go_sem,γ,reduceCtorEq]
  refine aB (L.make r (by omega)) (by simp -implicitDefEqProofs only[go_sem,γ,reduceCtorEq]) ?_
  simp -implicitDefEqProofs only[go_sem,γ,reduceCtorEq]
  refine aW (vs:=[aF (aG (val S)),aF (aG r)]) (.inr rfl) .nil (by simp -implicitDefEqProofs only[go_sem,γ,reduceCtorEq]<;>rfl) PH.nil_le ⟨?_,rfl⟩
  rw[hq,hrm]
  exact .refl _
end Go.PM
namespace Go.PM
open Go Go.Na
theorem aYL {B m:Nat} (h:nl B=m+1):32*m<cA B∧cA B≤32*(m+1):=by
 refine⟨?_,(tR B (m+1)).2 (by omega)⟩
 rcases bgI (32*m) (cA B) with h1 | h1
 ·exact h1
 ·have:=(tR B m).1 h1
  omega
theorem aYM {B:Nat} (h:B≠0):2 ^ (cA B-1)≤B:=by
 rcases bgI B (2 ^ (cA B-1)) with h1 | h1
 ·have h2:=(jQ B _).2 h1
  have h3:cA B≠0:=fun e=>h (gQ.1 e)
  omega
 ·exact h1
theorem aML {C:Ctx} (L:FX C) (A B:Nat) (hB:B≠0) (hA:nl A≤512) (hBl:nl B≤512) :
  vG.wp C (aX AN.res (bY (nG A B))) (PF.args [aF (aG A),aF (aG B)]) .nil:=by
 have LA:=bE A
 have LB:=bE B
 have vA:=aY A
 have vB:=aY B
 have lA:(aG A).length=nl A:=rfl
 have lB:(aG B).length=nl B:=rfl
 simp -implicitDefEqProofs only[go_sem,γ,reduceCtorEq,vG,YF,YG,AN]
 refine aB (L.cmp _ _ LA LB (by omega) (by omega)) rfl ?_
 rw[vA,vB]
 by_cases c1:A<B
 ·have hc:dD A B<0:=by simp[dD,c1]
  simp -implicitDefEqProofs only[go_sem,γ,reduceCtorEq,hc,YH]
  refine aB (L.trim _ LA (by omega)) rfl ?_
  rw[vA]
  simp -implicitDefEqProofs only[go_sem,γ]
  refine aW (vs:=[.nils,aF (aG A)]) (.inr rfl) .nil rfl PH.nil_le ⟨?_,rfl⟩
  rw[nG,biW c1,bgW c1,eY]
  exact CoL.tup (CoL.cons (.nil 1) (CoL.cons (.refl _) .nil))
 have hc:¬ dD A B<0:=by
  unfold dD
  rw[if_neg c1]
  split<;>decide
 have hB0:0<B:=biD hB
 have hnB:nl B≠0:=fun h=>hB (iT.1 h)
 simp -implicitDefEqProofs only[go_sem,γ,hc,YI,bfT,lB]
 by_cases c2:nl B=1
 ·have hBB:B<4294967296:=by have:=(gM B 1).1 (by omega); simpa using this
  have hlb:aG B=[B]:=lI hB hBB
  have sh:=aMK (C:=C) L (aG A) B LA hB0 hBB (by omega)
  rw[vA] at sh
  simp only[aD.wp,go_sem] at sh
  simp -implicitDefEqProofs only[go_sem,bP (show ((nl B:Nat):Int)=1 by omega)]
  exact sh _ rfl (by simp -implicitDefEqProofs only[go_sem,γ,hlb])
 obtain⟨m,hm⟩:∃ m,nl B=m+1:=⟨nl B-1,by omega⟩
 have hm1:1≤m:=by omega
 obtain⟨hb1,hb2⟩:=aYL hm
 obtain⟨n,hn⟩:∃ n,n+cA B=32*(m+1):=⟨32*(m+1)-cA B,by omega⟩
 have hn32:n<32:=by omega
 have hp2:0<2 ^ n:=biE (by decide)
 have hBlt:B<2 ^ cA B:=(jQ B _).1 (bfX _)
 have hBge:=aYM hB
 have hVhi:B*2 ^ n<4294967296 ^ (m+1):=by
  have:B*2 ^ n<2 ^ cA B*2 ^ n:=Nat.mul_lt_mul_of_pos_right hBlt hp2
  rw[← Nat.pow_add,show cA B+n=32*(m+1) by omega,Nat.pow_mul] at this
  exact this
 have hVlo:4294967296 ^ m*2147483648≤B*2 ^ n:=by
  have:2 ^ (cA B-1)*2 ^ n≤B*2 ^ n:=bgU _ hBge
  rw[← Nat.pow_add,show cA B-1+n=32*m+31 by omega,Nat.pow_add,Nat.pow_mul] at this
  exact this
 have nV:nl (B*2 ^ n)=m+1:=by
  have h1:=(gM (B*2 ^ n) (m+1)).2 hVhi
  rcases bgI (nl (B*2 ^ n)) (m+1) with h | h
  ·have:=(gM (B*2 ^ n) m).1 (by omega)
   have hpp:0<4294967296 ^ m:=biE (by decide)
   omega
  ·omega
 have hV0:B*2 ^ n≠0:=Nat.mul_ne_zero hB (by omega)
 have nU1:nl (A*2 ^ n)≤nl A+1:=sB (bfX _) (mI (by rw[Nat.pow_one]; exact Nat.pow_lt_pow_right (a:=2) (m:=n) (n:=32) (by decide) hn32))
 have hUV:B*2 ^ n≤A*2 ^ n:=bgU _ (by omega)
 have nUV:m+1≤nl (A*2 ^ n):=by rw[← nV]; exact gK hUV
 have hU0:A*2 ^ n≠0:=by omega
 have e32:IntKind.i64.wrap (32*((nl B:Nat):Int))=((32*(m+1):Nat):Int):=by rw[wrap_i64 (by omega) (by omega)]; omega
 have en:IntKind.i64.wrap (((32*(m+1):Nat):Int)-((cA B:Nat):Int))=(n:Int):=by rw[wrap_i64 (by omega) (by omega)]; omega
 have bt:=L.bits (aG B) LB (by omega)
 rw[vB] at bt
 have ua:=L.upM (aG A) n LA (by omega) (by omega) (fun h=>by have:=eD LA; rw[h] at this; omega)
 have ub:=(L.upM (aG B) n LB (by omega) (by omega) (fun h=>by have:=eD LB; rw[h] at this; omega)).freeze
 rw[vA] at ua
 rw[vB] at ub
 have tail:∀ (o:Nat) (F:PF) (H:PH),F 0=some (aF (aG A))→F 1=some (aF (aG B))→F 10=some (.int .i64 n)→F 11=some (.osl o 1 0 (nl (A*2 ^ n)+2))→F 12=some (aF (aG (B*2 ^ n)))→H o=some (.rows 1 (aE (aG (A*2 ^ n))++[[.int .u32 0],[.int .u32 0]])) →
   aD.wp C (.seq (.region yY) (.seq (.region yZ) (.seq (.region zA) (.seq (.seq (.region zB) (.block 2 (.loop rM))) (.seq (.region zH) .ret))))) (aX [.tmp 4,.tmp 5] (bY (nG A B))) F H:=by
  intro o F H f0 f1 f10 f11 f12 hH
  have LU:=bE (A*2 ^ n)
  have LV:=bE (B*2 ^ n)
  have vU:=aY (A*2 ^ n)
  have vV:=aY (B*2 ^ n)
  have lU:(aG (A*2 ^ n)).length=nl (A*2 ^ n):=rfl
  have lV:(aG (B*2 ^ n)).length=m+1:=nV
  have eu:IntKind.i64.wrap (((nl (A*2 ^ n):Nat):Int)+1)=((nl (A*2 ^ n)+1:Nat):Int):=aN (by omega)
  have b1:((nl (A*2 ^ n)+1:Nat):Int)≤((nl (A*2 ^ n)+2:Nat):Int):=by omega
  simp -implicitDefEqProofs only[go_sem,γ,reduceCtorEq,yY,f11,f0,f10]
  refine aB ua.freeze rfl ?_
  obtain⟨lq,hlq⟩:∃ lq,nl (A*2 ^ n)+1-(m+1)=lq:=⟨_,rfl⟩
  have hlx:nl (A*2 ^ n)+1=lq+(m+1):=by omega
  have em:IntKind.i64.wrap (((m+1:Nat):Int)-1)=((m:Nat):Int):=by rw[wrap_i64 (by omega) (by omega)]; omega
  have hmV:m<(aG (B*2 ^ n)).length:=by omega
  have rm:=bJ (aG (B*2 ^ n)) hmV
  have tl:=LV _ (bgA hmV)
  have htop:0<(aG (B*2 ^ n))[m]:=by
   have h1:=bT (aG (B*2 ^ n)) hmV
   rw[bgH (by omega),vV] at h1
   have h2:=eD (LV.take m)
   rw[bgJ,bhT (by omega)] at h2
   have hpp:0<4294967296 ^ m:=biE (by decide)
   rcases biB (aG (B*2 ^ n))[m] with h | h
   ·rw[h] at h1; omega
   ·exact h
  have htop31:2147483648≤(aG (B*2 ^ n))[m]:=by
   have h1:=bT (aG (B*2 ^ n)) hmV
   rw[bgH (by omega),vV] at h1
   have h2:=eD (LV.take m)
   rw[bgJ,bhT (by omega)] at h2
   rcases bgI (aG (B*2 ^ n))[m] 2147483648 with h | h
   ·exfalso
    have h3:4294967296 ^ m*((aG (B*2 ^ n))[m]+1)≤4294967296 ^ m*2147483648:=bhZ _ h
    rw[bgC,Nat.mul_one] at h3
    omega
   ·exact h
  have key0:=aRX (C:=C) L (A*2 ^ n) n o (nl (A*2 ^ n)+1) lq
  have hI:mB (A*2 ^ n) (val (aG (B*2 ^ n))) (m+1) (nl (A*2 ^ n)+1) lq lq (aG (A*2 ^ n)++[0]) (bfV lq 0):=by
   refine⟨by rw[bfW,lU]; rfl,List.length_replicate,LU.app fun x hx=>by simp at hx; omega,rY _,?_,?_,fun i x _ hx=>ayP hx⟩
   ·rw[eZ,vU,pA]; simp[val]
   ·have hlen:(aG (A*2 ^ n)++[0]).length=nl (A*2 ^ n)+1:=by rw[bfW,lU]; rfl
    have hv0:val (aG (A*2 ^ n)++[0])=A*2 ^ n:=by rw[eZ,vU]; simp[val]
    rw[qZ (LU.app fun x hx=>by simp at hx; omega) (by omega),hv0,vV,biJ (biE (by decide))]
    have h1:A*2 ^ n<4294967296 ^ nl (A*2 ^ n):=(gM _ _).1 (bfX _)
    have hx:nl (A*2 ^ n)=m+lq:=by omega
    rw[hx,Nat.pow_add] at h1
    have h2:4294967296 ^ m*4294967296 ^ lq≤(B*2 ^ n)*4294967296 ^ lq:=bgU _ (by omega)
    omega
  have hrows:aE (aG (A*2 ^ n))++[[PV.int .u32 0],[PV.int .u32 0]]=cX (aG (A*2 ^ n)++[0]) (aE [0]):=by
   simp[cX,aE]
  rw[hrows] at hH
  generalize htp:(aG (B*2 ^ n))[m]=top at *
  have et:IntKind.u64.wrap ((top:Nat):Int)=((top:Nat):Int):=aZ (by omega)
  have k2:IntKind.i64.wrap (((nl (A*2 ^ n)+1:Nat):Int)-((m+1:Nat):Int))=((lq:Nat):Int):=by rw[wrap_i64 (by omega) (by omega)]; omega
  have k3:((lq:Nat):Int)*((4:Nat):Int)≤140737488355328:=by omega
  have k4:((lq:Nat):Int)≤9223372036854775807:=by omega
  have hz:bfV lq [PV.int .u32 0]=aE (bfV lq 0):=by simp[aE]
  have jq:IntKind.i64.wrap ((lq:Int)-1)=(lq:Int)-1:=wrap_i64 (by omega) (by omega)
  simp -implicitDefEqProofs only[go_sem,ν,γ,reduceCtorEq,bfT,lU,eu,b1,yZ,f12,lV,em,rm,et,zA,k2,k3,k4,hz]
  refine aP fun oq hoq=>?_
  have hne:oq≠o:=by rintro rfl; rw[hH] at hoq; cases hoq
  have hne':¬ o=oq:=fun h=>hne h.symm
  have key:=key0 oq m (aG (B*2 ^ n)) [0] hne LV lV (by rw[htp]; exact htop) hlx (by omega) _ hI
  rw[htp] at key
  simp -implicitDefEqProofs only[go_sem,ο] at key
  simp -implicitDefEqProofs only[go_sem,γ,zB,jq]
  refine key _ _ _ ?_ ?_ ?_
  ·unfold duF
   repeat' first|exact PF.nil_le|refine PF.aA ?_ ?_|rfl|assumption
  ·refine PH.aA (PH.aA PH.nil_le ?_) ?_
   ·simp -implicitDefEqProofs only[go_sem,hne',hH]
   ·simp -implicitDefEqProofs only[go_sem]
  clear key key0
  intro X Q F1 H1 hI1 hF1 hH1
  have g10:F1 10=some (.int .i64 n):=hF1 10 _ (by unfold duF; simp -implicitDefEqProofs only[go_sem,ο,γ])
  have g11:F1 11=some (.osl o 1 0 (nl (A*2 ^ n)+1)):=hF1 11 _ (by unfold duF; simp -implicitDefEqProofs only[go_sem,ο,γ])
  have g14:F1 14=some (.osl oq 1 0 lq):=hF1 14 _ (by unfold duF; simp -implicitDefEqProofs only[go_sem,ο,γ])
  have ho1:H1 o=some (.rows 1 (cX X (aE [0]))):=hH1 o _ (by simp -implicitDefEqProofs only[go_sem,hne'])
  have hq1:H1 oq=some (.rows 1 (aE Q)):=hH1 oq _ (by simp -implicitDefEqProofs only[go_sem])
  have hu:val X<val (aG (B*2 ^ n)):=by have:=hI1.r; rwa [bgV] at this
  have hv':=hI1.v
  rw[vV] at hu hv'
  have hQv:val Q=A/B:=by
   have:A*2 ^ n/(B*2 ^ n)=val Q:=by
    rw[← hv',Nat.add_mul_div_right _ _ (by omega),biW hu,bgQ]
   rw[← this,Nat.mul_div_mul_right _ _ hp2]
  have hUv:val X/2 ^ n=A%B:=by
   have:A*2 ^ n%(B*2 ^ n)=val X:=by rw[← hv',Nat.add_mul_mod_self_right,bgW hu]
   rw[← this,Nat.mul_mod_mul_right,Nat.mul_div_cancel _ hp2]
  have lX:=hI1.lu'
  have lQ:=hI1.lq'
  have hQt:(aE Q).take lq=aE Q:=bgH (by rw[bQ]; omega)
  have hXt:(cX X (aE [0])).take (nl (A*2 ^ n)+1)=aE X:=by
   rw[cX,List.take_append_of_le_length (by rw[bQ]; omega),bgH (by rw[bQ]; omega)]
  have hXl:nl (A*2 ^ n)+1≤(cX X (aE [0])).length:=by rw[cX,bfW,bQ]; omega
  have hfx:(cX X (aE [0])).map (fun r=>r.map (PV.cR oq 1 (aE Q)))=cX X (aE [0]):=by
   have:cX X (aE [0])=aE (X++[0]):=by simp[cX,aE]
   rw[this]; exact oQ _ _ _ _
  have nX:=eO hI1.limU
  have t1:=L.trim Q hI1.limQ (by omega)
  have t2:=L.trim X hI1.limU (by omega)
  have dn:=L.down (aG (val X)) n (bE _) (by rw[bH]; omega) (by omega)
  rw[aY,hUv] at dn
  rw[hQv] at t1
  generalize aE [0]=Z0 at ho1 hXt hXl hfx
  simp -implicitDefEqProofs only[go_sem,zH,g14]
  refine nO (o:=oq) (s:=1) (rs:=aE Q) t1 hq1 (by simp -implicitDefEqProofs only[go_sem,hQt,show lq≤Q.length by omega]) ?_
  simp -implicitDefEqProofs only[go_sem,γ,g11,hne']
  refine nO (o:=o) (s:=1) (rs:=cX X Z0) t2 (by simp -implicitDefEqProofs only[go_sem,hne',ho1,bV.frz,hfx]) (by simp -implicitDefEqProofs only[go_sem,γ,hXt,hXl]) ?_
  simp -implicitDefEqProofs only[go_sem,γ,g10]
  refine aB dn rfl ?_
  simp -implicitDefEqProofs only[go_sem,γ]
  exact aW (vs:=[aF (aG (A/B)),aF (aG (A%B))]) (.inr rfl) .nil rfl PH.nil_le ⟨.refl _,rfl⟩
 simp only[aD.wp,go_sem] at tail
 simp -implicitDefEqProofs only[go_sem,γ,bD (show ¬ ((nl B:Nat):Int)=1 by omega),OP,bfT,lB]
 refine aB bt rfl ?_
 simp -implicitDefEqProofs only[go_sem,γ,reduceCtorEq,e32,en,OQ]
 refine lE ua rfl PH.nil_le fun r H1 hr _=>?_
 have hb2:(2:Nat)*1≤16777216:=by decide
 rcases hr with ⟨h0,_⟩ | ⟨o,rs,rfl,rfl,hrl,hrt⟩
 ·exfalso
  have:=congrArg List.length h0
  rw[bQ,bH] at this
  simp at this
  omega
 rw[PH.kP]
 rw[bQ,bH] at hrl hrt
 simp -implicitDefEqProofs only[go_sem,υ,δ,γ,η,ζ,hb2,bQ,bH]
 refine ayM (src:=[[.int .u32 0],[.int .u32 0]]) (rs:=rs) rfl ?_ (by simp -implicitDefEqProofs only[go_sem]) hrl ?_ fun o' ho'=>?_
 ·unfold roomFor
  simp only[maxLen,biH,bhR]; omega
 ·rw[hrt]
  simp -implicitDefEqProofs only[go_sem,δ]
  refine aB ub rfl ?_
  simp -implicitDefEqProofs only[go_sem,γ]
  exact tail o _ _ rfl rfl rfl rfl rfl (by simp -implicitDefEqProofs only[go_sem])
 ·rw[hrt]
  simp -implicitDefEqProofs only[go_sem,δ]
  refine aB ub rfl ?_
  simp -implicitDefEqProofs only[go_sem,γ]
  exact tail o' _ _ rfl rfl rfl rfl rfl (by simp -implicitDefEqProofs only[go_sem])
end Go.PM
namespace Go.PM
open Go Go.Na
def aQ (C:Ctx) (k:Nat) (pf:bG):Prop:=∀ (args:List PV) (H:PH) (R:PV→PH→Prop),args.length≤pf.ntmps→pf.body.wp C (aX pf.res R) (PF.args args) H→aI C k args H R
theorem aQ.go {C:Ctx} {k:Nat} {pf:bG} (r:aQ C k pf) {args:List PV} {H:PH} {R:PV→PH→Prop} (h:pf.body.wp C (aX pf.res R) (PF.args args) H) (hl:Nat.ble args.length pf.ntmps=true):aI C k args H R:=r args H R (Nat.le_of_ble_eq_true hl) h
structure dO (C:Ctx):Prop where
 r0:aQ C 0 HT
 r1:aQ C 1 VT
 r2:aQ C 2 aqU
 r4:aQ C 4 MJ
 r5:aQ C 5 arG
 r7:aQ C 7 MH
 r20:aQ C 20 HL
 r23:aQ C 23 HQ
 r27:aQ C 27 HR
 r28:aQ C 28 arD
 r29:aQ C 29 WC
 r30:aQ C 30 aWY
 r31:aQ C 31 YE
 r32:aQ C 32 awX
 r33:aQ C 33 udiv
 r34:aQ C 34 axM
 r35:aQ C 35 YN
 r36:aQ C 36 aXH
 r37:aQ C 37 aXP
 r38:aQ C 38 YX
 r39:aQ C 39 AN
 r40:aQ C 40 YM
 r41:aQ C 41 KR
 r42:aQ C 42 KT
 r43:aQ C 43 YS
 r44:aQ C 44 KZ
 r45:aQ C 45 uup
 r47:aQ C 47 ayB
 r50:aQ C 50 MS
 r58:aQ C 58 AP
 r59:aQ C 59 ZF
 r95:aQ C 95 anN
 r96:aQ C 96 aoM
 r97:aQ C 97 GX
 r98:aQ C 98 TX
 r99:aQ C 99 TY
 r100:aQ C 100 TZ
 r101:aQ C 101 gone
 r102:aQ C 102 UA
 r103:aQ C 103 GY
 r104:aQ C 104 gin
 r105:aQ C 105 anP
 r106:aQ C 106 anQ
 r107:aQ C 107 UD
 r108:aQ C 108 UE
 r109:aQ C 109 HG
 r110:aQ C 110 UF
 r111:aQ C 111 ZS
 r112:aQ C 112 anT
 r113:aQ C 113 GL
 r114:aQ C 114 alQ
 r115:aQ C 115 LP
 r116:aQ C 116 tU
 r117:aQ C 117 PR
 r118:aQ C 118 GW
 r119:aQ C 119 alN
 r120:aQ C 120 mT
 r121:aQ C 121 GU
 r122:aQ C 122 TW
 r123:aQ C 123 ME
 r124:aQ C 124 zZ
 r125:aQ C 125 AA
 r126:aQ C 126 tZ
 r127:aQ C 127 arT
 r128:aQ C 128 WF
 r129:aQ C 129 asJ
 r130:aQ C 130 asP
 r131:aQ C 131 asT
 r132:aQ C 132 WQ
 r133:aQ C 133 asX
 r134:aQ C 134 atG
 r135:aQ C 135 WT
 r136:aQ C 136 AC
 r137:aQ C 137 IG
 r138:aQ C 138 qT
 r139:aQ C 139 uU
 r140:aQ C 140 IK
 r141:aQ C 141 IL
 r142:aQ C 142 sC
 r143:aQ C 143 nup
 r147:aQ C 147 tat
 r148:aQ C 148 JP
 r149:aQ C 149 AM
 r150:aQ C 150 JT
 r151:aQ C 151 JN
 r152:aQ C 152 wI
 r153:aQ C 153 AK
 r154:aQ C 154 YD
 r155:aQ C 155 JO
 r156:aQ C 156 XV
 r157:aQ C 157 JU
 r158:aQ C 158 ajY
 r159:aQ C 159 KE
 r160:aQ C 160 vF
 r161:aQ C 161 JY
end Go.PM
namespace Go.PM
open Go Go.Na
theorem tF {C:Ctx} (c:dO C):nP C :=
 have len:∀ xs,Lim xs→xs.length≤16777216→aI C 138 [aF xs] .nil (aL (.int .i64 (nl (val xs):Nat))):=fun xs h l=>c.r138.go (aLJ xs h l) rfl
 {length:=len
  large:=fun xs h l=>c.r137.go (aPJ xs (len xs h l)) rfl
  sized:=fun xs h l=>(c.r141.go (aPO xs h (len xs h l)) rfl).seen
  trim:=fun xs h l=>(c.r135.go (aVV xs h l (len xs h l)) rfl).seen
  make:=fun v h=>c.r132.go (aVS v h len) rfl
  cmp:=fun xs ys hx hy lx ly=>c.r129.go (a0W xs ys hx hy lx ly (len xs hx lx) (len ys hy ly)) rfl }
theorem a7A {C:Ctx} (c:dO C):ajV C :=
 {subtract:=fun A W Z v f o hW hv hl h1 hf hfit=>c.r142.go (atM A W Z v f hW hv hl h1 hf hfit o) rfl
  restore:=fun A W Z v o hW hv hl h1=>c.r139.go (aAT A W Z v hW hv hl h1 o) rfl }
theorem aVP {C:Ctx} (c:dO C):akK C :=
 {L:=tF c
  D:=a7A c
  up:=fun a s ha hs h1=>c.r143.go (a4C a s ha hs h1) rfl
  short:=fun a d ha h0 hd h1=>c.r140.go (aPM (tF c) a d ha h0 hd h1) rfl
  lengthO:=fun xs o hx hl=>c.r138.go (aAS xs hx hl o) rfl }
theorem arS {C:Ctx} (c:dO C) (A B:Nat) (hB:B≠0) (hA:nl A≤900) (hBl:nl B≤900):aI C 136 [aF (aG A),aF (aG B)] .nil (aL (nG A B)) :=
 (c.r136.go (aLD (aVP c) A B hB hA hBl) rfl).seen
theorem uS {C:Ctx} (c:dO C):pH C :=
 {tF c with
  bits:=fun xs h l=>c.r128.go (aVQ xs h l ((tF c).length xs h l)) rfl
  add:=fun xs ys hx hy lx ly=>(c.r127.go (a0T (tF c) xs ys hx hy lx ly) rfl).seen
  sub:=fun xs ys hx hy lx ly=>(c.r134.go (a1F (tF c) xs ys hx hy lx ly) rfl).seen
  mul:=fun xs ys hx hy lx ly=>(c.r133.go (a1D (tF c) xs ys hx hy lx ly) rfl).seen
  gcd:=fun xs ys hx hy lx ly=>(c.r131.go (a1B (tF c) (arS c) xs ys hx hy lx ly) rfl).seen
  div:=fun xs ys hx hy lx ly=>(c.r130.go (a0Y (tF c) (arS c) xs ys hx hy lx ly) rfl).seen }
theorem LQ {C:Ctx} (c:dO C):AR C :=
 {uS c with
  times:=fun a b ha hb la lb na nb=>c.r121.go (aNR (uS c) a b ha hb la lb na nb) rfl
  zero:=fun neg a b ha la=>c.r122.go (aTR (uS c) neg a b ha la) rfl
  valid:=fun neg a b ha hb la lb=>c.r118.go (aNT (uS c) neg a b ha hb la lb) rfl
  abs:=fun v h1 h2=>c.r119.go (aYV (uS c) v h1 h2) rfl
  lowest:=fun neg a b ha hb la lb na nb h0=>(c.r120.go (aJG (uS c) neg a b ha hb la lb na nb h0) rfl).seen }
theorem aNQ {C:Ctx} (c:dO C) (x y:RF) (hx:x.Ok) (hy:y.Ok):aI C 113 [.agg x.cells,.agg y.cells] .nil (aL (frV (iQ x.v y.v))) :=
 (c.r113.go (aYX (LQ c) x.neg y.neg x.num x.den y.num y.den hx.1 hx.2.1 hy.1 hy.2.1 hx.2.2.1 hx.2.2.2 hy.2.2.1 hy.2.2.2) rfl).seen
theorem aJJ {C:Ctx} (c:dO C):ajU C :=
 {LQ c with
  frac:=fun n d hn hd=>(c.r115.go (aTP (LQ c) n d hn.1 hn.2 hd.1 hd.2) rfl).seen
  red:=fun x hx=>by
   rw[← aLT]
   exact (c.r116.go (aJK (LQ c) x.neg x.num x.den hx.1 hx.2.1 hx.2.2.1 hx.2.2.2) rfl).seen
  ord:=fun x y hx hy=>(c.r114.go (aYZ (LQ c) x.neg y.neg x.num x.den y.num y.den hx.1 hx.2.1 hy.1 hy.2.1 hx.2.2.1 hx.2.2.2 hy.2.2.1 hy.2.2.2) rfl).seen
  plus:=aNQ c
  tot:=fun l hl=>(c.r117.go (aZF (LQ c) (aNQ c) l hl.all hl.fits) rfl).seen }
theorem LO {C:Ctx} (c:dO C):pD C :=
 have inn:∀ n lo hi:Int,aI C 104 [.int .i64 n,.int .i64 lo,.int .i64 hi] .nil (aL (.bool (within n lo hi))):=fun n lo hi=>(c.r104.go (a3S n lo hi) rfl).seen
 have lO:∀ x:RF,x.Ok→aI C 97 [.agg x.cells] .nil (aL (.bool (bS x))):=fun x hx=>(c.r97.go (aNV (uS c) x hx) rfl).seen
 have lim:∀ x:RF,x.Ok→aI C 105 [.agg x.cells] .nil (aL (.bool (fE x))):=fun x hx=>(c.r105.go (aZL (aJJ c) x hx) rfl).seen
 have letter:∀ n:Nat,aI C 126 [.int .u8 n] .nil (aL (.bool (fY n))):=fun n=>c.r126.go (aKP n) rfl
 have digit:∀ n:Nat,aI C 124 [.int .u8 n] .nil (aL (.bool (pM n))):=fun n=>c.r124.go (aOH n) rfl
 {aJJ c with
  inn:=inn
  lO:=lO
  lim:=lim
  one:=fun x hx=>(c.r101.go (aZP (aJJ c) x hx) rfl).seen
  allf:=fun p fn l hl h=>(c.r99.go (aTV p fn l hl h) rfl).seen
  alli:=fun p fn l hl h=>(c.r100.go (aTX p fn l hl h) rfl).seen
  allb:=fun p fn l hl h=>(c.r98.go (aTT p fn l hl h) rfl).seen
  ends1:=fun b=>(c.r103.go (aNX b) rfl).seen
  num1:=fun n=>(c.r107.go (aUC inn n) rfl).seen
  rate1:=fun x hx=>(c.r109.go (aOA lim lO x hx) rfl).seen
  name:=fun s=>c.r123.go (aUV letter (fun n=>c.r125.go (aOL letter digit n) rfl) s) rfl }
theorem aNO {C:Ctx} (c:dO C):akG C :=
 {LO c with
  num:=fun p hp=>(c.r106.go (aZN (LO c) p hp) rfl).seen
  rate:=fun p hp=>(c.r108.go (aUE (LO c) p hp) rfl).seen
  uniq:=fun l hl=>(c.r110.go (aUH (LO c) l hl) rfl).seen }
theorem aNP {C:Ctx} (c:dO C):SS C :=
 {aNO c with
  ends:=fun l hl he=>(c.r102.go (aUA (LO c) l hl he) rfl).seen }
theorem a3Q {C:Ctx} (c:dO C):iD C :=
 {aNP c with
  law:=fun l hl=>(c.r95.go (aZJ (aNP c) l hl) rfl).seen
  pol:=fun p n hp hn=>(c.r112.go (aZR (aNO c) p hp n hn) rfl).seen
  doms:=fun f hf=>(c.r111.go (aZH (LO c) f hf) rfl).seen }
theorem aZC {C:Ctx} (c:dO C) (f:aH) (hf:f.Ok):aI C 96 [.agg f.cells] .nil (aL (.int .i64 (FA f))):=(c.r96.go (aZU (a3Q c) f hf) rfl).seen
theorem MP {C:Ctx} (c:dO C):LH C :=
 {valid:=fun f hf=>(c.r161.go (aRR (aZC c) f hf) rfl).seen
  lO:=fun f d level hv hd h0 h4=>(c.r155.go (aQY f hv d hd level h0 h4) rfl).seen
  frag:=fun f v hv h=>(c.r156.go (aWP f hv v h) rfl).seen }
theorem XZ {C:Ctx} (c:dO C):SY C :=
 {MP c with
  room:=fun f room hf=>(c.r152.go (avH (MP c) f hf room) rfl).freeze
  loads:=fun f l hd hl=>(c.r157.go (aRI f hd l hl) rfl).seen }
theorem aRL {C:Ctx} (c:dO C):akP C :=
 {XZ c with
  shape:=fun f l v hV hl hv hvf=>(c.r160.go (aRP (XZ c) f hV l hl v hv hvf) rfl).seen }
theorem aRM {C:Ctx} (c:dO C):zP C :=
 {aRL c with
  bad:=fun o5 v k w=>c.r159.go (aRT o5 v k w) rfl }
theorem aRN {C:Ctx} (c:dO C):akQ C :=
 {aRM c with
  row:=fun f l v hV hfit hv hvf hr=>(c.r158.go (aWW (aRM c) f hV hfit l v hv hvf hr) rfl).seen }
theorem aYH {C:Ctx} (c:dO C):aYB C :=
 {aRN c with
  viol:=fun f l room hf hl=>(c.r154.go (aWU (aRN c) f hf l hl room) rfl).seen }
theorem rJ {C:Ctx} (c:dO C):mP C:={ trimM:=fun xs h l=>c.r38.go (aXQ xs h l) rfl }
theorem aQH {C:Ctx} (c:dO C):akM C :=
 {rJ c with
  make:=fun v h=>(c.r35.go (aXF (rJ c) v h) rfl).seen
  large:=fun xs h l=>(c.r41.go (aRY (rJ c) xs h l) rfl).seen
  cmp:=fun xs ys hx hy lx ly=>c.r32.go (a2A (rJ c) xs ys hx hy lx ly) rfl }
theorem a4H {C:Ctx} (c:dO C):aNB C :=
 {aQH c with
  minus:=fun a b ha hb hle hl h1=>(c.r42.go (aSA (rJ c) a b ha hb hle hl h1) rfl).seen
  times:=fun a b ha hb h1 h2=>(c.r44.go (aSE (rJ c) a b ha hb h1 h2) rfl).seen }
theorem a4I {C:Ctx} (c:dO C):aNC C :=
 {a4H c with
  plus:=fun a b ha hb h1 h2=>(c.r43.go (aXM (rJ c) a b ha hb h1 h2) rfl).seen }
theorem a4J {C:Ctx} (c:dO C):FX C :=
 {a4I c with
  bits:=fun xs h l=>c.r31.go (aWZ (rJ c) xs h l) rfl
  upM:=fun a n ha h1 hn h0=>c.r45.go (a4U (rJ c) a n ha h1 hn h0) rfl
  down:=fun a n ha h1 hn=>(c.r40.go (aXD (rJ c) a n ha h1 hn) rfl).seen }
theorem auG {C:Ctx} (c:dO C):SW C :=
 {aQH c with
  divide:=fun A B hB hA hBl=>(c.r39.go (aML (a4J c) A B hB hA hBl) rfl).seen }
theorem aQI {C:Ctx} (c:dO C):akN C :=
 {auG c with
  gcd:=fun a b ha hb la lb=>(c.r34.go (a2E (auG c) a b ha hb la lb) rfl).seen
  div:=fun a b ha hb la lb=>(c.r33.go (a2C (auG c) a b ha hb la lb) rfl).seen }
theorem aYG {C:Ctx} (c:dO C):aIJ C :=
 {aQI c with
  lowest:=fun neg a b ha hb la lb na nb h0=>(c.r58.go (aMW (aQI c) neg a b ha hb la lb na nb h0) rfl).seen
  size:=fun v hv=>c.r59.go (aXW v hv.1 hv.2) rfl }
theorem aQJ {C:Ctx} (c:dO C):akO C :=
 {aYG c with
  fmk:=fun n d hn hd=>(c.r50.go (aXU (aYG c) n d hn hd) rfl).seen }
abbrev sJ (C:Ctx):Prop:=∀ n:Nat,n<100→aI C 195 [.int .i64 n] .nil (aL (.str (bO n)))
theorem VU {C:Ctx} (c:dO C) (hi:sJ C):pF C :=
 {aQJ c with
  int:=fun n hn=>(c.r47.go (a2X (aQJ c) n hn) rfl).seen
  itoa:=hi
  next:=fun l v T o n a hn ha=>c.r4.go (aVL T o n a hn ha) rfl }
theorem aOW {C:Ctx} (c:dO C) (hi:sJ C):akI C :=
 {VU c hi with
  frac:=fun l v T o a ha=>c.r1.go (aVC (VU c hi) T o a ha) rfl }
theorem aOX {C:Ctx} (c:dO C) (hi:sJ C):pG C :=
 {aOW c hi with
  rep:=fun l v T o a m hm ha=>c.r5.go (a0R (aOW c hi) T o a m hm ha) rfl
  name:=fun s n hs hn=>c.r29.go (aVJ (VU c hi) s n hs hn) rfl }
theorem aOY {C:Ctx} (c:dO C) (hi:sJ C):kJ C :=
 {aOX c hi with
  law:=fun l v T o dZ a hm hm2 ha=>c.r2.go (a0L (aOX c hi) T o dZ a hm hm2 ha) rfl }
end Go.PM
namespace Go.PM
open Go Go.Na
theorem oS {f:aH} (h:VF f) {i:Nat} (hi:i<f.domains.length):0≤lvl f i∧lvl f i≤4:=by
 rcases biB i with e | e
 ·rw[e,h.root.2.1]; omega
 ·have:=h.dom i e hi; omega
end Go.PM
namespace Go.PM
open Go Go.Na
theorem ints_at {xs:List Int} {k:Nat} (h:k<xs.length):(xs.map fun x=>[PV.int .i64 x])[k]?=some [.int .i64 xs[k]]:=by simp[h]
end Go.PM
namespace Go.PM
open Go Go.Na
end Go.PM
namespace Go.PM
open Go Go.Na
end Go.PM
namespace Go.PM
open Go Go.Na
theorem aOZ {C:Ctx} (c:dO C) (hi:sJ C):akJ C :=
 {aOY c hi with
  grow:=fun l v T mc drives h0 h1 h2=>aoC (aOY c hi) T mc drives h0 h1 h2 (fun args H R hl h=>c.r7 args H R (by rw[hl]; decide) h) 4 (bfX _) }
theorem aqT {C:Ctx} (c:dO C) (hi:sJ C):aNA C :=
 {aOZ c hi with
  new:=fun l hb hl=>c.r28.go (a0P l hb hl) rfl
  fleet:=fun l v T o drives volumes a hdr hvo ha=>FW.exact (c.r0.go (aOU (aOZ c hi) T o drives volumes a hdr hvo ha) rfl) }
theorem apG {C:Ctx} (c:dO C) (hi:sJ C):SU C :=
 {at_:=fun f hf d level=>(c.r147.go (a4Q (MP c) f hf d level) rfl).seen
  child:=fun f hf d=>(c.r148.go (aRD (MP c) f hf d) rfl).seen
  drives:=fun f hf d=>(c.r149.go (aMH (MP c) f hf d) rfl).seen
  holds:=fun f l room hf hl=>(c.r150.go (aRG (aYH c) f hf l hl room) rfl).seen
  loads:=fun f l hf hl=>(c.r151.go (aQW (XZ c) f hf l hl) rfl).seen
  room:=(XZ c).room
  shaped:=fun f l hf hl=>(c.r153.go (aMF (aRL c) f hf l hl) rfl).seen
  viol:=(aYH c).viol
  fleet:=fun l hb hl drives volumes hdr hvo=>(c.r27.go (aOR (aqT c hi) l hb hl drives volumes hdr hvo) rfl).seen }
theorem aUQ {C:Ctx} (c:dO C) (hi:sJ C):aI C 20 [] .nil (aL (.bool true)) :=
 c.r20.go (aOF (apG c hi) (c.r23.go (aOP (apG c hi)) rfl)) rfl
end Go.PM
