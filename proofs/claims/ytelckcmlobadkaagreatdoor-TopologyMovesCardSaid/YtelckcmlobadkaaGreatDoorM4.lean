/-
  Texts of ours, joined: ToW2 ToW3 ToW4 ToW5 ToW6 ToW7 ToW8 ToW9 ToW10 MkCode MkW1 Pm35 Pm36 MkW2 MkW3 MkW4 MkW5 MkW6 MkW7 MkW8 MkW9 MkW10 MkW11 MkW12 MkW13 MkW14 MkW15 MkW16 L11W1 R2Code. No condition.
-/
import Derived.Test.YtelckcmlobadkaaGreatDoorM1
import Derived.Test.YtelckcmlobadkaaGreatDoorM2
import Derived.Test.YtelckcmlobadkaaGreatDoorM3

set_option linter.unusedSimpArgs false
set_option linter.unusedVariables false
open Nat renaming reduceEqDiff → γ, reduceAdd → δ, reduceSub → ε, reduceMul → ζ, reduceLT → η, reduceLeDiff → θ, reduceBEq → τ
open Int renaming reduceLT → ι, reduceLE → κ, reduceEq → μ, reduceToNat → ν, reduceAdd → ξ, reduceNeg → ο, reduceBEq → ρ, reduceBNe → σ
open List renaming reduceReplicate → υ
open List renaming length_map → bfT, replicate → bfV, length_append → bfW, length_singleton → bfZ, getElem_mem → bgA, mem_cons → bgD, getElem?_eq_getElem → bgF, take_of_length_le → bgH, length_take → bgJ, not_mem_nil → bgL, range → bgN, getD_eq_getElem?_getD → bgT, drop_zero → bgV, append_assoc → bgY, mem_map → bgZ, map_cons → bhA, take_length → bhB, getElem?_eq_none → bhD, all_eq_true → bhE, getElem?_eq_some_iff → bhF, getElem?_map → bhG, mem_append → bhJ, getElem_map → bhL, getElem_of_mem → bhM, append_nil → bhN, length_set → bhO, drop_eq_getElem_cons → bhP, length_drop → bhQ, length_nil → bhR, map_append → bhS, Sublist → bhU, map_nil → bhV, mem_range → bhW, take_append_drop → biC, mem_of_getElem? → biF, take_succ_eq_append_getElem → biG, length_cons → biH, nodup_append → biI, ext_getElem → biO, getElem?_append_left → biP, getElem?_take → biQ, nil_append → biR, getElem?_append_right → biT, set_append_right → biU, drop_of_length_le → bjA
open Nat renaming gcd → bfU, le_refl → bfX, mul_add → bgC, zero_le → bgE, lt_or_ge → bgI, mul_assoc → bgK, mul_comm → bgO, zero_add → bgQ, add_mul → bgS, mul_le_mul_right → bgU, mod_eq_of_lt → bgW, mod_lt → bgX, pow_succ → bhH, min_eq_left → bhT, add_assoc → bhX, add_zero → bhY, mul_le_mul_left → bhZ, eq_zero_or_pos → biB, pos_of_ne_zero → biD, pow_pos → biE, div_lt_iff_lt_mul → biJ, le_trans → biK, div_le_self → biS, div_add_mod → biV, div_eq_of_lt → biW
open Option renaming map_eq_some_iff → bfY, map_some → bhC, some → biA, getD_some → biM, bind_eq_some_iff → biX, bind_some → bjB
open Bool renaming not_true → bgB, false_and → bgG, not_false → bgM, and_eq_true → bgP, true_and → bgR, and_false → bhK, and_true → biN, false_eq_true → biZ
open Array renaming replicate → bhI, length_toList → biL, getElem?_eq_getElem → biY, getElem?_eq_some_iff → bjC
namespace Go.PM
open Go Go.Na
def pick (n:Nat) (p:Nat→Bool):List Int:=((bgN n).filter p).map fun (i:Nat)=>(i:Int)
theorem afI (n:Nat) (p:Nat→Bool):pick (n+1) p=if p n then pick n p++[(n:Int)] else pick n p:=by
 unfold pick
 rw[List.range_succ,List.filter_append,bhS]
 by_cases h:p n
 ·rw[if_pos h]; simp[h]
 ·rw[if_neg h]; simp[h]
theorem auC (n:Nat) (p:Nat→Bool):(pick n p).length≤n:=by
 unfold pick
 rw[bfT]
 exact biK (List.length_filter_le _ _) (by simp)
theorem UJ (l:List Int) (x:Int):dB l++[[.int .i64 x]]=dB (l++[x]):=by unfold dB; rw[bhS]; rfl
theorem kO (l:List Int):(dB l).length=l.length:=by unfold dB; rw[bfT]
theorem AH {t:Nat} {H:PH} {v:PV} {l:List Int} {F:PF} (h:bB H 1 v (dB l)) (ht:F t=some v):aX [.tmp t] (bY (ints l)) .ret F H:=nA (.inr rfl) h ht
theorem kR {t:Nat} {H:PH} {F:PF} (ht:F t=some .nils):aX [.tmp t] (bY (ints [])) .ret F H:=nA (rows:=[]) (.inr rfl) .nil ht
def zS (f:aH) (dom:Int):List Int :=
 if dE f∧0≤dom∧dom<f.domains.length then pick f.drives.length fun d=>decide ((iE f d (lvl f dom.toNat):Nat)=dom.toNat) else []
def tdF (f:aH) (dom:Nat) (v:PV) (k:Nat):PF:=(((((PF.nil.set 1 (.int .i64 dom)).set 2 (.rptr f.cells)).set 5 (v)).set 24 (.int .i64 (f.drives.length:Nat))).set 25 (.int .i64 k))
def toS (f:aH):Spec:=fun name vs=>match name,vs with
 | 155,[_,.int _ d,.int _ l]=>some ([],fun _=>aL (.int .i64 (iE f d.toNat l:Nat)))
 | 156,[_,.int _ v]=>some ([],fun _=>aL (.int .i64 (fO f v.toNat)))
 | _,_=>none
theorem aRO (f:aH) (d:Nat) (l:Int):toS f 155 [.agg f.cells,.int .i64 d,.int .i64 l]=some ([],fun _=>aL (.int .i64 (iE f d l:Nat))):=rfl
theorem aWR (f:aH) (v:Nat):toS f 156 [.agg f.cells,.int .i64 v]=some ([],fun _=>aL (.int .i64 (fO f v))):=rfl
theorem aMH {C:Ctx} (L:LH C) (f:aH) (hf:f.Ok) (dom:Int) :
  vE.wp C (aX AM.res (bY (ints (zS f dom)))) (PF.args [.agg f.cells,.int .i64 dom]) .nil:=by
 simp -implicitDefEqProofs only[go_sem,δ,γ,vE,XN,XO,XP,AM]
 refine aB (L.valid f hf) rfl ?_
 unfold zS
 cases hv:dE f with
 | false =>
  simp -implicitDefEqProofs only[go_sem,γ,reduceCtorEq,bgM,tJ,]
  rw[if_neg (by simp)]
  exact kR rfl
 | true =>
  have hV:=VF.of hv
  by_cases c1:dom<0
  ·simp -implicitDefEqProofs only[go_sem,γ,reduceCtorEq,bgB,c1,tJ]
   rw[if_neg (by omega)]
   exact kR rfl
  ·by_cases c2:dom≥(f.domains.length:Nat)
   ·simp -implicitDefEqProofs only[go_sem,δ,γ,θ,reduceCtorEq,bgB,c1,bfT,c2,tJ]
    rw[if_neg (by omega)]
    exact kR rfl
   ·obtain⟨n,rfl⟩:∃ n:Nat,dom=n:=⟨dom.toNat,by omega⟩
    have hn:n<f.domains.length:=by omega
    have hd24:=hV.small.drives
    simp -implicitDefEqProofs only[go_sem,δ,γ,θ,reduceCtorEq,bgB,c1,bfT,c2,XQ]
    rw[if_pos (by omega)]
    generalize hp:(fun d=>decide ((iE f d (lvl f n):Nat)=n))=p
    refine wp_loop (α:=Nat × PV × PH) (fun t=>tdF f n t.2.1 t.1) (fun t=>t.2.2) (fun t=>t.1≤f.drives.length∧bB t.2.2 1 t.2.1 (dB (pick t.1 p))) (fun t=>f.drives.length-t.1) (0,.nils,.nil) ⟨bgE _,.nil⟩ ?_ PH.nil_le ?_
    ·unfold tdF
     (repeat' (first|exact PF.nil_le|refine PF.aA ?_ ?_))<;>first|(simp -implicitDefEqProofs only[go_sem,γ,bfT]<;>rfl)|rfl
    rintro⟨k,v,H0⟩ ⟨hk,hO⟩
    simp only at hk hO ⊢
    simp -implicitDefEqProofs only[go_sem,γ,OL,XR,tdF]
    by_cases hlt:k<f.drives.length
    ·have hlt':(k:Int)<(f.drives.length:Nat):=by omega
     have hl04:0≤lvl f n∧lvl f n≤4:=by
      rcases biB n with e | e
      ·rw[e,hV.root.2.1]; decide
      ·have:=hV.dom n e hn; omega
     simp -implicitDefEqProofs only[go_sem,γ,hlt',XS]
     refine cD .nil (toS f) PH.nil_le ?_
     simp -implicitDefEqProofs only[go_sem,δ,γ,θ,XT,mR hn,apZ hn]
     refine cU (aRO f k (lvl f n)) (L.lO f k (lvl f n) hV hlt hl04.1 hl04.2) rfl PH.nil_le ?_
     have hpk:p k=decide ((iE f k (lvl f n):Nat)=n):=by rw[← hp]
     have hsucc:=afI k p
     by_cases c:iE f k (lvl f n)=n
     ·rw[if_pos (by rw[hpk]; simp[c])] at hsucc
      have c':(((iE f k (lvl f n):Nat):Int)==(n:Int))=true:=bP (by omega)
      simp -implicitDefEqProofs only[go_sem,υ,γ,η,θ,ζ,c',XU]
      refine fB (src:=[[.int .i64 k]]) hO rfl (by unfold roomFor; have:=auC k p; rw[kO]; simp only[bfZ,maxLen]; omega) fun v' H' hO' _=>?_
      rw[UJ,← hsucc] at hO'
      simp -implicitDefEqProofs only[go_sem,γ,EE,aN (show k<9223372036854775807 by omega)]
      refine aJ (k+1,v',H') ⟨hlt,hO'⟩ (by simp only; omega) ?_ PH.le_refl
      (repeat' (first|exact PF.nil_le|refine PF.aA ?_ ?_))<;>first|(simp -implicitDefEqProofs only[go_sem,γ]<;>rfl)|rfl
     ·rw[if_neg (by rw[hpk]; simp[c])] at hsucc
      have c':(((iE f k (lvl f n):Nat):Int)==(n:Int))=false:=bD (by omega)
      simp -implicitDefEqProofs only[go_sem,γ,c',EE,aN (show k<9223372036854775807 by omega)]
      rw[← hsucc] at hO
      refine aJ (k+1,v,H0) ⟨hlt,hO⟩ (by simp only; omega) ?_ PH.le_refl
      (repeat' (first|exact PF.nil_le|refine PF.aA ?_ ?_))<;>first|(simp -implicitDefEqProofs only[go_sem,γ]<;>rfl)|rfl
    ·have hlt':¬ (k:Int)<(f.drives.length:Nat):=by omega
     have:k=f.drives.length:=by omega
     subst this
     simp -implicitDefEqProofs only[go_sem,γ,hlt',OM]
     exact AH hO rfl
def alD (f:aH) (dom:Int):List Int :=
 if dE f∧0≤dom then pick f.domains.length fun i=>decide (par f i=dom) else []
def tcF (f:aH) (dom:Int) (v:PV) (k:Nat):PF:=((((((PF.nil.set 1 (.int .i64 dom)).set 2 (.rptr f.cells)).set 5 (v)).set 17 (.sl 7 (f.domains.map cK.cells))).set 18 (.int .i64 (f.domains.length:Nat))).set 19 (.int .i64 k))
theorem aRD {C:Ctx} (L:LH C) (f:aH) (hf:f.Ok) (dom:Int) :
  yQ.wp C (aX JP.res (bY (ints (alD f dom)))) (PF.args [.agg f.cells,.int .i64 dom]) .nil:=by
 simp -implicitDefEqProofs only[go_sem,δ,γ,yQ,agB,agC,agD,JP]
 refine aB (L.valid f hf) rfl ?_
 unfold alD
 cases hv:dE f with
 | false =>
  simp -implicitDefEqProofs only[go_sem,γ,reduceCtorEq,bgM,JQ]
  rw[if_neg (by simp)]
  exact kR rfl
 | true =>
  have hV:=VF.of hv
  by_cases c1:dom<0
  ·simp -implicitDefEqProofs only[go_sem,γ,reduceCtorEq,bgB,c1,JQ]
   rw[if_neg (by omega)]
   exact kR rfl
  ·have hd40:=hV.small.domains
   simp -implicitDefEqProofs only[go_sem,δ,γ,θ,reduceCtorEq,bgB,c1,bfT,agE]
   rw[if_pos (by omega)]
   generalize hp:(fun i=>decide (par f i=dom))=p
   refine wp_loop (α:=Nat × PV × PH) (fun t=>tcF f dom t.2.1 t.1) (fun t=>t.2.2) (fun t=>t.1≤f.domains.length∧bB t.2.2 1 t.2.1 (dB (pick t.1 p))) (fun t=>f.domains.length-t.1) (0,.nils,.nil) ⟨bgE _,.nil⟩ ?_ PH.nil_le ?_
   ·unfold tcF
    (repeat' (first|exact PF.nil_le|refine PF.aA ?_ ?_))<;>first|(simp -implicitDefEqProofs only[go_sem,γ,bfT]<;>rfl)|rfl
   rintro⟨k,v,H0⟩ ⟨hk,hO⟩
   simp only at hk hO ⊢
   simp -implicitDefEqProofs only[go_sem,γ,XL,agF,tcF]
   by_cases hlt:k<f.domains.length
   ·have hlt':(k:Int)<(f.domains.length:Nat):=by omega
    simp -implicitDefEqProofs only[go_sem,δ,γ,hlt',agG,mR hlt]
    refine aP fun o ho=>?_
    have hpk:p k=decide (par f k=dom):=by rw[← hp]
    have hsucc:=afI k p
    by_cases c:par f k=dom
    ·rw[if_pos (by rw[hpk]; simp[c])] at hsucc
     simp -implicitDefEqProofs only[go_sem,υ,δ,γ,η,θ,ζ,JR,WU hlt,bP c,agH]
     refine fB (src:=[[.int .i64 k]]) (hO.fresh ho _).1 rfl (by unfold roomFor; have:=auC k p; rw[kO]; simp only[bfZ,maxLen]; omega) fun v' H' hO' _=>?_
     rw[UJ,← hsucc] at hO'
     simp -implicitDefEqProofs only[go_sem,γ,JS,aN (show k<9223372036854775807 by omega)]
     refine aJ (k+1,v',H') ⟨hlt,hO'⟩ (by simp only; omega) ?_ PH.le_refl
     (repeat' (first|exact PF.nil_le|refine PF.aA ?_ ?_))<;>first|(simp -implicitDefEqProofs only[go_sem,γ]<;>rfl)|rfl
    ·rw[if_neg (by rw[hpk]; simp[c])] at hsucc
     simp -implicitDefEqProofs only[go_sem,δ,γ,θ,JR,WU hlt,bD c,JS,aN (show k<9223372036854775807 by omega)]
     rw[← hsucc] at hO
     refine aJ (k+1,v,H0) ⟨hlt,hO⟩ (by simp only; omega) ?_ (PH.HM _ ho)
     (repeat' (first|exact PF.nil_le|refine PF.aA ?_ ?_))<;>first|(simp -implicitDefEqProofs only[go_sem,γ]<;>rfl)|rfl
   ·have hlt':¬ (k:Int)<(f.domains.length:Nat):=by omega
    have:k=f.domains.length:=by omega
    subst this
    simp -implicitDefEqProofs only[go_sem,γ,hlt',XM]
    exact AH hO rfl
end Go.PM
namespace Go.PM
open Go Go.Na
def kN (A:List Int) (k:Nat):List Int:=A.take k++bfV (A.length-k) 0
theorem ayU (A:List Int):kN A 0=bfV A.length 0:=by simp[kN]
theorem aJE (A:List Int):kN A A.length=A:=by simp[kN]
theorem ajI (A:List Int) {k:Nat} (h:k≤A.length):(kN A k).length=A.length:=by simp[kN]; omega
theorem aJF (A:List Int) {k:Nat} (h:k<A.length):(kN A k).set k A[k]=kN A (k+1):=by
 unfold kN
 rw[biU _ _ (by simp; omega),bgJ,bhT (by omega),Nat.sub_self,show A.length-k=(A.length-(k+1))+1 by omega,List.replicate_succ,List.set_cons_zero,
  biG h,bgY]
 rfl
theorem mH (l:List Int) (i:Nat) (x:Int):(dB l).set i [.int .i64 x]=dB (l.set i x):=by unfold dB; rw[List.map_set]
theorem rB (n:Nat):bfV n [PV.int .i64 0]=dB (bfV n 0):=by simp[dB]
theorem uP {l:List Int} {i:Nat} (h:i<l.length):(dB l)[i]?=some [.int .i64 l[i]]:=by simp[dB,h]
theorem aKB (l:List Int):ints l=.sl 1 (dB l):=rfl
def WY (f:aH) (room:List Int) (d:Nat):Int:=if room.length=f.drives.length then min (max (room.getD d 0) 0) (ext f d) else ext f d
def lY (f:aH) (room:List Int):List Int:=(bgN f.drives.length).map (WY f room)
def MN (f:aH) (room:List Int):List Int:=if dE f then lY f room else []
theorem afL (f:aH) (room:List Int):(lY f room).length=f.drives.length:=by simp[lY]
theorem aWE (f:aH) (room:List Int) {d:Nat} (h:d<(lY f room).length):(lY f room)[d]=WY f room d:=by simp[lY]
theorem VF.a3P {f:aH} (h:VF f) {d:Nat} (hd:d<f.drives.length):∃ hm:mdl f d<f.models.length,(f.models[mdl f d]).extents=ext f d:=by
 have hm:=(h.drive d hd).2.1
 exact⟨hm,by rw[ext,getD_at hm]⟩
def trF (f:aH) (room:List Int) (o k:Nat):PF:=(((((PF.nil.set 1 (ints room)).set 2 (.rptr f.cells)).set 5 (.osl o 1 0 f.drives.length)).set 15 (.int .i64 (f.drives.length:Nat))).set 16 (.int .i64 k))
theorem a0J (a b:Int):(if b<a then b else a)=min a b:=by
 rw[Int.min_def]
 by_cases h:b<a
 ·rw[if_pos h,if_neg (by omega)]
 ·rw[if_neg h,if_pos (by omega)]
theorem avH {C:Ctx} (L:LH C) (f:aH) (hf:f.Ok) (room:List Int) :
  EI.wp C (aX wI.res (kD 1 (dB (MN f room)))) (PF.args [.agg f.cells,ints room]) .nil:=by
 simp -implicitDefEqProofs only[go_sem,δ,γ,EI,avI,avJ,wI]
 refine aB (L.valid f hf) rfl ?_
 unfold MN
 cases hv:dE f with
 | false =>
  simp -implicitDefEqProofs only[go_sem,γ,reduceCtorEq,bgM,avK]
  exact AF (.inr rfl) rfl
 | true =>
  have hV:=VF.of hv
  have hd24:=hV.small.drives
  have hb1:((f.drives.length:Nat):Int)*((8:Nat):Int)≤140737488355328:=by omega
  have hb2:((f.drives.length:Nat):Int)≤9223372036854775807:=by omega
  simp -implicitDefEqProofs only[go_sem,δ,γ,θ,bgB,avL,bfT,hb1,hb2]
  refine aP fun o ho=>?_
  simp -implicitDefEqProofs only[go_sem,γ,avM]
  have hAl:=afL f room
  have hAt:=fun d h=>aWE f room (d:=d) h
  generalize hA:lY f room=A at *
  refine wp_loop (α:=Nat) (fun k=>trF f room o k) (fun k=>PH.nil.set o (.rows 1 (dB (kN A k)))) (fun k=>k≤f.drives.length) (fun k=>f.drives.length-k) 0 (bgE _) ?_ ?_ ?_
  ·unfold trF
   (repeat' (first|exact PF.nil_le|refine PF.aA ?_ ?_))<;>first|(simp -implicitDefEqProofs only[go_sem,γ]<;>rfl)|rfl
  ·refine PH.aA PH.nil_le ?_
   simp -implicitDefEqProofs only[go_sem]
   rw[ayU,hAl,rB]
  intro k hk
  simp -implicitDefEqProofs only[go_sem,γ,agS,avN,trF]
  by_cases hlt:k<f.drives.length
  ·have hlt':(k:Int)<(f.drives.length:Nat):=by omega
   obtain⟨hm,he⟩:=hV.a3P hlt
   have hfl:=ajI A (k:=k) (by omega)
   have hkA:k<A.length:=by omega
   have hx:=uP (l:=kN A k) (i:=k) (by omega)
   have hstep:=aJF A hkA
   rw[hAt k hkA] at hstep
   simp -implicitDefEqProofs only[go_sem,γ,hlt',avO]
   refine cD .nil dS PH.nil_le ?_
   simp -implicitDefEqProofs only[go_sem,δ,γ,θ,avP,rV hlt,hV.aqF hlt,aPC hm,he,hlt',bgQ,hx]
   refine⟨PH.nil_le,?_⟩
   simp -implicitDefEqProofs only[go_sem,γ,avQ,bfT]
   by_cases c:room.length=f.drives.length
   ·have c':(((room.length:Nat):Int)==((f.drives.length:Nat):Int))=true:=bP (by omega)
    have hrk:k<room.length:=by omega
    have hrr:(room.map fun n=>[PV.int .i64 n])[k]?=some [.int .i64 room[k]]:=by simp[hrk]
    simp -implicitDefEqProofs only[go_sem,c']
    refine cD .nil dS PH.nil_le ?_
    have hx2:(dB ((kN A k).set k (ext f k)))[k]?=some [.int .i64 (ext f k)]:=by
     rw[← mH,List.getElem?_set_self (by rw[kO]; omega)]
    simp -implicitDefEqProofs only[go_sem,γ,reduceCtorEq,avR,hrr,hlt',bgQ,hx2,max_eq,a0J,List.set_set,mH]
    refine⟨PH.nil_le,?_⟩
    simp -implicitDefEqProofs only[go_sem,γ,JW,aN (show k<9223372036854775807 by omega)]
    refine aJ (k+1) hlt (by omega) ?_ ?_
    ·(repeat' (first|exact PF.nil_le|refine PF.aA ?_ ?_))<;>first|(simp -implicitDefEqProofs only[go_sem,γ]<;>rfl)|rfl
    ·refine PH.aA PH.nil_le ?_
     rw[← hstep,WY,if_pos c,bgT,bgF hrk,biM]
     simp -implicitDefEqProofs only[go_sem]
   ·have c':(((room.length:Nat):Int)==((f.drives.length:Nat):Int))=false:=bD (by omega)
    simp -implicitDefEqProofs only[go_sem,γ,c',JW,aN (show k<9223372036854775807 by omega),mH]
    refine aJ (k+1) hlt (by omega) ?_ ?_
    ·(repeat' (first|exact PF.nil_le|refine PF.aA ?_ ?_))<;>first|(simp -implicitDefEqProofs only[go_sem,γ]<;>rfl)|rfl
    ·refine PH.aA PH.nil_le ?_
     rw[← hstep,WY,if_neg c]
     simp -implicitDefEqProofs only[go_sem]
  ·have hlt':¬ (k:Int)<(f.drives.length:Nat):=by omega
   have:k=f.drives.length:=by omega
   subst this
   simp -implicitDefEqProofs only[go_sem,γ,hlt',agT]
   have hAA:kN A f.drives.length=A:=by rw[← hAl,aJE]
   rw[hAA]
   exact DU (.inr rfl) (v:=.osl o 1 0 f.drives.length) (.inr ⟨o,dB A,by rw[kO,hAl],by simp -implicitDefEqProofs only[go_sem],bfX _,bgH (bfX _)⟩) rfl
end Go.PM
namespace Go.PM
open Go Go.Na
abbrev lay (l:List (List Int)):PV:=.sl 1 (l.map fun r=>[ints r])
def dW (n:Nat) (xs:List Int):List Int:=(bgN n).map fun (d:Nat)=>((xs.count (d:Int):Nat):Int)
theorem gZ (n:Nat) (xs:List Int):(dW n xs).length=n:=by simp[dW]
theorem alE (n:Nat):dW n []=bfV n 0:=by
 refine biO (by simp[dW]) fun i h1 h2=>by simp[dW]
theorem aBN {n:Nat} (xs:List Int) {d:Nat} (h:d<n):(dW n xs)[d]'(by rw[gZ]; exact h)=((xs.count (d:Int):Nat):Int):=by simp[dW]
theorem aBO {n:Nat} (xs:List Int) {d:Nat} (h:d<n):(dW n xs).set d (((xs.count (d:Int):Nat):Int)+1)=dW n (xs++[(d:Int)]):=by
 refine biO (by simp[dW]) fun i h1 h2=>?_
 simp only[dW,List.getElem_set,bhL,List.getElem_range,List.count_append]
 by_cases e:d=i
 ·subst e; simp
 ·have:((d:Nat):Int)≠(i:Int):=by omega
  rw[if_neg e]
  simp[List.count_cons,this]
theorem PG {n:Nat} (xs:List Int) {x:Int} (h:¬ (0≤x∧x<n)):dW n (xs++[x])=dW n xs:=by
 refine biO (by simp[dW]) fun i h1 h2=>?_
 simp only[dW,bhL,List.getElem_range,List.count_append]
 have hi:i<n:=by simpa [dW] using h2
 have:x≠(i:Int):=by omega
 simp[List.count_cons,this]
def gT (f:aH) (l:List (List Int)):List Int:=dW f.drives.length l.flatten
structure iK (l:List (List Int)):Prop where
 rows:l.length≤16777216
 all:l.flatten.length≤16777216
theorem vO (l:List (List Int)) {i:Nat} (h:i<l.length):(l.take (i+1)).flatten=(l.take i).flatten++l[i]:=by
 rw[biG h,List.flatten_append]
 simp only[List.flatten_cons,List.flatten_nil,bhN]
theorem PO (l:List (List Int)) (i:Nat):(l.take i).flatten.length≤l.flatten.length:=by
 have:l.flatten=(l.take i).flatten++(l.drop i).flatten:=by rw[← List.flatten_append,biC]
 rw[this,bfW]; omega
def apT (l:List (List Int)) (n o i:Nat):PF:=((((PF.nil.set 5 (.osl o 1 0 n)).set 14 (lay l)).set 15 (.int .i64 (l.length:Nat))).set 16 (.int .i64 i))
def aaD (l:List (List Int)) (n o i:Nat) (row:List Int) (k:Nat):PF:=(((((((PF.nil.set 5 (.osl o 1 0 n)).set 14 (lay l)).set 15 (.int .i64 (l.length:Nat))).set 16 (.int .i64 i)).set 20 (ints row)).set 21 (.int .i64 (row.length:Nat))).set 22 (.int .i64 k))
theorem aRI {C:Ctx} (f:aH) (hd:f.drives.length≤24) (l:List (List Int)) (hl:iK l) :
  yS.wp C (aX JU.res (bY (ints (gT f l)))) (PF.args [.agg f.cells,lay l]) .nil:=by
 have hb1:((f.drives.length:Nat):Int)*((8:Nat):Int)≤140737488355328:=by omega
 have hb2:((f.drives.length:Nat):Int)≤9223372036854775807:=by omega
 obtain⟨hl1,hl2⟩:=hl
 simp -implicitDefEqProofs only[go_sem,δ,γ,θ,yS,agK,agL,JU,bfT,hb1,hb2]
 refine aP fun o ho=>?_
 simp -implicitDefEqProofs only[go_sem,γ,agM]
 generalize hn:f.drives.length=n at *
 refine wp_loop (α:=Nat) (fun i=>apT l n o i) (fun i=>PH.nil.set o (.rows 1 (dB (dW n (l.take i).flatten)))) (fun i=>i≤l.length) (fun i=>l.length-i) 0 (bgE _) ?_ ?_ ?_
 ·unfold apT
  (repeat' (first|exact PF.nil_le|refine PF.aA ?_ ?_))<;>first|(simp -implicitDefEqProofs only[go_sem,γ,bfT]<;>rfl)|rfl
 ·refine PH.aA PH.nil_le ?_
  simp -implicitDefEqProofs only[go_sem,List.take_zero,List.flatten_nil]
  rw[alE,rB]
 intro i hi
 simp -implicitDefEqProofs only[go_sem,γ,XY,agN,apT]
 by_cases hlt:i<l.length
 ·have hlt':(i:Int)<(l.length:Nat):=by omega
  have hr:(l.map fun r=>[ints r])[i]?=some [ints l[i]]:=by simp[hlt]
  have hft:=vO l hlt
  have hfl:=PO l (i+1)
  rw[hft,bfW] at hfl
  generalize hrow:l[i]=row at *
  simp -implicitDefEqProofs only[go_sem,γ,hlt',agO,hr,agP,bfT]
  refine wp_loop (α:=Nat) (fun k=>aaD l n o i row k) (fun k=>PH.nil.set o (.rows 1 (dB (dW n ((l.take i).flatten++row.take k))))) (fun k=>k≤row.length) (fun k=>row.length-k) 0 (bgE _) ?_ ?_ ?_
  ·unfold aaD
   (repeat' (first|exact PF.nil_le|refine PF.aA ?_ ?_))<;>first|(simp -implicitDefEqProofs only[go_sem,γ,bfT]<;>rfl)|rfl
  ·rw[List.take_zero,bhN]
   exact PH.le_refl
  intro k hk
  simp -implicitDefEqProofs only[go_sem,γ,XW,agQ,aaD]
  by_cases hkt:k<row.length
  ·have hkt':(k:Int)<(row.length:Nat):=by omega
   have hrk:(row.map fun n=>[PV.int .i64 n])[k]?=some [.int .i64 row[k]]:=by simp[hkt]
   have htk:(l.take i).flatten++row.take (k+1)=((l.take i).flatten++row.take k)++[row[k]]:=by
    rw[biG hkt,bgY]
   have fin:∀ (F:PF),(aaD l n o i row (k+1)).le F→∀ H:PH,H o=some (.rows 1 (dB (dW n ((l.take i).flatten++row.take (k+1))))) →
     fQ (fun k=>aaD l n o i row k) (fun k=>PH.nil.set o (.rows 1 (dB (dW n ((l.take i).flatten++row.take k))))) (fun k=>k≤row.length) (fun k=>row.length-k) (row.length-k)
      (eG 2 (eG 1 (jL C (aD.wp C (.region EG)) (fQ (fun i=>apT l n o i) (fun i=>PH.nil.set o (.rows 1 (dB (dW n (l.take i).flatten)))) (fun i=>i≤l.length) (fun i=>l.length-i) (l.length-i) (eG 0 (jL C (aD.wp C (.seq (.region EH) .ret)) (aX [.tmp 4] (bY (ints (gT f l)))))))))) .normal F H:=by
    intro F hF H hH
    exact aJ (k+1) hkt (by omega) hF (PH.aA PH.nil_le hH)
   unfold aaD apT at fin
   generalize hx:row[k]=x at *
   by_cases c1:x≥0
   ·by_cases c2:x<(n:Nat)
    ·obtain⟨d,rfl⟩:∃ d:Nat,x=d:=⟨x.toNat,by omega⟩
     have hdn:d<n:=by omega
     have hat:=uP (l:=dW n ((l.take i).flatten++row.take k)) (i:=d) (by rw[gZ]; exact hdn)
     rw[aBN _ hdn] at hat
     have hcl:((l.take i).flatten++row.take k).count (d:Int)≤16777216:=by
      refine biK (List.count_le_length ..) ?_
      rw[bfW,bgJ]; omega
     have hin:=aBO ((l.take i).flatten++row.take k) hdn
     rw[← htk] at hin
     have hw:IntKind.i64.wrap (((((l.take i).flatten++row.take k).count (d:Int):Nat):Int)+1)=((((l.take i).flatten++row.take k).count (d:Int):Nat):Int)+1:=wrap_i64 (by omega) (by omega)
     simp -implicitDefEqProofs only[go_sem,γ,hkt',wG,hrk,wH,c1,c2,agR,bgQ,hat,hw,tK,mH,hin,aN (show k<9223372036854775807 by omega)]
     exact fin _ (by (repeat' (first|exact PF.nil_le|refine PF.aA ?_ ?_))<;>first|(simp -implicitDefEqProofs only[go_sem,γ]<;>rfl)|rfl) _ (by simp -implicitDefEqProofs only[go_sem])
    ·have hout:=PG (n:=n) ((l.take i).flatten++row.take k) (x:=x) (by omega)
     simp -implicitDefEqProofs only[go_sem,γ,hkt',wG,hrk,wH,c1,c2,tK,aN (show k<9223372036854775807 by omega)]
     exact fin _ (by (repeat' (first|exact PF.nil_le|refine PF.aA ?_ ?_))<;>first|(simp -implicitDefEqProofs only[go_sem,γ]<;>rfl)|rfl) _ (by rw[htk,hout]; simp -implicitDefEqProofs only[go_sem])
   ·have hout:=PG (n:=n) ((l.take i).flatten++row.take k) (x:=x) (by omega)
    simp -implicitDefEqProofs only[go_sem,γ,reduceCtorEq,hkt',wG,hrk,wH,c1,tK,aN (show k<9223372036854775807 by omega)]
    exact fin _ (by (repeat' (first|exact PF.nil_le|refine PF.aA ?_ ?_))<;>first|(simp -implicitDefEqProofs only[go_sem,γ]<;>rfl)|rfl) _ (by rw[htk,hout]; simp -implicitDefEqProofs only[go_sem])
  ·have hkt':¬ (k:Int)<(row.length:Nat):=by omega
   have:k=row.length:=by omega
   subst this
   simp -implicitDefEqProofs only[go_sem,γ,reduceCtorEq,hkt',EG,aN (show i<9223372036854775807 by omega),bhB]
   refine aJ (i+1) hlt (by omega) ?_ ?_
   ·(repeat' (first|exact PF.nil_le|refine PF.aA ?_ ?_))<;>first|(simp -implicitDefEqProofs only[go_sem,γ]<;>rfl)|rfl
   ·refine PH.aA PH.nil_le ?_
    rw[hft]
    simp -implicitDefEqProofs only[go_sem]
 ·have hlt':¬ (i:Int)<(l.length:Nat):=by omega
  have:i=l.length:=by omega
  subst this
  simp -implicitDefEqProofs only[go_sem,γ,hlt',EH,bhB]
  refine auK (.inr rfl) (o:=o) (s:=1) (k:=n) (rs:=dB (dW n l.flatten)) rfl (by simp -implicitDefEqProofs only[go_sem]) (by rw[kO,gZ]; omega) ⟨?_,rfl⟩
  rw[aKB,bgH (by rw[kO,gZ]; omega),gT,hn]
  exact .refl _
structure SY (C:Ctx):Prop extends LH C where
 room:∀ (f:aH) (room:List Int),f.Ok→aI C 152 [.agg f.cells,ints room] .nil (aL (ints (MN f room)))
 loads:∀ (f:aH) (l:List (List Int)),f.drives.length≤24→iK l→aI C 157 [.agg f.cells,lay l] .nil (aL (ints (gT f l)))
def apU (f:aH) (l:List (List Int)):List Int:=if dE f then gT f l else []
theorem aQW {C:Ctx} (L:SY C) (f:aH) (hf:f.Ok) (l:List (List Int)) (hl:iK l) :
  yO.wp C (aX JN.res (bY (ints (apU f l)))) (PF.args [.agg f.cells,lay l]) .nil:=by
 simp -implicitDefEqProofs only[go_sem,δ,γ,yO,afR,afS,JN]
 refine aB (L.valid f hf) rfl ?_
 unfold apU
 cases hv:dE f with
 | false =>
  simp -implicitDefEqProofs only[go_sem,γ,reduceCtorEq,bgM,afT]
  exact kR rfl
 | true =>
  have hV:=VF.of hv
  simp -implicitDefEqProofs only[go_sem,δ,γ,bgB,afU]
  refine aB (L.loads f l hV.small.drives hl) rfl ?_
  simp -implicitDefEqProofs only[go_sem,γ]
  exact aW (.inr rfl) .nil rfl PH.nil_le ⟨.refl _,rfl⟩
end Go.PM
namespace Go.PM
open Go Go.Na
structure eN where
 kind:Int
 vol:Int
 wher:Int
abbrev eN.cells (x:eN):List PV:=[.int .i64 x.kind,.int .i64 x.vol,.int .i64 x.wher]
abbrev zL (l:List eN):PV:=.sl 3 (l.map eN.cells)
def hC (p:Int→Bool):List Int→Nat→Option Nat
 | [],_=>none
 | x::t,i=>if p x then some i else hC p t (i+1)
def pK (f:aH) (d:Int):Bool:=decide (d < -1)||decide (d≥(f.drives.length:Nat))
def jZ (f:aH) (l:List (List Int)) (v:Nat):Option eN :=
 if ((l.getD v []).length:Int)=fO f v then (hC (pK f) (l.getD v []) 0).map fun (i:Nat)=>⟨1,v,i⟩ else some ⟨1,v,((l.getD v []).length:Nat)⟩
def shV:Option eN→PV
 | some x=>.tup [.agg x.cells,.bool true]
 | none=>.tup [.agg [.int .i64 0,.int .i64 0,.int .i64 0],.bool false]
def aWT (f:aH) (o:Nat) (v:Nat) (row:List Int) (k:Nat):PF:=((((((PF.nil.set 2 (.int .i64 v)).set 3 (.rptr f.cells)).set 6 (.ptr o 3 0 0)).set 29 (ints row)).set 30 (.int .i64 (row.length:Nat))).set 31 (.int .i64 k))
theorem aRP {C:Ctx} (L:SY C) (f:aH) (hV:VF f) (l:List (List Int)) (hl:iK l) (v:Nat) (hv:v<l.length) (hvf:v<f.volumes.length) :
  yT.wp C (aX vF.res (bY (shV (jZ f l v)))) (PF.args [.agg f.cells,lay l,.int .i64 v]) .nil:=by
 have hr:(l.map fun r=>[ints r])[v]?=some [ints l[v]]:=by simp[hv]
 have hg:l.getD v []=l[v]:=by simp[bgT,hv]
 have hrl:(l[v]).length≤16777216:=by
  have h1:=PO l (v+1)
  have:=hl.all
  rw[vO l hv,bfW] at h1
  omega
 unfold jZ
 rw[hg]
 simp -implicitDefEqProofs only[go_sem,δ,yT,agV]
 refine aP fun o ho=>?_
 simp -implicitDefEqProofs only[go_sem]
 refine cD .nil (toS f) PH.nil_le ?_
 generalize l[v]=row at *
 have fin:∀ (x:eN) (F:PF) (H:PH),F 6=some (.ptr o 3 0 0)→F 7=some (.bool true)→H o=some (.rows 3 [x.cells])→aX vF.res (bY (shV (some x))) .ret F H:=by
  intro x F H h6 h7 hH
  refine aW (.inr rfl) .nil (vs:=[.agg x.cells,.bool true]) ?_ PH.nil_le ⟨.refl _,rfl⟩
  simp -implicitDefEqProofs only[go_sem,δ,vF,h6,h7,hH]
 simp -implicitDefEqProofs only[go_sem,δ,γ,agW,hr,bfT]
 refine cU (aWR f v) (L.frag f v hV hvf) rfl PH.nil_le ?_
 by_cases c:((row.length:Nat):Int)=fO f v
 ·rw[if_pos c]
  simp -implicitDefEqProofs only[go_sem,γ,cJ c,agY,hr,bfT]
  refine wp_loop (α:=Nat) (fun k=>aWT f o v row k) (fun k=>PH.nil.set o (.rows 3 [[.int .i64 0,.int .i64 0,.int .i64 0]])) (fun k=>k≤row.length∧hC (pK f) row 0=hC (pK f) (row.drop k) k) (fun k=>row.length-k) 0 ⟨bgE _,rfl⟩ ?_ PH.le_refl ?_
  ·unfold aWT
   (repeat' (first|exact PF.nil_le|refine PF.aA ?_ ?_))<;>first|(simp -implicitDefEqProofs only[go_sem,γ,bfT]<;>rfl)|rfl
  rintro k ⟨hk,hb⟩
  simp -implicitDefEqProofs only[go_sem,γ,agU,agZ,aWT]
  by_cases hlt:k<row.length
  ·have hlt':(k:Int)<(row.length:Nat):=by omega
   have hrk:(row.map fun n=>[PV.int .i64 n])[k]?=some [.int .i64 row[k]]:=by simp[hlt]
   have hdr:hC (pK f) (row.drop k) k=if pK f row[k] then some k else hC (pK f) (row.drop (k+1)) (k+1):=by
    rw[bhP hlt,hC]
   rw[hdr] at hb
   by_cases c1:row[k] < -1
   ·have hbd:pK f row[k]=true:=by simp[pK,c1]
    rw[hbd] at hb
    simp -implicitDefEqProofs only[go_sem,ο,δ,γ,θ,hlt',wJ,hrk,wK,c1,JX]
    rw[hb]
    exact fin ⟨1,v,k⟩ _ _ rfl rfl (by simp -implicitDefEqProofs only[go_sem])
   ·by_cases c2:row[k]≥(f.drives.length:Nat)
    ·have hbd:pK f row[k]=true:=by simp[pK,c2]
     rw[hbd] at hb
     simp -implicitDefEqProofs only[go_sem,ο,δ,γ,θ,reduceCtorEq,hlt',wJ,hrk,wK,c1,bfT,c2,JX]
     rw[hb]
     exact fin ⟨1,v,k⟩ _ _ rfl rfl (by simp -implicitDefEqProofs only[go_sem])
    ·have hbd:pK f row[k]=false:=by simp[pK]; omega
     rw[hbd] at hb
     simp -implicitDefEqProofs only[go_sem,ο,δ,γ,θ,reduceCtorEq,hlt',wJ,hrk,wK,c1,bfT,c2,ahA,aN (show k<9223372036854775807 by omega)]
     refine aJ (k+1) ⟨hlt,hb⟩ (by omega) ?_ PH.le_refl
     (repeat' (first|exact PF.nil_le|refine PF.aA ?_ ?_))<;>first|(simp -implicitDefEqProofs only[go_sem,γ]<;>rfl)|rfl
  ·have hlt':¬ (k:Int)<(row.length:Nat):=by omega
   have:k=row.length:=by omega
   subst this
   rw[List.drop_length,hC] at hb
   simp -implicitDefEqProofs only[go_sem,δ,γ,hlt',YB]
   rw[hb]
   refine aW (.inr rfl) .nil (vs:=[.agg [.int .i64 0,.int .i64 0,.int .i64 0],.bool false]) ?_ PH.nil_le ⟨.refl _,rfl⟩
   simp -implicitDefEqProofs only[go_sem,δ,γ,vF]
 ·rw[if_neg c]
  simp -implicitDefEqProofs only[go_sem,δ,γ,θ,dR c,agX,hr,bfT]
  exact fin ⟨1,v,(row.length:Nat)⟩ _ _ rfl rfl (by simp -implicitDefEqProofs only[go_sem])
structure akP (C:Ctx):Prop extends SY C where
 shape:∀ (f:aH) (l:List (List Int)) (v:Nat),VF f→iK l→v<l.length→v<f.volumes.length→aI C 160 [.agg f.cells,lay l,.int .i64 v] .nil (aL (shV (jZ f l v)))
def abK (f:aH) (l:List (List Int)):Bool:=dE f&&decide (l.length=f.volumes.length)&&(bgN l.length).all fun v=>(jZ f l v).isNone
def tSF (f:aH) (l:List (List Int)) (k:Nat):PF:=((((PF.nil.set 1 (lay l)).set 2 (.rptr f.cells)).set 20 (.int .i64 (l.length:Nat))).set 21 (.int .i64 k))
theorem aMF {C:Ctx} (L:akP C) (f:aH) (hf:f.Ok) (l:List (List Int)) (hl:iK l) :
  vD.wp C (aX AK.res (bY (.bool (abK f l)))) (PF.args [.agg f.cells,lay l]) .nil:=by
 simp -implicitDefEqProofs only[go_sem,δ,γ,vD,XC,XD,AK]
 refine aB (L.valid f hf) rfl ?_
 unfold abK
 have hlr:=hl.rows
 cases hv:dE f with
 | false =>
  simp -implicitDefEqProofs only[go_sem,γ,bgM,EB]
  exact aU rfl (by simp only[bgG])
 | true =>
  have hV:=VF.of hv
  by_cases c:l.length=f.volumes.length
  ·have c':(((l.length:Nat):Int) != ((f.volumes.length:Nat):Int))=false:=cJ (by omega)
   rw[decide_eq_true c]
   simp -implicitDefEqProofs only[go_sem,γ,reduceCtorEq,bgB,bfT,c',XE]
   generalize hq:(fun v=>(jZ f l v).isNone)=q
   refine wp_loop (α:=Nat) (fun k=>tSF f l k) (fun _=>.nil) (fun k=>k≤l.length∧mO q k) (fun k=>l.length-k) 0 ⟨bgE _,.zero⟩ ?_ PH.nil_le ?_
   ·unfold tSF
    (repeat' (first|exact PF.nil_le|refine PF.aA ?_ ?_))<;>first|(simp -implicitDefEqProofs only[go_sem,γ,bfT]<;>rfl)|rfl
   rintro k ⟨hk,ha⟩
   simp -implicitDefEqProofs only[go_sem,γ,OJ,XF,tSF]
   by_cases hlt:k<l.length
   ·have hlt':(k:Int)<(l.length:Nat):=by omega
    have hqk:q k=(jZ f l k).isNone:=by rw[← hq]
    simp -implicitDefEqProofs only[go_sem,δ,γ,hlt',XG,XH]
    refine aB (L.shape f l k hV hl hlt (by omega)) rfl ?_
    cases hs:jZ f l k with
    | some x =>
     rw[hs] at hqk
     simp -implicitDefEqProofs only[go_sem,δ,γ,shV]
     refine aP fun o ho=>?_
     simp -implicitDefEqProofs only[go_sem,δ,γ,EC,XI]
     exact aU (b:=false) rfl (by rw[show (bgN l.length).all q=false from dN hlt hqk])
    | none =>
     rw[hs] at hqk
     simp -implicitDefEqProofs only[go_sem,δ,γ,shV]
     refine aP fun o ho=>?_
     simp -implicitDefEqProofs only[go_sem,δ,γ,EC,XJ,aN (show k<9223372036854775807 by omega)]
     refine aJ (k+1) ⟨hlt,ha.step hqk⟩ (by omega) ?_ PH.nil_le
     (repeat' (first|exact PF.nil_le|refine PF.aA ?_ ?_))<;>first|(simp -implicitDefEqProofs only[go_sem,γ]<;>rfl)|rfl
   ·have hlt':¬ (k:Int)<(l.length:Nat):=by omega
    have:k=l.length:=by omega
    subst this
    simp -implicitDefEqProofs only[go_sem,hlt',OK]
    exact aU (b:=true) rfl (by rw[show (bgN l.length).all q=true from ha])
  ·have c':(((l.length:Nat):Int) != ((f.volumes.length:Nat):Int))=true:=dR (by omega)
   simp -implicitDefEqProofs only[go_sem,γ,reduceCtorEq,bgB,bfT,c',EB]
   exact aU rfl (by rw[decide_eq_false c]; simp only[bgG])
end Go.PM
namespace Go.PM
open Go Go.Na
section
variable {C:Ctx} {F:PF} {H:PH}
theorem tO {name:Nat} {vs cs:List PV} {r:PV} {H0:PH} {args:List aM} {d:Option Nat} {K:PF→PH→Prop} (h:aI C name (vs++cs) H0 (fun r' H'=>r'=r∧H'=H0)) (ha:aM.evs F args=some vs) (hle:H0.le H)
  (hk:K (F.put d r) H):fZ C name args cs d K F H:=by
 refine .inl ⟨vs++cs,H0,_,by rw[ha]; rfl,hle,h,?_⟩
 rintro r' H' ⟨rfl,rfl⟩ -
 rw[PH.over_self _ hle]
 exact hk
theorem bB.ne {s s':Nat} {v:PV} {rows:List (List PV)} {o:Nat} {y:List (List PV)} (h:bB H s v rows) (ho:H o=some (.rows s' y)) (hs:s≠s'):∀ l,v≠.osl o s 0 l:=by
 intro l e
 rcases h with ⟨_,h2⟩ | ⟨q,rs,h1,h2,_⟩
 ·rw[h2] at e; cases e
 ·rw[h1] at e
  injection e with e1
  subst e1
  rw[ho] at h2
  injection h2 with h2
  injection h2 with h2
  exact hs h2.symm
theorem bB.set {s s':Nat} {v:PV} {rows:List (List PV)} {o:Nat} {y:List (List PV)} {x:bV} (h:bB H s v rows) (ho:H o=some (.rows s' y)) (hs:s≠s'):bB (H.set o x) s v rows:=by
 have hne:=h.ne ho hs
 rcases h with ⟨h1,h2⟩ | ⟨q,rs,h1,h2,h3,h4⟩
 ·exact .inl ⟨h1,h2⟩
 ·refine .inr ⟨q,rs,h1,?_,h3,h4⟩
  have:q≠o:=by rintro rfl; exact hne _ h1
  simp only[aV,if_neg this,h2]
def Dis (s:Nat) (v u:PV):Prop:=∀ q l q' l',v=.osl q s 0 l→u=.osl q' s 0 l'→q≠q'
theorem Dis.nil {s:Nat}:Dis s .nils .nils:=fun _ _ _ _ h=>by cases h
theorem Dis.symm {s:Nat} {v u:PV} (h:Dis s v u):Dis s u v:=fun q l q' l' h1 h2=>(h q' l' q l h2 h1).symm
theorem jS {s b:Nat} {v u y:PV} {rows rows' src:List (List PV)} {K:PV→PH→Prop} (h:bB H s v rows) (h':bB H s u rows') (hd:Dis s v u) (hy:dK H s y=some src) (hr:roomFor rows.length src.length b)
  (hk:∀ v' H',bB H' s v' (rows++src)→bB H' s u rows'→Dis s v' u→(∀ o s' z,s≠s'→H o=some (.rows s' z)→H' o=some (.rows s' z))→K v' H'):mM H s b v y K:=by
 have other:∀ {H':PH} {t:PV} {r:List (List PV)},bB H s t r→(∀ o x,H o=some x→(∀ l,t=.osl o s 0 l→False)∨H' o=some x)→bB H' s t r:=by
  intro H' t r ht hp
  rcases ht with ⟨a,b⟩ | ⟨q,rs,a,b,c,d⟩
  ·exact .inl ⟨a,b⟩
  ·refine .inr ⟨q,rs,a,?_,c,d⟩
   rcases hp q _ b with e | e
   ·exact (e _ a).elim
   ·exact e
 have gone:∀ {o:Nat} {x:bV},H o=none→H o=some x→False:=fun a b=>by rw[a] at b; cases b
 have hud:∀ {o:Nat} {l:Nat},u=.osl o s 0 l→∃ x,H o=some x:=by
  intro o l e
  rcases h' with ⟨a,b⟩ | ⟨q,rs,a,b,c,d⟩
  ·rw[b] at e; cases e
  ·rw[a] at e; injection e with e; subst e; exact⟨_,b⟩
 rcases h with ⟨rfl,rfl⟩ | ⟨q,rs,rfl,h1,h2,h3⟩
 ·refine⟨src,hy,hr,fun e=>?_,fun e o ho=>?_⟩
  ·subst e
   exact hk _ _ (.inl ⟨rfl,rfl⟩) h' hd fun o s' z _ hz=>hz
  ·refine hk _ _ (.inr ⟨o,src,rfl,by simp only[aV,if_true],bfX _,by simp⟩) (other h' fun o' x hx=>.inr ?_) ?_ fun o' s' z _ hz=>?_
   ·have:o'≠o:=by rintro rfl; exact gone ho hx
    simp only[aV,if_neg this,hx]
   ·intro q l q' l' e1 e2
    injection e1 with e1
    subst e1
    rintro rfl
    obtain⟨x,hx⟩:=hud e2
    exact gone ho hx
   ·have:o'≠o:=by rintro rfl; exact gone ho hz
    simp only[aV,if_neg this,hz]
 ·have hlen:(rows++src).length=rows.length+src.length:=bfW
  refine⟨src,hy,rfl,rfl,hr,rs,h1,h2,?_,fun o ho=>?_⟩
  ·rw[h3]
   refine hk _ _ (.inr ⟨q,rows++src,by rw[hlen],by simp only[aV,if_true],bfX _,bhB⟩) (other h' fun o' x hx=>?_) ?_ fun o' s' z hs hz=>?_
   ·by_cases e:o'=q
    ·exact .inl fun l el=>hd q _ o' l rfl el e.symm
    ·exact .inr (by simp only[aV,if_neg e,hx])
   ·intro q1 l q' l' e1 e2
    injection e1 with e1
    subst e1
    exact hd _ _ _ _ rfl e2
   ·have:o'≠q:=by
     rintro rfl
     rw[h1] at hz
     injection hz with hz
     injection hz with hz
     exact hs hz
    simp only[aV,if_neg this,hz]
  ·rw[h3]
   refine hk _ _ (.inr ⟨o,rows++src,by rw[hlen],by simp only[aV,if_true],bfX _,bhB⟩) (other h' fun o' x hx=>?_) ?_ fun o' s' z hs hz=>?_
   ·by_cases e:o'=q
    ·exact .inl fun l el=>hd q _ o' l rfl el e.symm
    ·have e2:o'≠o:=by rintro rfl; exact gone ho hx
     exact .inr (by simp only[aV,if_neg e,if_neg e2,hx])
   ·intro q1 l q' l' e1 e2
    injection e1 with e1
    subst e1
    rintro rfl
    obtain⟨x,hx⟩:=hud e2
    exact gone ho hx
   ·have e1:o'≠q:=by
     rintro rfl
     rw[h1] at hz
     injection hz with hz
     injection hz with hz
     exact hs hz
    have e2:o'≠o:=by rintro rfl; exact gone ho hz
    simp only[aV,if_neg e1,if_neg e2,hz]
end
abbrev dP (l:List eN):List (List PV):=l.map eN.cells
def cF (kind v:Int) (n:Nat) (p:Nat→Bool):List eN:=((bgN n).filter p).map fun (i:Nat)=>⟨kind,v,i⟩
theorem mL (kind v:Int) (n:Nat) (p:Nat→Bool):cF kind v (n+1) p=if p n then cF kind v n p++[⟨kind,v,n⟩] else cF kind v n p:=by
 unfold cF
 rw[List.range_succ,List.filter_append,bhS]
 by_cases h:p n
 ·rw[if_pos h]; simp[h]
 ·rw[if_neg h]; simp[h]
theorem eS (kind v:Int) (n:Nat) (p:Nat→Bool):(cF kind v n p).length≤n:=by
 unfold cF
 rw[bfT]
 exact biK (List.length_filter_le _ _) (by simp)
theorem jA (l:List eN):(dP l).length=l.length:=by simp[dP]
theorem nD (l:List eN) (x:eN):dP l++[x.cells]=dP (l++[x]):=by simp[dP]
def atU (o5:Nat) (v:Nat):PH:=PH.nil.set o5 (.rows 1 [[.int .i64 v]])
theorem aRT {C:Ctx} (o5 v:Nat) (k w:Int):yV.wp C (aX KE.res (fun r H'=>r=.agg [.int .i64 k,.int .i64 v,.int .i64 w]∧H'=atU o5 v)) (PF.args [.int .i64 k,.int .i64 w,.ptr o5 1 0 0]) (atU o5 v):=by
 simp -implicitDefEqProofs only[go_sem,δ,yV,ahN,atU]
 refine aP fun o ho=>?_
 have hne:o5≠o:=by rintro rfl; simp only[aV,if_true] at ho; cases ho
 simp -implicitDefEqProofs only[go_sem,δ,γ,θ,reduceCtorEq,ahO,hne]
 refine aW (.inr rfl) (PH.nil.set o5 (.rows 1 [[.int .i64 v]])) (vs:=[.agg [.int .i64 k,.int .i64 v,.int .i64 w]]) ?_ (PH.aA PH.nil_le ?_) ⟨rfl,rfl⟩
 ·simp -implicitDefEqProofs only[go_sem,δ,γ,KE]
 ·simp -implicitDefEqProofs only[go_sem,hne]
def MB (f:aH) (i:Nat) (d:Int):Bool:=decide (0≤d)&&decide (iE f d.toNat (lvl f i)=i)
def mF (f:aH) (xs:List Int) (i:Nat):Int:=if i=0 then 0 else ((xs.countP (MB f i):Nat):Int)
def dU (f:aH) (xs:List Int):List Int:=(bgN f.domains.length).map (mF f xs)
def oE (f:aH) (xs:List Int) (d:Nat) (k:Nat):List Int:=(bgN f.domains.length).map fun i=>if 4-(k:Int)<lvl f i then mF f (xs++[(d:Int)]) i else mF f xs i
theorem rU (f:aH) (xs:List Int):(dU f xs).length=f.domains.length:=by simp[dU]
theorem VF.oS {f:aH} (h:VF f) {i:Nat} (hi:i<f.domains.length):0≤lvl f i∧lvl f i≤4∧(lvl f i=0↔i=0):=by
 rcases biB i with e | e
 ·subst e; rw[h.root.2.1]; simp
 ·have:=h.dom i e hi
  omega
theorem aNI {f:aH} (h:VF f) (xs:List Int) (d:Nat):oE f xs d 0=dU f xs:=by
 refine biO (by simp[oE,dU]) fun i h1 h2=>?_
 simp only[oE,dU,bhL,List.getElem_range]
 have hi:i<f.domains.length:=by simpa [dU] using h2
 have:=h.oS hi
 rw[if_neg (by omega)]
theorem aNH {f:aH} (h:VF f) (xs:List Int) (d:Nat):oE f xs d 4=dU f (xs++[(d:Int)]):=by
 refine biO (by simp[oE,dU]) fun i h1 h2=>?_
 simp only[oE,dU,bhL,List.getElem_range]
 have hi:i<f.domains.length:=by simpa [dU] using h2
 have:=h.oS hi
 by_cases e:i=0
 ·subst e
  rw[if_neg (by omega)]
  simp[mF]
 ·rw[if_pos (by omega)]
theorem abT (f:aH) (xs:List Int) (d:Nat) {i:Nat} (hi:i≠0):mF f (xs++[(d:Int)]) i=mF f xs i+if iE f d (lvl f i)=i then 1 else 0:=by
 unfold mF
 rw[if_neg hi,if_neg hi,List.countP_append]
 by_cases h:iE f d (lvl f i)=i
 ·rw[if_pos h]; simp[MB,h]
 ·rw[if_neg h]; simp[MB,h]
theorem aYR {f:aH} (h:VF f) (xs:List Int) {d:Nat} (hd:d<f.drives.length) {k:Nat} (hk:k<4) :
  (oE f xs d k)[upN f k (fF f d)]?=some (mF f xs (upN f k (fF f d))) ∧
  (oE f xs d k).set (upN f k (fF f d)) (mF f xs (upN f k (fF f d))+1)=oE f xs d (k+1):=by
 obtain⟨u1,u2⟩:=YR h hd (k:=k) (by omega)
 constructor
 ·simp only[oE,bhG,List.getElem?_range u1,bhC]
  rw[if_neg (by omega)]
 ·refine biO (by simp[oE]) fun i h1 h2=>?_
  have hi:i<f.domains.length:=by simpa [oE] using h2
  simp only[oE,List.getElem_set,bhL,List.getElem_range]
  have hr:=h.oS hi
  by_cases e:upN f k (fF f d)=i
  ·rw[if_pos e]
   subst e
   rw[if_pos (by omega)]
   have hne:upN f k (fF f d)≠0:=by intro e; rw[e,h.root.2.1] at u2; omega
   rw[abT f xs d hne,iE,u2]
   have:4-(4-(k:Int)).toNat=k:=by omega
   rw[this,if_pos rfl]
  ·rw[if_neg e]
   by_cases c:4-(k:Int)<lvl f i
   ·rw[if_pos c,if_pos (by omega)]
   ·rw[if_neg c]
    by_cases c2:4-((k+1:Nat):Int)<lvl f i
    ·rw[if_pos c2]
     have hl:lvl f i=4-(k:Int):=by omega
     have hne:i≠0:=by intro e; subst e; rw[h.root.2.1] at hl; omega
     rw[abT f xs d hne,iE,hl]
     have:4-(4-(k:Int)).toNat=k:=by omega
     rw[this,if_neg e]; simp
    ·rw[if_neg c2]
theorem aYQ (f:aH) (xs:List Int) (i:Nat):0≤mF f xs i∧mF f xs i≤xs.length:=by
 unfold mF
 have:=List.countP_le_length (p:=MB f i) (l:=xs)
 split<;>omega
end Go.PM
namespace Go.PM
open Go Go.Na
structure zP (C:Ctx):Prop extends akP C where
 bad:∀ (o5 v:Nat) (k w:Int),aI C 159 [.int .i64 k,.int .i64 w,.ptr o5 1 0 0] (atU o5 v) (fun r H'=>r=.agg [.int .i64 k,.int .i64 v,.int .i64 w]∧H'=atU o5 v)
structure Obs where
 o5:Nat
 o7:Nat
 o8:Nat
 oD:Nat
 oB:Nat
structure Obs.Ne (o:Obs):Prop where
 a1:o.o5≠o.oD
 a2:o.o5≠o.oB
 a3:o.o7≠o.oD
 a4:o.o7≠o.oB
 a5:o.o8≠o.oD
 a6:o.o8≠o.oB
 a7:o.oD≠o.oB
structure gY (H:PH) (o:Obs) (v:Nat) (p:cM) (A:List Bool) (D B:List Int):Prop where
 h5:H o.o5=some (.rows 1 [[.int .i64 v]])
 h7:H o.o7=some (.rows 17 [p.cells])
 h8:H o.o8=some (.rows 1 (eU A))
 hD:H o.oD=some (.rows 1 (dB D))
 hB:H o.oB=some (.rows 1 (dB B))
theorem gY.keep {H H':PH} {o:Obs} {v:Nat} {p:cM} {A:List Bool} {D B:List Int} (h:gY H o v p A D B) (hk:∀ q s' z,3≠s'→H q=some (.rows s' z)→H' q=some (.rows s' z)):gY H' o v p A D B :=
 ⟨hk _ _ _ (by decide) h.h5,hk _ _ _ (by decide) h.h7,hk _ _ _ (by decide) h.h8,hk _ _ _ (by decide) h.hD,hk _ _ _ (by decide) h.hB⟩
theorem gY.beH {H:PH} {o:Obs} {v:Nat} {p:cM} {A:List Bool} {D B:List Int} (h:gY H o v p A D B) (hn:o.Ne) (B':List Int):gY (H.set o.oB (.rows 1 (dB B'))) o v p A D B' :=
 ⟨by simp only[aV,if_neg hn.a2,h.h5],by simp only[aV,if_neg hn.a4,h.h7],by simp only[aV,if_neg hn.a6,h.h8],by simp only[aV,if_neg hn.a7,h.hD],by simp only[aV,if_true]⟩
theorem gY.beI {H:PH} {o:Obs} {v:Nat} {p:cM} {A:List Bool} {D B:List Int} (h:gY H o v p A D B) (hn:o.Ne) (D':List Int):gY (H.set o.oD (.rows 1 (dB D'))) o v p A D' B :=
 ⟨by simp only[aV,if_neg hn.a1,h.h5],by simp only[aV,if_neg hn.a3,h.h7],by simp only[aV,if_neg hn.a5,h.h8],by simp only[aV,if_true],by simp only[aV,if_neg (Ne.symm hn.a7),h.hB]⟩
def iV (f:aH) (o:Obs) (v12 v13:PV) (row:List Int) (k:Nat):PF :=
 ((((((((((((PF.nil.set 3 (.rptr f.cells)).set 5 (.ptr o.o5 1 0 0)).set 7 (.ptr o.o7 17 0 0)).set 8 (.osl o.o8 1 0 f.models.length)).set 11 (.fn 159 [.ptr o.o5 1 0 0])).set 12 (v12)).set 13 (v13)).set 14 (.osl o.oD 1 0 f.drives.length)).set 15 (.osl o.oB 1 0 f.domains.length)).set 62 (ints row)).set 63 (.int .i64 (row.length:Nat))).set 64 (.int .i64 k))
def aLW (f:aH) (o:Obs) (v12 v13:PV) (row:List Int) (k:Nat) (at_:Nat):PF :=
 (((((((((((((PF.nil.set 3 (.rptr f.cells)).set 5 (.ptr o.o5 1 0 0)).set 7 (.ptr o.o7 17 0 0)).set 8 (.osl o.o8 1 0 f.models.length)).set 11 (.fn 159 [.ptr o.o5 1 0 0])).set 12 (v12)).set 13 (v13)).set 14 (.osl o.oD 1 0 f.drives.length)).set 15 (.osl o.oB 1 0 f.domains.length)).set 62 (ints row)).set 63 (.int .i64 (row.length:Nat))).set 64 (.int .i64 k)).set 18 (.int .i64 at_))
theorem a4L {C:Ctx} (f:aH) (hV:VF f) (o:Obs) (hn:o.Ne) (v:Nat) (p:cM) (A:List Bool) (D:List Int) (v12 v13:PV) (R12 R13:List (List PV)) (row:List Int) (k:Nat) (xs:List Int) (hxs:xs.length≤16777216) (d:Nat) (hd:d<f.drives.length) (K:cC) (F:PF) (H:PH)
  (hF:(aLW f o v12 v13 row k (fF f d)).le F) (hH:gY H o v p A D (dU f xs)) (h12:bB H 3 v12 R12) (h13:bB H 3 v13 R13)
  (hK:∀ F' H',(iV f o v12 v13 row k).le F'→gY H' o v p A D (dU f (xs++[(d:Int)]))→bB H' 3 v12 R12→bB H' 3 v13 R13→K .normal F' H') :
  aD.wp C (.block 4 (.loop wL)) K F H:=by
 simp -implicitDefEqProofs only[go_sem]
 refine wp_loop (α:=Nat × PH) (fun t=>aLW f o v12 v13 row k (upN f t.1 (fF f d))) (fun t=>t.2) (fun t=>t.1≤4∧gY t.2 o v p A D (oE f xs d t.1)∧bB t.2 3 v12 R12∧bB t.2 3 v13 R13) (fun t=>4-t.1) (0,H) ⟨bgE _,by rw[aNI hV]; exact hH,h12,h13⟩ (by rw[upN]; exact hF) PH.le_refl ?_
 rintro⟨j,H0⟩ ⟨hj,hR,g12,g13⟩
 simp only at hj hR g12 g13 ⊢
 obtain⟨u1,u2⟩:=YR hV hd (k:=j) hj
 simp -implicitDefEqProofs only[go_sem,γ,wL,ahU,aLW]
 by_cases hlt:j<4
 ·have hne:0<upN f j (fF f d):=by
   rcases biB (upN f j (fF f d)) with e | e
   ·rw[e,hV.root.2.1] at u2; omega
   ·exact e
  have hc:((upN f j (fF f d):Nat):Int)>0:=by omega
  obtain⟨b1,b2⟩:=aYR hV xs hd hlt
  have hat:(dB (oE f xs d j))[upN f j (fF f d)]?=some [.int .i64 (mF f xs (upN f j (fF f d)))]:=by
   unfold dB; rw[bhG,b1]; rfl
  have hdl:=aYQ f xs (upN f j (fF f d))
  have hw:IntKind.i64.wrap (mF f xs (upN f j (fF f d))+1)=mF f xs (upN f j (fF f d))+1:=wrap_i64 (by omega) (by omega)
  have hlN:((upN f j (fF f d):Nat):Int)<(f.domains.length:Nat):=by omega
  simp -implicitDefEqProofs only[go_sem,δ,γ,θ,hc,ahV,hlN,bgQ,hR.hB,hat,hw,mH,b2,ahW,mR u1,WU u1,hV.aGX hne u1]
  refine aJ (j+1,_) ⟨hlt,hR.beH hn _,g12.set hR.hB (by decide),g13.set hR.hB (by decide)⟩ (by simp only; omega) ?_ PH.le_refl
  (repeat' (first|exact PF.nil_le|refine PF.aA ?_ ?_))<;>first|(simp -implicitDefEqProofs only[go_sem,γ,upN]<;>rfl)|rfl
 ·have:j=4:=by omega
  subst this
  have h0:upN f 4 (fF f d)=0:=by
   have:=hV.oS u1
   omega
  have hc:¬ ((upN f 4 (fF f d):Nat):Int)>0:=by omega
  simp -implicitDefEqProofs only[go_sem,ε,hc]
  rw[aNH hV] at hR
  refine hK _ _ ?_ hR g12 g13
  unfold iV
  (repeat' (first|exact PF.nil_le|refine PF.aA ?_ ?_))<;>first|(simp -implicitDefEqProofs only[go_sem,γ]<;>rfl)|rfl
structure ajW (f:aH) (row:List Int):Prop where
 len:row.length≤16777216
 at_:∀ x∈row,-1≤x∧x<(f.drives.length:Nat)
def home (row:List Int) (i:Nat):Bool:=decide (row.getD i 0<0)
def eJ (f:aH) (p:cM) (row:List Int) (i:Nat):Bool:=decide (0≤row.getD i 0)&&!p.models.contains ((mdl f (row.getD i 0).toNat:Nat):Int)
theorem aNG (f:aH) (xs:List Int) {x:Int} (h:x<0):dU f (xs++[x])=dU f xs:=by
 refine biO (by simp[dU]) fun i h1 h2=>?_
 simp only[dU,bhL,List.getElem_range,mF,List.countP_append]
 have:MB f i x=false:=by simp[MB]; omega
 simp[this]
theorem aWG {C:Ctx} (L:zP C) (f:aH) (hV:VF f) (o:Obs) (hn:o.Ne) (v:Nat) (p:cM) (hp:∀ m∈p.models,0≤m∧m<f.models.length) (row:List Int) (hr:ajW f row) (K:cC) (F:PF) (H:PH)
  (hF:(iV f o .nils .nils row 0).le F) (hH:gY H o v p (marks f.models.length p.models) (dW f.drives.length []) (dU f []))
  (hK:∀ v12 v13 F' H',(iV f o v12 v13 row row.length).le F'→gY H' o v p (marks f.models.length p.models) (dW f.drives.length row) (dU f row)→bB H' 3 v12 (dP (cF 2 v row.length (home row)))→bB H' 3 v13 (dP (cF 4 v row.length (eJ f p row)))→Dis 3 v12 v13→K (.exit 2) F' H') :
  aD.wp C (.loop oZ) K F H:=by
 obtain⟨hr1,hr2⟩:=hr
 refine wp_loop (α:=Nat × PV × PV × PH) (fun t=>iV f o t.2.1 t.2.2.1 row t.1) (fun t=>t.2.2.2)
  (fun t=>t.1≤row.length∧gY t.2.2.2 o v p (marks f.models.length p.models) (dW f.drives.length (row.take t.1)) (dU f (row.take t.1))∧bB t.2.2.2 3 t.2.1 (dP (cF 2 v t.1 (home row)))∧bB t.2.2.2 3 t.2.2.1 (dP (cF 4 v t.1 (eJ f p row)))∧Dis 3 t.2.1 t.2.2.1)
  (fun t=>row.length-t.1) (0,.nils,.nils,H) ⟨bgE _,by rw[List.take_zero]; exact hH,.nil,.nil,.nil⟩ hF PH.le_refl ?_
 rintro⟨k,v12,v13,H0⟩ ⟨hk,hR,h12,h13,hd⟩
 simp only at hk hR h12 h13 hd ⊢
 by_cases hlt:k<row.length
 ·have hlt':(k:Int)<(row.length:Nat):=by omega
  have hrk:(row.map fun n=>[PV.int .i64 n])[k]?=some [.int .i64 row[k]]:=by simp[hlt]
  have hg:row.getD k 0=row[k]:=by simp[bgT,hlt]
  have htk:row.take (k+1)=row.take k++[row[k]]:=biG hlt
  have hx:=hr2 row[k] (bgA hlt)
  have e2:=mL 2 v k (home row)
  have e4:=mL 4 v k (eJ f p row)
  have hh:home row k=decide (row[k]<0):=by rw[home,hg]
  have ha:eJ f p row k=(decide (0≤row[k])&&!p.models.contains ((mdl f (row[k]).toNat:Nat):Int)):=by rw[eJ,hg]
  have l2:=eS 2 v k (home row)
  have l4:=eS 4 v k (eJ f p row)
  have fin:∀ v12' v13' (F:PF) (H1:PH),(iV f o v12' v13' row (k+1)).le F→gY H1 o v p (marks f.models.length p.models) (dW f.drives.length (row.take (k+1))) (dU f (row.take (k+1)))→bB H1 3 v12' (dP (cF 2 v (k+1) (home row)))→bB H1 3 v13' (dP (cF 4 v (k+1) (eJ f p row)))→Dis 3 v12' v13' →
    fQ (fun (t:Nat × PV × PV × PH)=>iV f o t.2.1 t.2.2.1 row t.1) (fun t=>t.2.2.2)
     (fun t=>t.1≤row.length∧gY t.2.2.2 o v p (marks f.models.length p.models) (dW f.drives.length (row.take t.1)) (dU f (row.take t.1))∧bB t.2.2.2 3 t.2.1 (dP (cF 2 v t.1 (home row)))∧bB t.2.2.2 3 t.2.2.1 (dP (cF 4 v t.1 (eJ f p row)))∧Dis 3 t.2.1 t.2.2.1)
     (fun t=>row.length-t.1) (row.length-k) K .normal F H1 :=
   fun v12' v13' F H1 hF hR h1 h2 h3=>aJ (α:=Nat × PV × PV × PH) (k+1,v12',v13',H1) ⟨hlt,hR,h1,h2,h3⟩ (by simp only; omega) hF PH.le_refl
  generalize hxe:row[k]=x at *
  by_cases c:x<0
  ·have o1:=PG (n:=f.drives.length) (row.take k) (x:=x) (by omega)
   have o2:=aNG f (row.take k) c
   rw[htk,o1,o2] at fin
   rw[if_pos (by rw[hh]; simp[c])] at e2
   rw[if_neg (by rw[ha]; simp; omega)] at e4
   rw[e2,e4] at fin
   simp -implicitDefEqProofs only[go_sem,γ,oZ,sF,iV,hlt',wM,hrk,wN,c,ahS]
   refine⟨159,[.ptr o.o5 1 0 0],rfl,?_⟩
   refine tO (vs:=[.int .i64 2,.int .i64 k]) (L.bad o.o5 v 2 k) rfl (PH.aA PH.nil_le hR.h5) ?_
   have hone:(1:Nat)*3≤16777216:=by decide
   simp -implicitDefEqProofs only[go_sem,υ,δ,γ,η,ζ,hone]
   refine jS (src:=[(⟨2,v,k⟩:eN).cells]) h12 h13 hd rfl (by unfold roomFor; rw[jA]; simp only[bfZ,maxLen]; omega) fun v' H' g1 g2 g3 g4=>?_
   rw[nD] at g1
   unfold iV at fin
   simp -implicitDefEqProofs only[go_sem,γ,wO,aN (show k<9223372036854775807 by omega)]
   exact fin v' v13 _ H' (by (repeat' (first|exact PF.nil_le|refine PF.aA ?_ ?_))<;>first|(simp -implicitDefEqProofs only[go_sem,γ]<;>rfl)|rfl) (hR.keep g4) g1 g2 g3
  ·obtain⟨d,rfl⟩:∃ d:Nat,x=d:=⟨x.toNat,by omega⟩
   have hdl:d<f.drives.length:=by omega
   have hdl':(d:Int)<(f.drives.length:Nat):=by omega
   obtain⟨w1,w2,w3,w4,w5⟩:=hV.drive d hdl
   have c0:(0:Int)≤(d:Int):=by omega
   rw[if_neg (by rw[hh]; simp)] at e2
   rw[decide_eq_true c0,bgR,Int.toNat_natCast] at ha
   have hcnt:(row.take k).count (d:Int)≤16777216:=biK (List.count_le_length ..) (by rw[bgJ]; omega)
   have hw:IntKind.i64.wrap ((((row.take k).count (d:Int):Nat):Int)+1)=(((row.take k).count (d:Int):Nat):Int)+1:=wrap_i64 (by omega) (by omega)
   have hcat:=uP (l:=dW f.drives.length (row.take k)) (i:=d) (by rw[gZ]; exact hdl)
   rw[aBN _ hdl] at hcat
   have hcin:=aBO (row.take k) hdl
   have hxl:(row.take k).length≤16777216:=by rw[bgJ]; omega
   rw[e2,htk] at fin
   have tail:∀ v13' (F:PF) (H1:PH),(iV f o v12 v13' row k).le F→F 17=some (.int .i64 d)→gY H1 o v p (marks f.models.length p.models) (dW f.drives.length (row.take k)) (dU f (row.take k))→bB H1 3 v12 (dP (cF 2 v k (home row)))→bB H1 3 v13' (dP (cF 4 v (k+1) (eJ f p row)))→Dis 3 v12 v13' →
     aD.wp C (.seq (.region KI) (.seq (.region KJ) (.block 4 (.loop wL)))) (eG 3 (jL C (aD.wp C (.region wO)) (fQ (fun (t:Nat × PV × PV × PH)=>iV f o t.2.1 t.2.2.1 row t.1) (fun t=>t.2.2.2)
     (fun t=>t.1≤row.length∧gY t.2.2.2 o v p (marks f.models.length p.models) (dW f.drives.length (row.take t.1)) (dU f (row.take t.1))∧bB t.2.2.2 3 t.2.1 (dP (cF 2 v t.1 (home row)))∧bB t.2.2.2 3 t.2.2.1 (dP (cF 4 v t.1 (eJ f p row)))∧Dis 3 t.2.1 t.2.2.1)
     (fun t=>row.length-t.1) (row.length-k) K))) F H1:=by
    intro v13' F H1 hF f17 hR1 g12 g13 gd
    have f3:F 3=some (.rptr f.cells):=hF 3 _ (by unfold iV; simp -implicitDefEqProofs only[go_sem,γ])
    have f14:F 14=some (.osl o.oD 1 0 f.drives.length):=hF 14 _ (by unfold iV; simp -implicitDefEqProofs only[go_sem,γ])
    simp -implicitDefEqProofs only[go_sem,δ,γ,θ,KI,f14,f17,hdl',bgQ,hR1.hD,hcat,hw,mH,hcin,KJ,f3,rV hdl,hV.aEL hdl]
    have up:=a4L (C:=C) f hV o hn v p (marks f.models.length p.models) (dW f.drives.length (row.take k++[(d:Int)])) v12 v13' (dP (cF 2 v k (home row))) (dP (cF 4 v (k+1) (eJ f p row))) row k (row.take k) hxl d hdl
    simp only[aD.wp,go_sem] at up
    refine up _ _ _ ?_ (hR1.beI hn _) (g12.set hR1.hD (by decide)) (g13.set hR1.hD (by decide)) ?_
    ·have g:=fun (q:Nat) u h=>hF q u h
     unfold iV at g
     unfold aLW
     refine PF.aA (PF.aA (PF.aA (PF.aA (PF.aA (PF.aA (PF.aA (PF.aA (PF.aA (PF.aA (PF.aA (PF.aA (PF.aA PF.nil_le ?_) ?_) ?_) ?_) ?_) ?_) ?_) ?_) ?_) ?_) ?_) ?_) ?_
     ·simp -implicitDefEqProofs only[go_sem,γ]; exact g 3 _ rfl
     ·simp -implicitDefEqProofs only[go_sem,γ]; exact g 5 _ rfl
     ·simp -implicitDefEqProofs only[go_sem,γ]; exact g 7 _ rfl
     ·simp -implicitDefEqProofs only[go_sem,γ]; exact g 8 _ rfl
     ·simp -implicitDefEqProofs only[go_sem,γ]; exact g 11 _ rfl
     ·simp -implicitDefEqProofs only[go_sem,γ]; exact g 12 _ rfl
     ·simp -implicitDefEqProofs only[go_sem,γ]; exact g 13 _ rfl
     ·simp -implicitDefEqProofs only[go_sem,γ]; exact g 14 _ rfl
     ·simp -implicitDefEqProofs only[go_sem,γ]; exact g 15 _ rfl
     ·simp -implicitDefEqProofs only[go_sem,γ]; exact g 62 _ rfl
     ·simp -implicitDefEqProofs only[go_sem,γ]; exact g 63 _ rfl
     ·simp -implicitDefEqProofs only[go_sem,γ]; exact g 64 _ rfl
     ·simp -implicitDefEqProofs only[go_sem,γ]
    ·intro F' H' hF' hR' g12' g13'
     have g:=fun (q:Nat) u h=>hF' q u h
     unfold iV at g
     have f64:F' 64=some (.int .i64 k):=g 64 _ rfl
     simp -implicitDefEqProofs only[go_sem,wO,f64,aN (show k<9223372036854775807 by omega)]
     refine fin v12 v13' _ H' ?_ hR' g12' g13' gd
     unfold iV
     refine PF.aA (PF.aA (PF.aA (PF.aA (PF.aA (PF.aA (PF.aA (PF.aA (PF.aA (PF.aA (PF.aA (PF.aA PF.nil_le ?_) ?_) ?_) ?_) ?_) ?_) ?_) ?_) ?_) ?_) ?_) ?_
     ·simp -implicitDefEqProofs only[go_sem,γ]; exact g 3 _ rfl
     ·simp -implicitDefEqProofs only[go_sem,γ]; exact g 5 _ rfl
     ·simp -implicitDefEqProofs only[go_sem,γ]; exact g 7 _ rfl
     ·simp -implicitDefEqProofs only[go_sem,γ]; exact g 8 _ rfl
     ·simp -implicitDefEqProofs only[go_sem,γ]; exact g 11 _ rfl
     ·simp -implicitDefEqProofs only[go_sem,γ]; exact g 12 _ rfl
     ·simp -implicitDefEqProofs only[go_sem,γ]; exact g 13 _ rfl
     ·simp -implicitDefEqProofs only[go_sem,γ]; exact g 14 _ rfl
     ·simp -implicitDefEqProofs only[go_sem,γ]; exact g 15 _ rfl
     ·simp -implicitDefEqProofs only[go_sem,γ]; exact g 62 _ rfl
     ·simp -implicitDefEqProofs only[go_sem,γ]; exact g 63 _ rfl
     ·simp -implicitDefEqProofs only[go_sem,γ]
   simp only[aD.wp,go_sem] at tail
   have hml:((mdl f d:Nat):Int)<(f.models.length:Nat):=by omega
   have hmk:(eU (marks f.models.length p.models))[mdl f d]?=some [.bool (p.models.contains ((mdl f d:Nat):Int))]:=by
    have:=QP (n:=f.models.length) (l:=p.models) (m:=((mdl f d:Nat):Int)) (by omega) hml
    rw[Int.toNat_natCast] at this
    unfold eU
    rw[bhG,this]; rfl
   cases hb:p.models.contains ((mdl f d:Nat):Int) with
   | true =>
    rw[hb] at hmk ha
    rw[if_neg (by rw[ha]; simp)] at e4
    rw[e4] at tail
    simp -implicitDefEqProofs only[go_sem,δ,γ,θ,oZ,sF,iV,hlt',wM,hrk,wN,c,KH,rV hdl,hV.aqF hdl,hml,bgQ,hR.h8,hmk,bgB]
    exact tail v13 _ H0 (by unfold iV; (repeat' (first|exact PF.nil_le|refine PF.aA ?_ ?_))<;>first|(simp -implicitDefEqProofs only[go_sem,γ]<;>rfl)|rfl) rfl hR h12 h13 hd
   | false =>
    rw[hb] at hmk ha
    rw[if_pos (by rw[ha]; simp)] at e4
    rw[e4] at tail
    simp -implicitDefEqProofs only[go_sem,δ,γ,θ,oZ,sF,iV,hlt',wM,hrk,wN,c,KH,rV hdl,hV.aqF hdl,hml,bgQ,hR.h8,hmk,bgM,ahT]
    refine⟨159,[.ptr o.o5 1 0 0],rfl,?_⟩
    refine tO (vs:=[.int .i64 4,.int .i64 k]) (L.bad o.o5 v 4 k) rfl (PH.aA PH.nil_le hR.h5) ?_
    have hone:(1:Nat)*3≤16777216:=by decide
    simp -implicitDefEqProofs only[go_sem,υ,δ,γ,η,ζ,hone]
    refine jS (src:=[(⟨4,v,k⟩:eN).cells]) h13 h12 hd.symm rfl (by unfold roomFor; rw[jA]; simp only[bfZ,maxLen]; omega) fun v' H' g1 g2 g3 g4=>?_
    rw[nD] at g1
    exact tail v' _ H' (by unfold iV; (repeat' (first|exact PF.nil_le|refine PF.aA ?_ ?_))<;>first|(simp -implicitDefEqProofs only[go_sem,γ]<;>rfl)|rfl) rfl (hR.keep g4) g2 g1 g3.symm
 ·have hlt':¬ (k:Int)<(row.length:Nat):=by omega
  have:k=row.length:=by omega
  subst this
  rw[bhB] at hR
  simp -implicitDefEqProofs only[go_sem,γ,oZ,sF,iV,hlt']
  exact hK v12 v13 _ _ (by unfold iV; (repeat' (first|exact PF.nil_le|refine PF.aA ?_ ?_))<;>first|(simp -implicitDefEqProofs only[go_sem,γ]<;>rfl)|rfl) hR h12 h13 hd
end Go.PM
namespace Go.PM
open Go Go.Na
def nY (f:aH) (row:List Int) (d:Nat):Bool:=decide ((dW f.drives.length row).getD d 0>1)
def dZ (f:aH) (p:cM) (i:Nat):Int:=p.spread (lvl f i).toNat
def sO (f:aH) (p:cM) (row:List Int) (i:Nat):Bool:=decide (dZ f p i>0)&&decide ((dU f row).getD i 0>dZ f p i)
def nN (f:aH) (p:cM) (v:Nat) (row:List Int):List eN :=
 cF 2 v row.length (home row)++cF 3 v f.drives.length (nY f row)++cF 4 v row.length (eJ f p row)++cF 5 v f.domains.length (sO f p row)
def DV (f:aH) (o:Obs) (v13 v19:PV) (k:Nat):PF :=
 ((((((((((PF.nil.set 3 (.rptr f.cells)).set 5 (.ptr o.o5 1 0 0)).set 7 (.ptr o.o7 17 0 0)).set 11 (.fn 159 [.ptr o.o5 1 0 0])).set 13 (v13)).set 15 (.osl o.oB 1 0 f.domains.length)).set 19 (v19)).set 121 (.osl o.oD 1 0 f.drives.length)).set 122 (.int .i64 (f.drives.length:Nat))).set 123 (.int .i64 k))
def ajX (f:aH) (o:Obs) (v19:PV) (k:Nat):PF :=
 ((((((((PF.nil.set 3 (.rptr f.cells)).set 5 (.ptr o.o5 1 0 0)).set 7 (.ptr o.o7 17 0 0)).set 11 (.fn 159 [.ptr o.o5 1 0 0])).set 19 (v19)).set 140 (.osl o.oB 1 0 f.domains.length)).set 141 (.int .i64 (f.domains.length:Nat))).set 142 (.int .i64 k))
theorem aQO {C:Ctx} (L:zP C) (f:aH) (hV:VF f) (o:Obs) (v:Nat) (p:cM) (A:List Bool) (B:List Int) (row:List Int) (l0:List eN) (hl0:l0.length≤16777216) (v13 v19:PV) (R13:List (List PV)) (K:cC) (F:PF) (H:PH)
  (hF:(DV f o v13 v19 0).le F) (hH:gY H o v p A (dW f.drives.length row) B) (h19:bB H 3 v19 (dP l0)) (h13:bB H 3 v13 R13) (hd:Dis 3 v19 v13)
  (hK:∀ v' F' H',(DV f o v13 v' f.drives.length).le F'→gY H' o v p A (dW f.drives.length row) B→bB H' 3 v' (dP (l0++cF 3 v f.drives.length (nY f row)))→bB H' 3 v13 R13→Dis 3 v' v13→K (.exit 6) F' H') :
  aD.wp C (.loop KF) K F H:=by
 have hs:=hV.small.drives
 refine wp_loop (α:=Nat × PV × PH) (fun t=>DV f o v13 t.2.1 t.1) (fun t=>t.2.2) (fun t=>t.1≤f.drives.length∧gY t.2.2 o v p A (dW f.drives.length row) B∧bB t.2.2 3 t.2.1 (dP (l0++cF 3 v t.1 (nY f row)))∧bB t.2.2 3 v13 R13∧Dis 3 t.2.1 v13) (fun t=>f.drives.length-t.1) (0,v19,H)
  ⟨bgE _,hH,by rw[show cF 3 v 0 (nY f row)=[] from rfl,bhN]; exact h19,h13,hd⟩ hF PH.le_refl ?_
 rintro⟨k,v',H0⟩ ⟨hk,hR,g19,g13,gd⟩
 simp only at hk hR g19 g13 gd ⊢
 simp -implicitDefEqProofs only[go_sem,γ,KF,ahZ,DV]
 by_cases hlt:k<f.drives.length
 ·have hlt':(k:Int)<(f.drives.length:Nat):=by omega
  have hat:=uP (l:=dW f.drives.length row) (i:=k) (by rw[gZ]; exact hlt)
  have hgk:(dW f.drives.length row).getD k 0=(dW f.drives.length row)[k]'(by rw[gZ]; exact hlt):=by
   rw[bgT,bgF (by rw[gZ]; exact hlt)]; rfl
  have e3:=mL 3 v k (nY f row)
  have ht:nY f row k=decide ((dW f.drives.length row)[k]'(by rw[gZ]; exact hlt)>1):=by rw[nY,hgk]
  have hl3:=eS 3 v k (nY f row)
  simp -implicitDefEqProofs only[go_sem,γ,hlt',aiA,bgQ,hR.hD,hat,aiB]
  by_cases c:(dW f.drives.length row)[k]'(by rw[gZ]; exact hlt)>1
  ·rw[if_pos (by rw[ht]; simp[c])] at e3
   simp -implicitDefEqProofs only[go_sem,γ,c,aiC]
   refine⟨159,[.ptr o.o5 1 0 0],rfl,?_⟩
   refine tO (vs:=[.int .i64 3,.int .i64 k]) (L.bad o.o5 v 3 k) rfl (PH.aA PH.nil_le hR.h5) ?_
   have hone:(1:Nat)*3≤16777216:=by decide
   simp -implicitDefEqProofs only[go_sem,υ,δ,γ,η,ζ,hone]
   refine jS (src:=[(⟨3,v,k⟩:eN).cells]) g19 g13 gd rfl (by unfold roomFor; rw[jA,bfW]; simp only[bfZ,maxLen]; omega) fun v' H' k1 k2 k3 k4=>?_
   rw[nD,bgY,← e3] at k1
   simp -implicitDefEqProofs only[go_sem,γ,KK,aN (show k<9223372036854775807 by omega)]
   refine aJ (k+1,v',H') ⟨hlt,hR.keep k4,k1,k2,k3⟩ (by simp only; omega) ?_ PH.le_refl
   (repeat' (first|exact PF.nil_le|refine PF.aA ?_ ?_))<;>first|(simp -implicitDefEqProofs only[go_sem,γ]<;>rfl)|rfl
  ·rw[if_neg (by rw[ht]; simp; omega)] at e3
   rw[← e3] at g19
   simp -implicitDefEqProofs only[go_sem,γ,c,KK,aN (show k<9223372036854775807 by omega)]
   refine aJ (k+1,v',H0) ⟨hlt,hR,g19,g13,gd⟩ (by simp only; omega) ?_ PH.le_refl
   (repeat' (first|exact PF.nil_le|refine PF.aA ?_ ?_))<;>first|(simp -implicitDefEqProofs only[go_sem,γ]<;>rfl)|rfl
 ·have hlt':¬ (k:Int)<(f.drives.length:Nat):=by omega
  have:k=f.drives.length:=by omega
  subst this
  simp -implicitDefEqProofs only[go_sem,hlt']
  exact hK v' _ _ (by unfold DV; (repeat' (first|exact PF.nil_le|refine PF.aA ?_ ?_))<;>first|(simp -implicitDefEqProofs only[go_sem,γ]<;>rfl)|rfl) hR g19 g13 gd
theorem aLX {C:Ctx} (f:aH) (hV:VF f) (o:Obs) (v:Nat) (p:cM) (A:List Bool) (D B:List Int) (i:Nat) (hi:i<f.domains.length) (K:PF→PH→Prop) (F:PF) (H:PH)
  (hH:gY H o v p A D B) (f3:F 3=some (.rptr f.cells)) (f7:F 7=some (.ptr o.o7 17 0 0)) (f22:F 22=some (.int .i64 i))
  (hK:∀ F':PF,F' 24=some (.int .i64 (dZ f p i))→(∀ j,j<147→j≠24→F' j=F j)→K F' H):wpOps C KL K F H:=by
 obtain⟨l0,l4,-⟩:=hV.oS hi
 have h5:((lvl f i)<((5:Nat):Int)):=by omega
 unfold dZ at hK
 simp -implicitDefEqProofs only[go_sem,δ,γ,θ,KL,f3,f7,f22,mR hi,apZ hi,l0,h5,Nat.mul_one]
 have hc:lvl f i=0∨lvl f i=1∨lvl f i=2∨lvl f i=3∨lvl f i=4:=by omega
 have fin:∀ (F':PF),F' 24=some (.int .i64 (p.spread (lvl f i).toNat))→(∀ j,j<147→j≠24→F' j=F j)→K F' H:=hK
 have low:∀ (j:Nat),j<147→j≠147∧j≠148∧j≠149∧j≠150∧j≠151∧j≠152∧j≠153∧j≠154∧j≠155:=by omega
 rcases hc with h | h | h | h | h
 all_goals
  rw[h] at fin ⊢
  simp -implicitDefEqProofs only[go_sem,ν,δ,γ,θ,hH.h7]
  refine fin _ rfl fun j hj hj2=>?_
  obtain⟨n1,n2,n3,n4,n5,n6,n7,n8,n9⟩:=low j hj
  simp -implicitDefEqProofs only[go_sem,hj2,n1,n2,n3,n4,n5,n6,n7,n8,n9]
theorem aQN {C:Ctx} (L:zP C) (f:aH) (hV:VF f) (o:Obs) (v:Nat) (p:cM) (A:List Bool) (D:List Int) (row:List Int) (l0:List eN) (hl0:l0.length≤100000000) (v19:PV) (K:cC) (F:PF) (H:PH)
  (hF:(ajX f o v19 0).le F) (hH:gY H o v p A D (dU f row)) (h19:bB H 3 v19 (dP l0))
  (hK:∀ v' F' H',F' 19=some v'→bB H' 3 v' (dP (l0++cF 5 v f.domains.length (sO f p row)))→K (.exit 8) F' H') :
  aD.wp C (.loop KG) K F H:=by
 have hs:=hV.small.domains
 refine wp_loop (α:=Nat × PV × PH) (fun t=>ajX f o t.2.1 t.1) (fun t=>t.2.2) (fun t=>t.1≤f.domains.length∧gY t.2.2 o v p A D (dU f row)∧bB t.2.2 3 t.2.1 (dP (l0++cF 5 v t.1 (sO f p row)))) (fun t=>f.domains.length-t.1) (0,v19,H)
  ⟨bgE _,hH,by rw[show cF 5 v 0 (sO f p row)=[] from rfl,bhN]; exact h19⟩ hF PH.le_refl ?_
 rintro⟨k,v',H0⟩ ⟨hk,hR,g19⟩
 simp only at hk hR g19 ⊢
 simp -implicitDefEqProofs only[go_sem,γ,KG,aiF,ajX]
 by_cases hlt:k<f.domains.length
 ·have hlt':(k:Int)<(f.domains.length:Nat):=by omega
  have hat:=uP (l:=dU f row) (i:=k) (by rw[rU]; exact hlt)
  have hgk:(dU f row).getD k 0=(dU f row)[k]'(by rw[rU]; exact hlt):=by
   rw[bgT,bgF (by rw[rU]; exact hlt)]; rfl
  have e5:=mL 5 v k (sO f p row)
  have hl5:=eS 5 v k (sO f p row)
  have ht:sO f p row k=(decide (dZ f p k>0)&&decide ((dU f row)[k]'(by rw[rU]; exact hlt)>dZ f p k)):=by rw[sO,hgk]
  generalize (dU f row)[k]'(by rw[rU]; exact hlt)=cnt at *
  simp -implicitDefEqProofs only[go_sem,γ,hlt',aiG,bgQ,hR.hB,hat]
  refine aLX f hV o v p A D (dU f row) k hlt _ _ _ hR rfl rfl rfl fun F' h24 hlow=>?_
  have g:=fun (q:Nat) (h1:q<147) (h2:q≠24)=>hlow q h1 h2
  have q3:=g 3 (by decide) (by decide)
  have q5:=g 5 (by decide) (by decide)
  have q7:=g 7 (by decide) (by decide)
  have q11:=g 11 (by decide) (by decide)
  have q19:=g 19 (by decide) (by decide)
  have aWB:=g 140 (by decide) (by decide)
  have aWC:=g 141 (by decide) (by decide)
  have abE:=g 142 (by decide) (by decide)
  have q22:=g 22 (by decide) (by decide)
  have q23:=g 23 (by decide) (by decide)
  simp -implicitDefEqProofs only [go_sem,Nat.reduceEqDiff,reduceIte] at q3 q5 q7 q11 q19 aWB aWC abE q22 q23
  by_cases c1:dZ f p k>0
  ·by_cases c2:cnt>dZ f p k
   ·rw[if_pos (by rw[ht]; simp[c1,c2])] at e5
    simp -implicitDefEqProofs only[go_sem,γ,wP,h24,q23,c1,c2,aiH,q19,q11,q22]
    refine⟨159,[.ptr o.o5 1 0 0],rfl,?_⟩
    refine tO (vs:=[.int .i64 5,.int .i64 k]) (L.bad o.o5 v 5 k) rfl (PH.aA PH.nil_le hR.h5) ?_
    have hone:(1:Nat)*3≤16777216:=by decide
    simp -implicitDefEqProofs only[go_sem,υ,δ,γ,η,ζ,hone]
    refine jS (rows':=[]) (u:=.nils) (src:=[(⟨5,v,k⟩:eN).cells]) g19 .nil (fun _ _ _ _ _ h=>by cases h) rfl (by unfold roomFor; rw[jA,bfW]; simp only[bfZ,maxLen]; omega) fun v' H' k1 k2 k3 k4=>?_
    rw[nD,bgY,← e5] at k1
    simp -implicitDefEqProofs only[go_sem,γ,wQ,abE,aN (show k<9223372036854775807 by omega)]
    refine aJ (k+1,v',H') ⟨hlt,hR.keep k4,k1⟩ (by simp only; omega) ?_ PH.le_refl
    repeat' first|exact PF.nil_le|refine PF.aA ?_ ?_|rfl|assumption
   ·rw[if_neg (by rw[ht]; simp; omega)] at e5
    rw[← e5] at g19
    simp -implicitDefEqProofs only[go_sem,γ,wP,h24,q23,c1,c2,wQ,abE,aN (show k<9223372036854775807 by omega)]
    refine aJ (k+1,v',H0) ⟨hlt,hR,g19⟩ (by simp only; omega) ?_ PH.le_refl
    repeat' first|exact PF.nil_le|refine PF.aA ?_ ?_|rfl|assumption
  ·rw[if_neg (by rw[ht]; simp; omega)] at e5
   rw[← e5] at g19
   simp -implicitDefEqProofs only[go_sem,γ,reduceCtorEq,wP,h24,q23,c1,wQ,abE,aN (show k<9223372036854775807 by omega)]
   refine aJ (k+1,v',H0) ⟨hlt,hR,g19⟩ (by simp only; omega) ?_ PH.le_refl
   repeat' first|exact PF.nil_le|refine PF.aA ?_ ?_|rfl|assumption
 ·have hlt':¬ (k:Int)<(f.domains.length:Nat):=by omega
  have:k=f.domains.length:=by omega
  subst this
  simp -implicitDefEqProofs only[go_sem,hlt']
  exact hK v' _ _ rfl g19
end Go.PM
namespace Go.PM
open Go Go.Na
theorem alB (n:Nat):bfV n [PV.bool false]=eU (marks n []):=by rw[adU]; simp[eU]
theorem aMZ (n:Nat):bfV n [PV.int .i64 0]=dB (dW n []):=by rw[alE,rB]
theorem aSU (f:aH):bfV f.domains.length [PV.int .i64 0]=dB (dU f []):=by
 have:dU f []=bfV f.domains.length 0:=by
  refine biO (by simp[dU]) fun i h1 h2=>?_
  simp[dU,mF]
 rw[this,rB]
def aLV (f:aH) (l:List (List Int)) (o5 o7 o8:Nat) (ms:List Int) (k:Nat):PF :=
 ((((((((PF.nil.set 1 (lay l)).set 3 (.rptr f.cells)).set 5 (.ptr o5 1 0 0)).set 7 (.ptr o7 17 0 0)).set 8 (.osl o8 1 0 f.models.length)).set 40 (ints ms)).set 41 (.int .i64 (ms.length:Nat))).set 42 (.int .i64 k))
theorem aWW {C:Ctx} (L:zP C) (f:aH) (hV:VF f) (hfit:∀ p∈f.policies,Fits p.models) (l:List (List Int)) (v:Nat) (hv:v<l.length) (hvf:v<f.volumes.length) (hr:ajW f l[v]) :
  EK.wp C (aX ajY.res (bY (zL (nN f (gC f v) v l[v])))) (PF.args [.agg f.cells,lay l,.int .i64 v]) .nil:=by
 obtain⟨hp,he⟩:=oJ hV hvf
 have hpol:=hV.policy _ (bgA hp)
 have hms:=hfit _ (bgA hp)
 rw[he] at hpol hms
 generalize hpe:gC f v=p at *
 have hpm:=hpol.2.2.2.2.2.2.2
 have hrow:(l.map fun r=>[ints r])[v]?=some [ints l[v]]:=by simp[hv]
 generalize l[v]=row at *
 have hs:=hV.small
 have hb1:((f.models.length:Nat):Int)*((1:Nat):Int)≤140737488355328:=by have:=hs.models; omega
 have hb2:((f.models.length:Nat):Int)≤9223372036854775807:=by have:=hs.models; omega
 have hb3:((f.drives.length:Nat):Int)*((8:Nat):Int)≤140737488355328:=by have:=hs.drives; omega
 have hb4:((f.drives.length:Nat):Int)≤9223372036854775807:=by have:=hs.drives; omega
 have hb5:((f.domains.length:Nat):Int)*((8:Nat):Int)≤140737488355328:=by have:=hs.domains; omega
 have hb6:((f.domains.length:Nat):Int)≤9223372036854775807:=by have:=hs.domains; omega
 simp -implicitDefEqProofs only[go_sem,γ,EK,awC]
 refine aP fun o5 h5=>?_
 simp -implicitDefEqProofs only[go_sem]
 refine cD (PH.nil.set o5 (.rows 1 [[.int .i64 v]])) dS (PH.aA PH.nil_le (by simp -implicitDefEqProofs only[go_sem])) ?_
 simp -implicitDefEqProofs only[go_sem,δ,γ,θ,reduceCtorEq,awD,FF hvf,hV.auE hvf,yL hp,he]
 refine aP fun o7 h7=>?_
 have n57:o5≠o7:=by rintro rfl; simp only[aV,if_true] at h7; cases h7
 simp -implicitDefEqProofs only[go_sem,δ,γ,n57]
 refine⟨PH.aA PH.nil_le (by simp -implicitDefEqProofs only[go_sem,n57]),?_⟩
 simp -implicitDefEqProofs only[go_sem,δ,γ,θ,awE,bfT,hb1,hb2]
 refine aP fun o8 h8=>?_
 have n58:o5≠o8:=by rintro rfl; simp only[aV,n57,if_true,if_false] at h8; cases h8
 have n78:o7≠o8:=by rintro rfl; simp only[aV,if_true] at h8; cases h8
 simp -implicitDefEqProofs only[go_sem,δ,γ,θ,awF,n78,bfT]
 rw[alB]
 refine wp_loop (α:=Nat) (fun k=>aLV f l o5 o7 o8 p.models k) (fun k=>((PH.nil.set o5 (.rows 1 [[.int .i64 v]])).set o7 (.rows 17 [p.cells])).set o8 (.rows 1 (eU (marks f.models.length (p.models.take k))))) (fun k=>k≤p.models.length) (fun k=>p.models.length-k) 0 (bgE _) ?_ ?_ ?_
 ·unfold aLV
  (repeat' (first|exact PF.nil_le|refine PF.aA ?_ ?_))<;>first|(simp -implicitDefEqProofs only[go_sem,γ,bfT]<;>rfl)|rfl
 ·refine PH.aA (PH.aA (PH.aA PH.nil_le ?_) ?_) ?_
  ·simp -implicitDefEqProofs only[go_sem,n57,n58]
  ·simp -implicitDefEqProofs only[go_sem,n78]
  ·simp -implicitDefEqProofs only[go_sem,List.take_zero]
 intro k hk
 simp -implicitDefEqProofs only[go_sem,γ,awB,awG,aLV]
 by_cases hlt:k<p.models.length
 ·have hlt':(k:Int)<(p.models.length:Nat):=by omega
  have hmk:(p.models.map fun n=>[PV.int .i64 n])[k]?=some [.int .i64 p.models[k]]:=by simp[hlt]
  obtain⟨m1,m2⟩:=hpm _ (bgA hlt)
  have hbl:(p.models[k]).toNat<(eU (marks f.models.length (p.models.take k))).length:=by rw[abS,aOT]; omega
  have hbs:(eU (marks f.models.length (p.models.take k)))[(p.models[k]).toNat]?=some [.bool ((p.models.take k).contains p.models[k])]:=by
   unfold eU
   rw[bhG,QP m1 m2]; rfl
  simp -implicitDefEqProofs only[go_sem,γ,hlt',awH,hmk,awI,m1,m2,bgQ,hbs,rQ,adV m1 m2,awJ,aN (show k<9223372036854775807 by omega)]
  refine aJ (k+1) hlt (by omega) ?_ ?_
  ·(repeat' (first|exact PF.nil_le|refine PF.aA ?_ ?_))<;>first|(simp -implicitDefEqProofs only[go_sem,γ]<;>rfl)|rfl
  ·rw[biG hlt]
   refine PH.aA (PH.aA (PH.aA PH.nil_le ?_) ?_) ?_
   ·simp -implicitDefEqProofs only[go_sem,n57,n58]
   ·simp -implicitDefEqProofs only[go_sem,n78]
   ·simp -implicitDefEqProofs only[go_sem]
 ·have hlt':¬ (k:Int)<(p.models.length:Nat):=by omega
  have:k=p.models.length:=by omega
  subst this
  simp -implicitDefEqProofs only[go_sem,γ,hlt',awK,ahP,bhB]
  refine cD .nil dS PH.nil_le ?_
  simp -implicitDefEqProofs only[go_sem,δ,γ,θ,ahQ,bfT,hb3,hb4,hb5,hb6]
  refine aP fun oD hD=>?_
  have n5D:o5≠oD:=by rintro rfl; simp only[aV,n57,n58,if_true,if_false] at hD; cases hD
  have n7D:o7≠oD:=by rintro rfl; simp only[aV,n78,if_true,if_false] at hD; cases hD
  have n8D:o8≠oD:=by rintro rfl; simp only[aV,if_true] at hD; cases hD
  simp -implicitDefEqProofs only[go_sem,δ,γ,θ,bfT,hb3,hb4,hb5,hb6]
  refine aP fun oB hB=>?_
  have n5B:o5≠oB:=by rintro rfl; simp only[aV,n57,n58,n5D,if_true,if_false] at hB; cases hB
  have n7B:o7≠oB:=by rintro rfl; simp only[aV,n78,n7D,if_true,if_false] at hB; cases hB
  have n8B:o8≠oB:=by rintro rfl; simp only[aV,n8D,if_true,if_false] at hB; cases hB
  have nDB:oD≠oB:=by rintro rfl; simp only[aV,if_true] at hB; cases hB
  rw[aMZ,aSU]
  simp -implicitDefEqProofs only[go_sem,γ,ahR,n57,n58,n5D,n5B,hrow,bfT]
  have hne:(⟨o5,o7,o8,oD,oB⟩:Obs).Ne:=⟨n5D,n5B,n7D,n7B,n8D,n8B,nDB⟩
  refine aWG L f hV ⟨o5,o7,o8,oD,oB⟩ hne v p hpm row hr _ _ _ ?_ ⟨?_,?_,?_,?_,?_⟩ ?_
  ·unfold iV
   (repeat' (first|exact PF.nil_le|refine PF.aA ?_ ?_))<;>first|(simp -implicitDefEqProofs only[go_sem,γ]<;>rfl)|rfl
  ·simp -implicitDefEqProofs only[go_sem,n57,n58,n5D,n5B]
  ·simp -implicitDefEqProofs only[go_sem,n78,n7D,n7B]
  ·simp -implicitDefEqProofs only[go_sem,n8D,n8B]
  ·simp -implicitDefEqProofs only[go_sem,nDB]
  ·simp -implicitDefEqProofs only[go_sem]
  intro v12 v13 F1 H1 hF1 hR1 g12 g13 gd
  have g:=fun (q:Nat) u h=>hF1 q u h
  unfold iV at g
  have q3:=g 3 _ rfl
  have q5:=g 5 _ rfl
  have q7:=g 7 _ rfl
  have q11:=g 11 _ rfl
  have q12:=g 12 _ rfl
  have q13:=g 13 _ rfl
  have q14:=g 14 _ rfl
  have q15:=g 15 _ rfl
  simp -implicitDefEqProofs only[go_sem,γ,ahX,q12,ahY,q14]
  have l2:=eS 2 v row.length (home row)
  have l3:=eS 3 v f.drives.length (nY f row)
  have l4:=eS 4 v row.length (eJ f p row)
  have hr1:=hr.len
  have hd24:=hs.drives
  refine aQO L f hV ⟨o5,o7,o8,oD,oB⟩ v p _ _ row (cF 2 v row.length (home row)) (by omega) v13 v12 _ _ _ H1 ?_ hR1 g12 g13 gd ?_
  ·unfold DV
   repeat' first|exact PF.nil_le|refine PF.aA ?_ ?_|rfl|assumption
  intro v19 F2 H2 hF2 hR2 g19 g13' gd2
  have g:=fun (q:Nat) u h=>hF2 q u h
  unfold DV at g
  have q3:=g 3 _ rfl
  have q5:=g 5 _ rfl
  have q7:=g 7 _ rfl
  have q11:=g 11 _ rfl
  have q13:=g 13 _ rfl
  have q15:=g 15 _ rfl
  have q19:=g 19 _ rfl
  simp -implicitDefEqProofs only[go_sem,γ,aiD,q19,q13]
  refine jS g19 g13' gd2 g13'.view (by unfold roomFor; rw[jA,jA,bfW]; simp only[maxLen]; omega) fun v19' H3 k1 k2 k3 k4=>?_
  simp -implicitDefEqProofs only[go_sem,γ,aiE,q15]
  have hvr:dP (cF 2 v row.length (home row)++cF 3 v f.drives.length (nY f row))++dP (cF 4 v row.length (eJ f p row))=dP (cF 2 v row.length (home row)++cF 3 v f.drives.length (nY f row)++cF 4 v row.length (eJ f p row)):=by
   simp only[dP,bhS]
  rw[hvr] at k1
  refine aQN L f hV ⟨o5,o7,o8,oD,oB⟩ v p _ _ row _ (by simp only[bfW]; omega) v19' _ _ H3 ?_ (hR2.keep k4) k1 ?_
  ·unfold ajX
   repeat' first|exact PF.nil_le|refine PF.aA ?_ ?_|rfl|assumption
  intro v20 F4 H4 hF4 hO4
  simp -implicitDefEqProofs only[go_sem,aiI,hF4]
  exact nA (.inr rfl) hO4 rfl
end Go.PM
namespace Go.PM
open Go Go.Na
structure akQ (C:Ctx):Prop extends zP C where
 row:∀ (f:aH) (l:List (List Int)) (v:Nat),VF f→(∀ p∈f.policies,Fits p.models)→(h:v<l.length)→v<f.volumes.length→ajW f l[v]→aI C 158 [.agg f.cells,lay l,.int .i64 v] .nil (aL (zL (nN f (gC f v) v l[v])))
def yK (f:aH) (l:List (List Int)) (v:Nat):List eN:=match jZ f l v with
 | some x=>[x]
 | none=>nN f (gC f v) v (l.getD v [])
def nT (f:aH) (l:List (List Int)) (n:Nat):List eN:=(bgN n).flatMap (yK f l)
def over (f:aH) (l:List (List Int)) (room:List Int) (d:Nat):Bool:=decide ((gT f l).getD d 0>(lY f room).getD d 0)
def aMV (f:aH) (l:List (List Int)) (room:List Int):List eN:=nT f l l.length++cF 6 (-1) f.drives.length (over f l room)
def fU (f:aH) (l:List (List Int)) (room:List Int):List eN :=
 if dE f then (if l.length=f.volumes.length then aMV f l room else [⟨1,-1,(l.length:Nat)⟩]) else []
theorem FM {p:Int→Bool}:∀ {l:List Int} {i:Nat},hC p l i=none→∀ x∈l,p x=false
 | [],_,_,x,hx=>absurd hx (bgL)
 | y::t,i,h,x,hx=>by
  rw[hC] at h
  split at h
  ·cases h
  ·rename_i hy
   rcases bgD.1 hx with rfl | hx
   ·simpa using hy
   ·exact FM h x hx
theorem afP {f:aH} {l:List (List Int)} (hl:iK l) {v:Nat} (hv:v<l.length) (h:jZ f l v=none):ajW f l[v]:=by
 have hg:l.getD v []=l[v]:=by simp[bgT,hv]
 unfold jZ at h
 rw[hg] at h
 split at h
 ·rw[Option.map_eq_none_iff] at h
  refine⟨?_,fun x hx=>?_⟩
  ·have h1:=PO l (v+1)
   have:=hl.all
   rw[vO l hv,bfW] at h1
   omega
  ·have:=FM h x hx
   simp[pK] at this
   omega
 ·cases h
theorem aMT (f:aH) (p:cM) (v:Nat) (row:List Int):(nN f p v row).length≤2*row.length+f.drives.length+f.domains.length:=by
 unfold nN
 have l2:=eS 2 v row.length (home row)
 have l3:=eS 3 v f.drives.length (nY f row)
 have l4:=eS 4 v row.length (eJ f p row)
 have l5:=eS 5 v f.domains.length (sO f p row)
 simp only[bfW]
 omega
theorem atV {f:aH} (hs:Small f) {l:List (List Int)} (hl:iK l) {v:Nat} (hv:v<l.length):(yK f l v).length≤100000000:=by
 unfold yK
 split
 ·simp
 ·rename_i h
  have hg:l.getD v []=l[v]:=by simp[bgT,hv]
  have:=aMT f (gC f v) v (l.getD v [])
  have h1:=(afP hl hv h).len
  have:=hs.drives
  have:=hs.domains
  rw[hg] at *
  omega
theorem TK (f:aH) (l:List (List Int)) (n:Nat):nT f l (n+1)=nT f l n++yK f l n:=by
 unfold nT
 rw[List.range_succ,List.flatMap_append]
 simp
theorem vN {f:aH} (hs:Small f) {l:List (List Int)} (hl:iK l):∀ {n:Nat},n≤l.length→(nT f l n).length≤n*100000000
 | 0,_=>by simp[nT]
 | n+1,h=>by
  rw[TK,bfW]
  have:=vN hs hl (n:=n) (by omega)
  have:=atV hs hl (v:=n) (by omega)
  omega
def viF (f:aH) (l:List (List Int)) (room:List Int) (v7:PV) (k:Nat):PF:=((((((PF.nil.set 1 (lay l)).set 2 (ints room)).set 3 (.rptr f.cells)).set 7 (v7)).set 30 (.int .i64 (l.length:Nat))).set 31 (.int .i64 k))
def viG (f:aH) (l:List (List Int)) (room:List Int) (v7:PV) (k:Nat):PF:=(((((PF.nil.set 7 (v7)).set 11 (ints (lY f room))).set 58 (ints (gT f l))).set 59 (.int .i64 (f.drives.length:Nat))).set 60 (.int .i64 k))
theorem aSS {C:Ctx} (f:aH) (hV:VF f) (l:List (List Int)) (room:List Int) (l0:List eN) (hl0:l0.length≤2000000000) (v7:PV) (K:cC) (F:PF) (H:PH)
  (hF:(viG f l room v7 0).le F) (hO:bB H 3 v7 (dP l0))
  (hK:∀ v' F' H',F' 7=some v'→bB H' 3 v' (dP (l0++cF 6 (-1) f.drives.length (over f l room)))→K (.exit 3) F' H'):aD.wp C (.loop JZ) K F H:=by
 have hs:=hV.small.drives
 refine wp_loop (α:=Nat × PV × PH) (fun t=>viG f l room t.2.1 t.1) (fun t=>t.2.2) (fun t=>t.1≤f.drives.length∧bB t.2.2 3 t.2.1 (dP (l0++cF 6 (-1) t.1 (over f l room)))) (fun t=>f.drives.length-t.1) (0,v7,H)
  ⟨bgE _,by rw[show cF 6 (-1) 0 (over f l room)=[] from rfl,bhN]; exact hO⟩ hF PH.le_refl ?_
 rintro⟨k,v',H0⟩ ⟨hk,g7⟩
 simp only at hk g7 ⊢
 simp -implicitDefEqProofs only[go_sem,ο,γ,JZ,ahI,viG]
 by_cases hlt:k<f.drives.length
 ·have hlt':(k:Int)<(f.drives.length:Nat):=by omega
  have hk1:k<(gT f l).length:=by rw[gT,gZ]; exact hlt
  have hk2:k<(lY f room).length:=by rw[afL]; exact hlt
  have a1:((gT f l).map fun n=>[PV.int .i64 n])[k]?=some [.int .i64 (gT f l)[k]]:=by simp[hk1]
  have a2:((lY f room).map fun n=>[PV.int .i64 n])[k]?=some [.int .i64 (lY f room)[k]]:=by simp[hk2]
  have ho:over f l room k=decide ((gT f l)[k]>(lY f room)[k]):=by simp only[over,bgT,bgF hk1,bgF hk2,biM]
  have e6:=mL 6 (-1) k (over f l room)
  have l6:=eS 6 (-1) k (over f l room)
  simp -implicitDefEqProofs only[go_sem,ο,γ,hlt',ahJ,a1,ahK,a2]
  by_cases c:(gT f l)[k]>(lY f room)[k]
  ·rw[if_pos (by rw[ho]; simp[c])] at e6
   have hone:(1:Nat)*3≤16777216:=by decide
   simp -implicitDefEqProofs only[go_sem,ο,υ,δ,γ,η,θ,ζ,c,ahL,hone]
   refine jS (rows':=[]) (u:=.nils) (src:=[(⟨6,-1,k⟩:eN).cells]) g7 .nil (fun _ _ _ _ _ h=>by cases h) rfl (by unfold roomFor; rw[jA,bfW]; simp only[bfZ,maxLen]; omega) fun v' H' k1 k2 k3 k4=>?_
   rw[nD,bgY,← e6] at k1
   simp -implicitDefEqProofs only[go_sem,ο,γ,KD,aN (show k<9223372036854775807 by omega)]
   refine aJ (k+1,v',H') ⟨hlt,k1⟩ (by simp only; omega) ?_ PH.le_refl
   (repeat' (first|exact PF.nil_le|refine PF.aA ?_ ?_))<;>first|(simp -implicitDefEqProofs only[go_sem,ο,γ]<;>rfl)|rfl
  ·rw[if_neg (by rw[ho]; simp; omega)] at e6
   rw[← e6] at g7
   simp -implicitDefEqProofs only[go_sem,ο,γ,c,KD,aN (show k<9223372036854775807 by omega)]
   refine aJ (k+1,v',H0) ⟨hlt,g7⟩ (by simp only; omega) ?_ PH.le_refl
   (repeat' (first|exact PF.nil_le|refine PF.aA ?_ ?_))<;>first|(simp -implicitDefEqProofs only[go_sem,γ]<;>rfl)|rfl
 ·have hlt':¬ (k:Int)<(f.drives.length:Nat):=by omega
  have:k=f.drives.length:=by omega
  subst this
  simp -implicitDefEqProofs only[go_sem,ο,hlt']
  exact hK v' _ _ rfl g7
theorem aWU {C:Ctx} (L:akQ C) (f:aH) (hf:f.Ok) (l:List (List Int)) (hl:iK l) (room:List Int) :
  EJ.wp C (aX YD.res (bY (zL (fU f l room)))) (PF.args [.agg f.cells,lay l,ints room]) .nil:=by
 simp -implicitDefEqProofs only[go_sem,δ,γ,EJ,avS,avT,YD]
 refine aB (L.valid f hf) rfl ?_
 unfold fU
 have hlr:=hl.rows
 have hfit:∀ p∈f.policies,Fits p.models:=fun p hp=>(hf.policy p hp).models
 cases hv:dE f with
 | false =>
  simp -implicitDefEqProofs only[go_sem,ο,γ,reduceCtorEq,bgM,avU]
  exact nA (rows:=[]) (.inr rfl) .nil rfl
 | true =>
  have hV:=VF.of hv
  by_cases c:l.length=f.volumes.length
  ·have c':(((l.length:Nat):Int) != ((f.volumes.length:Nat):Int))=false:=cJ (by omega)
   rw[if_pos c]
   have hv12:=hV.small.volumes
   simp -implicitDefEqProofs only[go_sem,γ,bgB,SI,bfT,c',avW,avX]
   refine wp_loop (α:=Nat × PV × PH) (fun t=>viF f l room t.2.1 t.1) (fun t=>t.2.2) (fun t=>t.1≤l.length∧bB t.2.2 3 t.2.1 (dP (nT f l t.1))) (fun t=>l.length-t.1) (0,.nils,.nil) ⟨bgE _,.nil⟩ ?_ PH.nil_le ?_
   ·unfold viF
    (repeat' (first|exact PF.nil_le|refine PF.aA ?_ ?_))<;>first|(simp -implicitDefEqProofs only[go_sem,γ,bfT]<;>rfl)|rfl
   rintro⟨k,v7,H0⟩ ⟨hk,hO⟩
   simp only at hk hO ⊢
   simp -implicitDefEqProofs only[go_sem,γ,ahD,avY,viF]
   by_cases hlt:k<l.length
   ·have hlt':(k:Int)<(l.length:Nat):=by omega
    have hfl:=vN hV.small hl (n:=k) (by omega)
    have hsucc:=TK f l k
    simp -implicitDefEqProofs only[go_sem,δ,γ,hlt',avZ,awA]
    refine aB (L.shape f l k hV hl hlt (by omega)) rfl ?_
    cases hsh:jZ f l k with
    | some x =>
     have hone:yK f l k=[x]:=by rw[yK,hsh]
     rw[hone] at hsucc
     simp -implicitDefEqProofs only[go_sem,δ,γ,shV]
     refine aP fun o ho=>?_
     have h13:(1:Nat)*3≤16777216:=by decide
     simp -implicitDefEqProofs only[go_sem,υ,δ,γ,η,ζ,KB,ahE,h13]
     refine jS (rows':=[]) (u:=.nils) (src:=[x.cells]) (hO.fresh ho _).1 .nil (fun _ _ _ _ _ h=>by cases h) rfl (by unfold roomFor; rw[jA]; simp only[bfZ,maxLen]; omega) fun v' H' k1 k2 k3 k4=>?_
     rw[nD,← hsucc] at k1
     simp -implicitDefEqProofs only[go_sem,γ,KC,aN (show k<9223372036854775807 by omega)]
     refine aJ (k+1,v',H') ⟨hlt,k1⟩ (by simp only; omega) ?_ PH.le_refl
     (repeat' (first|exact PF.nil_le|refine PF.aA ?_ ?_))<;>first|(simp -implicitDefEqProofs only[go_sem,γ]<;>rfl)|rfl
    | none =>
     have hg:l.getD k []=l[k]:=by simp[bgT,hlt]
     have hone:yK f l k=nN f (gC f k) k l[k]:=by rw[yK,hsh,hg]
     have hrow:=afP hl hlt hsh
     have hlen:=atV hV.small hl hlt
     rw[hone] at hsucc hlen
     simp -implicitDefEqProofs only[go_sem,δ,γ,shV]
     refine aP fun o ho=>?_
     simp -implicitDefEqProofs only[go_sem,δ,γ,KB,ahF]
     refine aB (L.row f l k hV hfit hlt (by omega) hrow) rfl ?_
     simp -implicitDefEqProofs only[go_sem,γ]
     refine jS (rows':=[]) (u:=.nils) (src:=dP (nN f (gC f k) k l[k])) (hO.fresh ho _).1 .nil (fun _ _ _ _ _ h=>by cases h) rfl (by unfold roomFor; rw[jA,jA]; simp only[maxLen]; omega) fun v' H' k1 k2 k3 k4=>?_
     have hvr:dP (nT f l k)++dP (nN f (gC f k) k l[k])=dP (nT f l (k+1)):=by rw[hsucc]; simp only[dP,bhS]
     rw[hvr] at k1
     simp -implicitDefEqProofs only[go_sem,γ,KC,aN (show k<9223372036854775807 by omega)]
     refine aJ (k+1,v',H') ⟨hlt,k1⟩ (by simp only; omega) ?_ PH.le_refl
     (repeat' (first|exact PF.nil_le|refine PF.aA ?_ ?_))<;>first|(simp -implicitDefEqProofs only[go_sem,γ]<;>rfl)|rfl
   ·have hlt':¬ (k:Int)<(l.length:Nat):=by omega
    have:k=l.length:=by omega
    subst this
    have hfl:=vN hV.small hl (n:=l.length) (bfX _)
    have hroom:=L.room f room hf
    rw[MN,hv] at hroom
    have hloads:=L.loads f l hV.small.drives hl
    simp -implicitDefEqProofs only[go_sem,δ,γ,hlt',ahG]
    refine aB hroom rfl ?_
    simp -implicitDefEqProofs only[go_sem,δ,γ,ahH]
    refine aB hloads rfl ?_
    have hll:(gT f l).length=f.drives.length:=by rw[gT,gZ]
    simp -implicitDefEqProofs only[go_sem,γ,bfT,hll]
    refine aSS f hV l room (nT f l l.length) (by omega) v7 _ _ H0 ?_ hO ?_
    ·unfold viG
     (repeat' (first|exact PF.nil_le|refine PF.aA ?_ ?_))<;>first|(simp -implicitDefEqProofs only[go_sem,γ]<;>rfl)|rfl
    intro v' F' H' h7 hO'
    simp -implicitDefEqProofs only[go_sem,ahM,h7]
    exact nA (.inr rfl) hO' rfl
  ·have c':(((l.length:Nat):Int) != ((f.volumes.length:Nat):Int))=true:=dR (by omega)
   have h13:(1:Nat)*3≤16777216:=by decide
   rw[if_neg c]
   simp -implicitDefEqProofs only[go_sem,ο,υ,δ,γ,η,θ,ζ,bgB,SI,bfT,c',avV,h13]
   exact aW (.inr rfl) .nil rfl PH.nil_le ⟨.refl _,rfl⟩
structure aYB (C:Ctx):Prop extends akQ C where
 viol:∀ (f:aH) (l:List (List Int)) (room:List Int),f.Ok→iK l→aI C 154 [.agg f.cells,lay l,ints room] .nil (aL (zL (fU f l room)))
def zX (f:aH) (l:List (List Int)) (room:List Int):Bool:=dE f&&decide ((fU f l room).length=0)
theorem aRG {C:Ctx} (L:aYB C) (f:aH) (hf:f.Ok) (l:List (List Int)) (hl:iK l) (room:List Int) :
  yR.wp C (aX JT.res (bY (.bool (zX f l room)))) (PF.args [.agg f.cells,lay l,ints room]) .nil:=by
 simp -implicitDefEqProofs only[go_sem,δ,γ,yR,agI,agJ,JT]
 refine aB (L.valid f hf) rfl ?_
 unfold zX
 cases hv:dE f with
 | false =>
  simp -implicitDefEqProofs only[go_sem,γ,reduceCtorEq]
  exact aU rfl rfl
 | true =>
  simp -implicitDefEqProofs only[go_sem,δ,γ]
  refine aB (L.viol f l room hf hl) rfl ?_
  by_cases c:(fU f l room).length=0
  ·simp -implicitDefEqProofs only[go_sem,γ,bfT,bP (show (((fU f l room).length:Nat):Int)=0 by omega)]
   exact aU rfl (by simp[c])
  ·simp -implicitDefEqProofs only[go_sem,γ,bfT,bD (show (((fU f l room).length:Nat):Int)≠0 by omega)]
   exact aU rfl (by rw[decide_eq_false c])
end Go.PM
namespace Go.PM
open Go
def aET:Rg:=[iA 2 (.mv (.const (.lit (.pointer none))))]
def aEU:Rg:=[iM 3 0,iN 4 3,iC 5 .gtr 4 400]
def aEV:Rg:=[iM 6 0,iA 7 (.slice 1 (Tm 6) none (some (Ci 400)) none),iM 0 7]
def aaJ:Rg:=[iM 8 0,iA 9 (.append 1 1 (.const .nils) (Tm 8)),iA 10 (.build [.nils,(.int .i64 0)] [(0,1,(Tm 9))]),iA 11 (.box false (Tm 10)),iM 2 11]
def HY:aD:=(.seq (.region aET) (.seq (.seq (.region aEU) (.cond (Tm 5) (.region aEV) .skip)) (.seq (.region aaJ) .ret)))
def a0Q:List Nat:=[]
def arD:bG:=⟨1,12,HY,[.tmp 2]⟩
def RE:Rg:=[iI 4 0]
def DF:Rd:=[(iM 5 0,false),(iA 6 (.nilchk (Tm 5)),false),(iF 7 1 6,false),(iL 8 7,false),(iM 9 0,false),(iA 10 (.nilchk (Tm 9)),false),(iF 11 0 10,false),(iL 12 11,false),(iN 13 12,false),(iB 14 .geq 8 13,false),(iM 15 14,false),(iG 16 (.mv (Tm 1)) 15 false,false),(iG 17 (.bin .lss (Tm 16) (Ci 2)) 15 false,false),(iA 18 (.pick (Tm 15) (.const (.bool true)) (Tm 17)),false)]
def RG:Rg:=[iI 4 0]
def arE:Rg:=[iM 19 0,iA 20 (.nilchk (Tm 19)),iF 21 1 20,iL 22 21,iC 23 .add 22 1,iA 24 (.nilchk (Tm 19)),iF 25 1 24,iS 1 25 23]
def arF:Rd:=[(iM 26 0,false),(iA 27 (.nilchk (Tm 26)),false),(iF 28 0 27,false),(iL 29 28,false),(iM 30 0,false),(iA 31 (.nilchk (Tm 30)),false),(iF 32 1 31,false),(iL 33 32,false),(iC 34 .sub 33 1,false),(iX 35 1 29 34,false),(iL 36 35,false),(iA 37 (.conv .i64 (Tm 36)),false),(iM 38 1,false),(iB 39 .rem 37 38,false),(iM 4 39,false)]
def tD:aD:=(.seq (.region RE) (.seq (.seq (.draw DF) (.cond (Tm 18) (.seq (.region RG) .ret) .skip)) (.seq (.region arE) (.seq (.draw arF) .ret))))
def aVM:List Nat:=[]
def MJ:bG:=⟨2,40,tD,[.tmp 4]⟩
def aqH:Rg:=[iA 2 (.alloc [(.bool false),.nils,.nils])]
def aqI:Rg:=[iM 6 0,iA 7 (.call 4 [(Tm 6),(Ci 6)]),iA 8 (.bin .add (Ci 1) (Tm 7)),iM 9 0,iA 10 (.call 4 [(Tm 9),(Ci 8)]),iA 11 (.bin .add (Ci 1) (Tm 10)),iA 12 (.call 50 [(Tm 8),(Tm 11)]),iM 5 12,iA 13 (.extract (Tm 5) 0),iA 14 (.extract (Tm 5) 1),iA 3 (.alloc [(.bool false),.nils,.nils]),iS 3 3 13,iM 4 14]
def aqJ:Rg:=[iA 15 (.load (some 3) (Tm 3)),iS 3 2 15]
def CX:aD:=(.seq (.region aqH) (.seq (.region aqI) (.seq (.region aqJ) .ret)))
def aVD:List Nat:=[]
def VT:bG:=⟨1,16,CX,[.cell 2 (some 3)]⟩
def aEN:Rg:=[iA 4 (.alloc [(.str []),.nils,.nils,.nils])]
def aEO:Rg:=[iM 16 0,iM 17 1,iA 18 (.call 4 [(Tm 16),(Tm 17)]),iA 19 (.bin .add (Ci 1) (Tm 18)),iM 5 19]
def aEP:Rg:=[iA 6 (.alloc [(.str []),.nils,.nils,.nils])]
def aEQ:Rg:=[iI 7 8]
def aER:Rg:=[iI 8 0]
def aES:Rg:=[iM 20 8,iM 21 5,iB 22 .lss 20 21]
def aaG:Rg:=[iM 25 7,iM 9 25]
def aaH:Rg:=[iM 26 8,iC 27 .add 26 1,iM 28 5,iB 29 .lss 27 28]
def aaI:Rg:=[iM 30 0,iM 31 7,iC 32 .add 31 1,iA 33 (.call 4 [(Tm 30),(Tm 32)]),iM 9 33]
def MI:Rg:=[iM 34 7,iM 35 9,iB 36 .sub 34 35,iM 7 36]
def QT:Rg:=[iM 38 9,iA 39 (.call 50 [(Tm 38),(Ci 8)]),iM 37 39,iA 40 (.extract (Tm 37) 0),iA 41 (.extract (Tm 37) 1),iA 10 (.alloc [(.bool false),.nils,.nils]),iS 3 10 40,iM 11 41]
def QU:Rg:=[iF 42 1 6,iL 43 42,iA 44 (.load (some 3) (Tm 10)),iA 45 (.bslice true 3 1 [(.bool false),.nils,.nils] [(0,(Tm 44))]),iA 46 (.append 3 56 (Tm 43) (Tm 45)),iF 47 1 6,iS 1 47 46]
def QV:Rg:=[iM 48 0,iA 49 (.call 1 [(Tm 48)]),iA 12 (.alloc [(.bool false),.nils,.nils]),iS 3 12 49]
def QW:Rg:=[iM 50 8,iC 51 .add 50 1,iM 52 5,iB 53 .lss 51 52,iM 54 53,iG 55 (.mv (Tm 0)) 54 true,iG 56 (.call 4 [(Tm 55),(Ci 3)]) 54 true,iG 57 (.bin .eql (Tm 56) (Ci 0)) 54 true,iA 58 (.pick (Tm 54) (Tm 57) (.const (.bool false)))]
def QX:Rg:=[iA 59 (.call 47 [(Ci 0)]),iS 3 12 59]
def DA:Rg:=[iF 60 3 6,iL 61 60,iA 62 (.load (some 3) (Tm 12)),iA 63 (.bslice true 3 1 [(.bool false),.nils,.nils] [(0,(Tm 62))]),iA 64 (.append 3 56 (Tm 61) (Tm 63)),iF 65 3 6,iS 1 65 64]
def QY:Rg:=[iA 13 (.mv (.const .nils))]
def QZ:Rg:=[iI 14 0]
def aqW:Rg:=[iM 66 14,iM 67 5,iB 68 .lss 66 67]
def aqX:Rg:=[iA 71 (.call 47 [(Ci 0)]),iA 15 (.alloc [(.bool false),.nils,.nils]),iS 3 15 71]
def aqY:Rg:=[iM 72 14,iM 73 8,iC 74 .add 73 1,iB 75 .eql 72 74,iM 76 75,iG 77 (.mv (Tm 14)) 76 false,iG 78 (.mv (Tm 8)) 76 false,iG 79 (.bin .neq (Tm 77) (Tm 78)) 76 false,iG 80 (.mv (Tm 79)) 76 false,iG 81 (.mv (Tm 0)) 80 true,iG 82 (.call 4 [(Tm 81),(Ci 3)]) 80 true,iG 83 (.bin .eql (Tm 82) (Ci 0)) 80 true,iG 84 (.pick (Tm 80) (Tm 83) (.const (.bool false))) 76 false,iA 85 (.pick (Tm 76) (.const (.bool true)) (Tm 84))]
def RA:Rg:=[iM 86 0,iA 87 (.call 1 [(Tm 86)]),iS 3 15 87]
def RB:Rg:=[iM 88 13,iA 89 (.load (some 3) (Tm 15)),iA 90 (.bslice true 3 1 [(.bool false),.nils,.nils] [(0,(Tm 89))]),iA 91 (.append 3 56 (Tm 88) (Tm 90)),iM 13 91]
def RC:Rg:=[iM 69 14,iC 70 .add 69 1,iM 14 70]
def CZ:aD:=(.seq (.seq (.region aqW) (.cond (Tm 68) .skip (.exit 2))) (.seq (.block 3 (.seq (.region aqX) (.seq (.seq (.region aqY) (.cond (Tm 85) (.region RA) .skip)) (.region RB)))) (.region RC)))
def RD:Rg:=[iF 92 2 6,iL 93 92,iM 94 13,iA 95 (.bslice true 1 1 [.nils] [(0,(Tm 94))]),iA 96 (.append 1 24 (Tm 93) (Tm 95)),iF 97 2 6,iS 1 97 96]
def aqZ:Rg:=[iM 23 8,iC 24 .add 23 1,iM 8 24]
def aqV:aD:=(.seq (.seq (.region aES) (.cond (Tm 22) .skip (.exit 0))) (.seq (.block 1 (.seq (.region aaG) (.seq (.seq (.region aaH) (.cond (Tm 29) (.region aaI) .skip)) (.seq (.region MI) (.seq (.region QT) (.seq (.region QU) (.seq (.region QV) (.seq (.seq (.region QW) (.cond (Tm 58) (.region QX) .skip)) (.seq (.region DA) (.seq (.region QY) (.seq (.seq (.region QZ) (.block 2 (.loop CZ))) (.region RD)))))))))))) (.region aqZ)))
def arA:Rg:=[iA 98 (.load (some 4) (Tm 6)),iS 4 4 98]
def HX:aD:=(.seq (.region aEN) (.seq (.region aEO) (.seq (.region aEP) (.seq (.region aEQ) (.seq (.seq (.region aER) (.block 0 (.loop aqV))) (.seq (.region arA) .ret))))))
def a0M:List Nat:=[45,63,90,95]
def aqU:bG:=⟨2,99,HX,[.cell 4 (some 4)]⟩
def aEX:Rg:=[iA 4 (.mv (.const .nils))]
def aEY:Rg:=[iA 5 (.mv (.const .nils))]
def aEZ:Rg:=[iI 6 0]
def aFA:Rg:=[iM 7 6,iM 8 1,iA 9 (.minmax true (Tm 8) (Ci 1)),iB 10 .lss 7 9]
def aFB:Rg:=[iM 13 5,iM 14 0,iA 15 (.call 1 [(Tm 14)]),iA 16 (.bslice true 3 1 [(.bool false),.nils,.nils] [(0,(Tm 15))]),iA 17 (.append 3 56 (Tm 13) (Tm 16)),iM 5 17]
def aFC:Rg:=[iM 11 6,iC 12 .add 11 1,iM 6 12]
def aEW:aD:=(.seq (.seq (.region aFA) (.cond (Tm 10) .skip (.exit 0))) (.seq (.block 1 (.region aFB)) (.region aFC)))
def aFD:Rg:=[iM 18 5,iM 4 18]
def HZ:aD:=(.seq (.region aEX) (.seq (.region aEY) (.seq (.seq (.region aEZ) (.block 0 (.loop aEW))) (.seq (.region aFD) .ret))))
def a0S:List Nat:=[16]
def arG:bG:=⟨2,19,HZ,[.tmp 4]⟩
def arB:Rg:=[iA 4 (.mv (.const (.str [])))]
def arC:Rg:=[iM 5 0,iM 6 1,iA 7 (.call 195 [(Tm 6)]),iB 8 .add 5 7,iM 4 8]
def DE:aD:=(.seq (.region arB) (.seq (.region arC) .ret))
def aVK:List Nat:=[]
def WC:bG:=⟨2,9,DE,[.tmp 4]⟩
def aqM:Rg:=[iM 12 1,iA 13 (.nilchk (Tm 12)),iF 14 3 13,iL 15 14,iM 16 2,iX 17 7 15 16,iF 18 1 17,iL 19 18,iC 20 .add 19 1,iM 8 20]
def aqN:Rg:=[iM 21 0,iA 22 (.call 4 [(Tm 21),(Ci 2)]),iA 23 (.bin .add (Ci 1) (Tm 22)),iM 9 23]
def aqO:Rg:=[iM 24 8,iC 25 .eql 24 2]
def aqP:Rg:=[iI 9 1]
def CY:Rg:=[iI 10 0]
def QQ:Rg:=[iM 26 10,iM 27 9,iB 28 .lss 26 27]
def QR:Rg:=[iM 31 8,iC 32 .eql 31 5]
def aqQ:Rg:=[iM 33 1,iA 34 (.nilchk (Tm 33)),iF 35 4 34,iL 36 35,iN 37 36,iM 38 3,iB 39 .lss 37 38]
def aqR:Rd:=[(iM 40 1,true),(iM 41 1,true),(iA 42 (.nilchk (Tm 41)),true),(iF 43 4 42,true),(iL 44 43,true),(iM 45 1,false),(iA 46 (.nilchk (Tm 45)),false),(iF 47 4 46,false),(iL 48 47,false),(iN 49 48,false),(iA 50 (.call 29 [(.const (.str [100])),(Tm 49)]),true),(iM 51 0,true),(iM 52 1,true),(iA 53 (.nilchk (Tm 52)),true),(iF 54 2 53,true),(iL 55 54,true),(iN 56 55,true),(iA 57 (.call 4 [(Tm 51),(Tm 56)]),true),(iM 58 2,true),(iA 59 (.build [(.str []),(.int .i64 0),(.int .i64 0)] [(0,1,(Tm 50)),(1,1,(Tm 57)),(2,1,(Tm 58))]),false),(iA 60 (.bslice true 3 1 [(.str []),(.int .i64 0),(.int .i64 0)] [(0,(Tm 59))]),false),(iA 61 (.append 3 32 (Tm 44) (Tm 60)),true),(iA 62 (.nilchk (Tm 40)),false),(iF 63 4 62,false)]
def aqS:Rd:=[(iS 1 63 61,true)]
def aeF:Rg:=[iM 64 1,iA 65 (.nilchk (Tm 64)),iF 66 4 65,iL 67 66,iN 68 67,iM 69 3,iB 70 .geq 68 69,iM 71 70,iG 72 (.mv (Tm 1)) 71 false,iG 73 (.nilchk (Tm 72)) 71 false,iG 74 (.fieldA 3 (Tm 73)) 71 false,iG 75 (.load none (Tm 74)) 71 false,iG 76 (.len (Tm 75)) 71 false,iG 77 (.bin .geq (Tm 76) (Ci 35)) 71 false,iA 78 (.pick (Tm 71) (.const (.bool true)) (Tm 77))]
def aeG:Rd:=[(iM 79 8,false),(iA 80 (.idxStr (.const (.str [45,115,114,107,109])) (Tm 79)),false),(iA 81 (.bslice true 1 1 [(.int .u8 0)] [(0,(Tm 80))]),false),(iA 82 (.bytes2str (Tm 81)),false),(iM 83 1,false),(iA 84 (.nilchk (Tm 83)),false),(iF 85 3 84,false),(iL 86 85,false),(iN 87 86,false),(iA 88 (.call 29 [(Tm 82),(Tm 87)]),true),(iM 89 8,true),(iM 90 2,true),(iM 91 0,true),(iA 92 (.call 4 [(Tm 91),(Ci 16)]),true),(iA 93 (.bin .add (Ci 1) (Tm 92)),true),(iA 94 (.call 47 [(Ci 0)]),true),(iA 95 (.build [(.str []),(.int .i64 0),(.int .i64 0),(.int .i64 0),(.bool false),.nils,.nils] [(0,1,(Tm 88)),(1,1,(Tm 89)),(2,1,(Tm 90)),(3,1,(Tm 93)),(4,3,(Tm 94))]),false),(iA 11 (.alloc [(.str []),(.int .i64 0),(.int .i64 0),(.int .i64 0),(.bool false),.nils,.nils]),true),(iS 7 11 95,true)]
def aeH:Rg:=[iM 96 0,iA 97 (.call 4 [(Tm 96),(Ci 3)]),iC 98 .eql 97 0]
def aeI:Rg:=[iM 100 0,iA 101 (.call 4 [(Tm 100),(Ci 6)]),iA 102 (.bin .add (Ci 2) (Tm 101)),iA 103 (.call 50 [(Ci 1),(Tm 102)]),iM 99 103,iA 104 (.extract (Tm 99) 0),iA 105 (.extract (Tm 99) 1),iF 106 4 11,iS 3 106 104]
def HV:Rd:=[(iM 107 1,true),(iM 108 1,false),(iA 109 (.nilchk (Tm 108)),false),(iF 110 3 109,false),(iL 111 110,false),(iA 112 (.load (some 7) (Tm 11)),false),(iA 113 (.bslice true 7 1 [(.str []),(.int .i64 0),(.int .i64 0),(.int .i64 0),(.bool false),.nils,.nils] [(0,(Tm 112))]),false),(iA 114 (.append 7 96 (Tm 111) (Tm 113)),true),(iA 115 (.nilchk (Tm 107)),false),(iF 116 3 115,false),(iS 1 116 114,true)]
def HW:Rg:=[iM 117 0,iM 118 1,iM 119 1,iA 120 (.nilchk (Tm 119)),iF 121 3 120,iL 122 121,iN 123 122,iC 124 .sub 123 1,iM 125 3,iA 126 (.call 7 [(Tm 117),(Tm 118),(Tm 124),(Tm 125)])]
def sA:Rg:=[iM 29 10,iC 30 .add 29 1,iM 10 30]
def rZ:aD:=(.seq (.seq (.region QQ) (.cond (Tm 28) .skip (.exit 0))) (.seq (.block 1 (.seq (.seq (.region QR) (.cond (Tm 32) (.seq (.seq (.region aqQ) (.cond (Tm 39) (.seq (.draw aqR) (.draw aqS)) .skip)) (.exit 1)) .skip)) (.seq (.seq (.region aeF) (.cond (Tm 78) .ret .skip)) (.seq (.draw aeG) (.seq (.seq (.region aeH) (.cond (Tm 98) (.region aeI) .skip)) (.seq (.draw HV) (.region HW))))))) (.region sA)))
def tC:aD:=(.seq (.region aqM) (.seq (.region aqN) (.seq (.seq (.region aqO) (.cond (Tm 25) (.region aqP) .skip)) (.seq (.region CY) (.block 0 (.loop rZ))))))
def aVE:List Nat:=[60,81,113]
def MH:bG:=⟨4,127,tC,[]⟩
def adW:Rg:=[iA 6 (.alloc [(.int .i64 0),.nils,.nils,.nils,.nils,.nils,.nils])]
def adX:Rg:=[iM 20 0,iA 21 (.call 4 [(Tm 20),(Ci 2)]),iA 22 (.bin .add (Ci 1) (Tm 21)),iA 23 (.build [(.int .i64 0),.nils,.nils,.nils,.nils,.nils,.nils] [(0,1,(Tm 22))]),iA 7 (.alloc [(.int .i64 0),.nils,.nils,.nils,.nils,.nils,.nils]),iS 7 7 23]
def adY:Rg:=[iM 24 0,iA 25 (.call 4 [(Tm 24),(Ci 2)]),iA 26 (.bin .add (Ci 1) (Tm 25)),iM 8 26]
def adZ:Rg:=[iI 9 0]
def aeA:Rg:=[iM 27 9,iM 28 8,iB 29 .lss 27 28]
def aeB:Rg:=[iM 32 0,iA 33 (.call 2 [(Tm 32),(Ci 2)]),iA 10 (.alloc [(.str []),.nils,.nils,.nils]),iS 4 10 33]
def aeC:Rg:=[iM 34 9,iA 35 (.call 29 [(.const (.str [108,97,119])),(Tm 34)]),iF 36 0 10,iS 1 36 35]
def aeD:Rg:=[iF 37 1 7,iL 38 37,iA 39 (.load (some 4) (Tm 10)),iA 40 (.bslice true 4 1 [(.str []),.nils,.nils,.nils] [(0,(Tm 39))]),iA 41 (.append 4 88 (Tm 38) (Tm 40)),iF 42 1 7,iS 1 42 41]
def aeE:Rg:=[iM 30 9,iC 31 .add 30 1,iM 9 31]
def HU:aD:=(.seq (.seq (.region aeA) (.cond (Tm 29) .skip (.exit 0))) (.seq (.block 1 (.seq (.region aeB) (.seq (.region aeC) (.region aeD)))) (.region aeE)))
def UW:Rg:=[iM 43 0,iA 44 (.call 4 [(Tm 43),(Ci 2)]),iA 45 (.bin .add (Ci 1) (Tm 44)),iM 11 45]
def UX:Rg:=[iI 12 0]
def UY:Rg:=[iM 46 12,iM 47 11,iB 48 .lss 46 47]
def UZ:Rd:=[(iF 51 2 7,true),(iL 52 51,true),(iM 53 12,false),(iA 54 (.call 29 [(.const (.str [109])),(Tm 53)]),true),(iM 55 0,true),(iA 56 (.call 4 [(Tm 55),(Ci 4)]),true),(iA 57 (.bin .add (Ci 1) (Tm 56)),true),(iM 58 0,true),(iA 59 (.call 4 [(Tm 58),(Ci 8)]),true),(iA 60 (.bin .add (Ci 1) (Tm 59)),true),(iM 61 0,true),(iF 62 1 7,true),(iL 63 62,true),(iN 64 63,true),(iA 65 (.call 4 [(Tm 61),(Tm 64)]),true),(iA 66 (.build [(.str []),(.int .i64 0),(.int .i64 0),(.int .i64 0)] [(0,1,(Tm 54)),(1,1,(Tm 57)),(2,1,(Tm 60)),(3,1,(Tm 65))]),false),(iA 67 (.bslice true 4 1 [(.str []),(.int .i64 0),(.int .i64 0),(.int .i64 0)] [(0,(Tm 66))]),false),(iA 68 (.append 4 40 (Tm 52) (Tm 67)),true),(iF 69 2 7,false)]
def VA:Rd:=[(iS 1 69 68,true)]
def VB:Rg:=[iM 49 12,iC 50 .add 49 1,iM 12 50]
def CM:aD:=(.seq (.seq (.region UY) (.cond (Tm 48) .skip (.exit 2))) (.seq (.block 3 (.seq (.draw UZ) (.draw VA))) (.region VB)))
def VC:Rg:=[iA 70 (.call 47 [(Ci 0)]),iA 71 (.build [(.str []),(.int .i64 0),(.int .i64 0),(.int .i64 0),(.bool false),.nils,.nils] [(2,1,(Ci (-1))),(4,3,(Tm 70))]),iA 72 (.bslice false 7 1 [(.str []),(.int .i64 0),(.int .i64 0),(.int .i64 0),(.bool false),.nils,.nils] [(0,(Tm 71))]),iF 73 3 7,iS 1 73 72]
def VD:Rg:=[iM 74 0,iM 75 1,iA 76 (.call 7 [(Tm 74),(Tm 7),(Ci 0),(Tm 75)])]
def VE:Rg:=[iM 77 0,iA 78 (.call 4 [(Tm 77),(Ci 2)]),iA 79 (.bin .add (Ci 1) (Tm 78)),iM 13 79]
def VG:Rg:=[iI 14 0]
def VH:Rg:=[iM 80 14,iM 81 13,iB 82 .lss 80 81]
def CP:Rg:=[iM 85 14,iA 86 (.call 29 [(.const (.str [112])),(Tm 85)]),iM 87 0,iA 88 (.call 4 [(Tm 87),(Ci 2)]),iA 89 (.bin .add (Ci 1) (Tm 88)),iM 90 0,iA 91 (.call 4 [(Tm 90),(Ci 3)]),iM 92 0,iA 93 (.call 4 [(Tm 92),(Ci 4)]),iA 94 (.bin .add (Ci 1) (Tm 93)),iA 95 (.call 47 [(Tm 94)]),iA 96 (.build [(.str []),(.int .i64 0),(.int .i64 0),(.int .i64 0),(.int .i64 0),(.int .i64 0),(.int .i64 0),(.int .i64 0),(.int .i64 0),.nils,.nils,(.bool false),.nils,.nils,(.bool false),.nils,.nils] [(0,1,(Tm 86)),(1,1,(Tm 89)),(2,1,(Tm 91)),(14,3,(Tm 95))]),iA 15 (.alloc [(.str []),(.int .i64 0),(.int .i64 0),(.int .i64 0),(.int .i64 0),(.int .i64 0),(.int .i64 0),(.int .i64 0),(.int .i64 0),.nils,.nils,(.bool false),.nils,.nils,(.bool false),.nils,.nils]),iS 17 15 96]
def sX:Rd:=[(iF 97 1 15,true),(iL 98 97,true),(iM 99 0,false),(iF 100 2 15,false),(iL 101 100,false),(iC 102 .add 101 1,false),(iA 103 (.call 4 [(Tm 99),(Tm 102)]),true),(iB 104 .add 98 103,false),(iF 105 3 15,false)]
def sY:Rd:=[(iS 1 105 104,true)]
def sZ:Rg:=[iM 106 0,iF 107 2 15,iL 108 107,iA 109 (.call 5 [(Tm 106),(Tm 108)]),iF 110 10 15,iS 1 110 109]
def tA:Rg:=[iM 112 0,iA 113 (.call 4 [(Tm 112),(Ci 9)]),iA 114 (.call 50 [(Tm 113),(Ci 8)]),iM 111 114,iA 115 (.extract (Tm 111) 0),iA 116 (.extract (Tm 111) 1),iF 117 11 15,iS 3 117 115]
def CQ:Rg:=[iI 16 1]
def VI:Rg:=[iM 118 16,iC 119 .lss 118 5]
def VJ:Rg:=[iM 122 0,iA 123 (.call 4 [(Tm 122),(Ci 3)]),iC 124 .eql 123 0]
def VK:Rg:=[iM 125 16,iM 126 0,iA 127 (.call 4 [(Tm 126),(Ci 3)]),iA 128 (.bin .add (Ci 1) (Tm 127)),iF 129 4 15,iA 130 (.idxA 5 1 (Tm 129) (Tm 125)),iS 1 130 128]
def CR:Rg:=[iM 120 16,iC 121 .add 120 1,iM 16 121]
def sW:aD:=(.seq (.seq (.region VI) (.cond (Tm 119) .skip (.exit 6))) (.seq (.block 7 (.seq (.region VJ) (.cond (Tm 124) (.region VK) .skip))) (.region CR)))
def CS:Rg:=[iM 131 0,iM 132 11,iA 133 (.call 4 [(Tm 131),(Tm 132)]),iM 17 133]
def CU:Rg:=[iM 134 17,iA 135 (.bslice false 1 1 [(.int .i64 0)] [(0,(Tm 134))]),iF 136 9 15,iS 1 136 135]
def CV:Rg:=[iM 137 11,iC 138 .gtr 137 1,iM 139 138,iG 140 (.mv (Tm 0)) 139 true,iG 141 (.call 4 [(Tm 140),(Ci 2)]) 139 true,iG 142 (.bin .eql (Tm 141) (Ci 0)) 139 true,iA 143 (.pick (Tm 139) (Tm 142) (.const (.bool false)))]
def CW:Rg:=[iF 144 9 15,iL 145 144,iM 146 17,iA 147 (.bin .sub (Ci 1) (Tm 146)),iA 148 (.bslice true 1 1 [(.int .i64 0)] [(0,(Tm 147))]),iA 149 (.append 1 8 (Tm 145) (Tm 148)),iF 150 9 15,iS 1 150 149]
def tB:Rg:=[iF 151 5 7,iL 152 151,iA 153 (.load (some 17) (Tm 15)),iA 154 (.bslice true 17 1 [(.str []),(.int .i64 0),(.int .i64 0),(.int .i64 0),(.int .i64 0),(.int .i64 0),(.int .i64 0),(.int .i64 0),(.int .i64 0),.nils,.nils,(.bool false),.nils,.nils,(.bool false),.nils,.nils] [(0,(Tm 153))]),iA 155 (.append 17 240 (Tm 152) (Tm 154)),iF 156 5 7,iS 1 156 155]
def VL:Rg:=[iM 83 14,iC 84 .add 83 1,iM 14 84]
def CN:aD:=(.seq (.seq (.region VH) (.cond (Tm 82) .skip (.exit 4))) (.seq (.block 5 (.seq (.region CP) (.seq (.seq (.draw sX) (.draw sY)) (.seq (.region sZ) (.seq (.region tA) (.seq (.seq (.region CQ) (.block 6 (.loop sW))) (.seq (.region CS) (.seq (.region CU) (.seq (.seq (.region CV) (.cond (Tm 143) (.region CW) .skip)) (.region tB)))))))))) (.region VL)))
def VM:Rg:=[iM 157 0,iM 158 2,iC 159 .add 158 1,iA 160 (.call 4 [(Tm 157),(Tm 159)]),iM 18 160]
def VN:Rg:=[iI 19 0]
def VO:Rg:=[iM 161 19,iM 162 18,iB 163 .lss 161 162]
def VP:Rd:=[(iF 166 6 7,true),(iL 167 166,true),(iM 168 19,false),(iA 169 (.call 29 [(.const (.str [118])),(Tm 168)]),true),(iM 170 0,true),(iF 171 5 7,true),(iL 172 171,true),(iN 173 172,true),(iA 174 (.call 4 [(Tm 170),(Tm 173)]),true),(iA 175 (.build [(.str []),(.int .i64 0)] [(0,1,(Tm 169)),(1,1,(Tm 174))]),false),(iA 176 (.bslice true 2 1 [(.str []),(.int .i64 0)] [(0,(Tm 175))]),false),(iA 177 (.append 2 24 (Tm 167) (Tm 176)),true),(iF 178 6 7,false)]
def VQ:Rd:=[(iS 1 178 177,true)]
def VR:Rg:=[iM 164 19,iC 165 .add 164 1,iM 19 165]
def CO:aD:=(.seq (.seq (.region VO) (.cond (Tm 163) .skip (.exit 8))) (.seq (.block 9 (.seq (.draw VP) (.draw VQ))) (.region VR)))
def VS:Rg:=[iA 179 (.load (some 7) (Tm 7)),iS 7 6 179]
def xN:aD:=(.seq (.region adW) (.seq (.region adX) (.seq (.region adY) (.seq (.seq (.region adZ) (.block 0 (.loop HU))) (.seq (.region UW) (.seq (.seq (.region UX) (.block 2 (.loop CM))) (.seq (.region VC) (.seq (.region VD) (.seq (.region VE) (.seq (.seq (.region VG) (.block 4 (.loop CN))) (.seq (.region VM) (.seq (.seq (.region VN) (.block 8 (.loop CO))) (.seq (.region VS) .ret)))))))))))))
def aOV:List Nat:=[40,67,148,154,176]
def HT:bG:=⟨3,180,xN,[.cell 6 (some 7)]⟩
def adR:Rg:=[iA 6 (.alloc [(.int .i64 0),.nils,.nils,.nils,.nils,.nils,.nils])]
def adS:Rg:=[iM 7 0,iA 8 (.call 28 [(Tm 7)]),iM 9 1,iM 10 2,iA 11 (.call 0 [(Tm 8),(Tm 9),(Tm 10)]),iS 7 6 11]
def xL:aD:=(.seq (.region adR) (.seq (.region adS) .ret))
def aOS:List Nat:=[]
def HR:bG:=⟨3,12,xL,[.cell 6 (some 7)]⟩
def arJ:Rg:=[iA 3 (.box true (Tm 1)),iA 4 (.mv (.const .nils))]
def arK:Rg:=[iM 7 0,iA 8 (.call 4 [(Tm 7),(Ci 4)]),iC 9 .eql 8 0]
def arL:Rg:=[iA 4 (.mv (.const .nils))]
def arM:Rg:=[iA 5 (.mv (.const .nils))]
def arN:Rg:=[iI 6 0]
def arO:Rg:=[iM 10 6,iF 11 4 3,iL 12 11,iN 13 12,iB 14 .lss 10 13]
def arP:Rg:=[iM 17 5,iM 18 0,iA 19 (.call 4 [(Tm 18),(Ci 7)]),iC 20 .sub 19 1,iA 21 (.bslice true 1 1 [(.int .i64 0)] [(0,(Tm 20))]),iA 22 (.append 1 8 (Tm 17) (Tm 21)),iM 5 22]
def arQ:Rg:=[iM 15 6,iC 16 .add 15 1,iM 6 16]
def arI:aD:=(.seq (.seq (.region arO) (.cond (Tm 14) .skip (.exit 0))) (.seq (.block 1 (.region arP)) (.region arQ)))
def arR:Rg:=[iM 23 5,iM 4 23]
def DG:aD:=(.seq (.region arJ) (.seq (.seq (.region arK) (.cond (Tm 9) (.seq (.region arL) .ret) .skip)) (.seq (.region arM) (.seq (.seq (.region arN) (.block 0 (.loop arI))) (.seq (.region arR) .ret)))))
def aVO:List Nat:=[3,21]
def WD:bG:=⟨2,24,DG,[.tmp 4]⟩
def VV:Rg:=[iA 3 (.box true (Tm 1)),iA 4 (.mv (.const .nils))]
def VW:Rg:=[iA 5 (.mv (.const .nils))]
def VX:Rg:=[iI 6 0]
def VY:Rg:=[iM 11 6,iF 12 6 3,iL 13 12,iN 14 13,iB 15 .lss 11 14]
def VZ:Rg:=[iA 7 (.mv (.const .nils))]
def WA:Rg:=[iM 18 0,iF 19 4 3,iL 20 19,iN 21 20,iC 22 .add 21 1,iA 23 (.call 4 [(Tm 18),(Tm 22)]),iM 8 23]
def WB:Rg:=[iI 9 0]
def DB:Rg:=[iM 24 9,iA 25 (.load (some 7) (Tm 3)),iM 26 6,iA 27 (.call 82 [(Tm 25),(Tm 26)]),iB 28 .lss 24 27]
def DC:Rg:=[iI 10 (-1)]
def DD:Rg:=[iF 31 4 3,iL 32 31,iN 33 32,iC 34 .gtr 33 0]
def xP:Rg:=[iM 35 8,iM 36 9,iB 37 .add 35 36,iF 38 4 3,iL 39 38,iN 40 39,iB 41 .rem 37 40,iM 10 41]
def xQ:Rg:=[iM 42 0,iA 43 (.call 4 [(Tm 42),(Ci 6)])]
def xR:Rg:=[iC 45 .eql 43 0,iM 44 45]
def xS:Rg:=[iM 46 0,iF 47 4 3,iL 48 47,iN 49 48,iA 50 (.call 4 [(Tm 46),(Tm 49)]),iM 10 50]
def rE:Rg:=[iC 52 .eql 43 1,iM 51 52]
def xT:Rg:=[iM 53 0,iF 54 4 3,iL 55 54,iN 56 55,iC 57 .add 56 1,iA 58 (.call 4 [(Tm 53),(Tm 57)]),iC 59 .sub 58 1,iM 10 59]
def rF:Rg:=[iM 60 7,iM 61 10,iA 62 (.bslice true 1 1 [(.int .i64 0)] [(0,(Tm 61))]),iA 63 (.append 1 8 (Tm 60) (Tm 62)),iM 7 63]
def xU:Rg:=[iM 29 9,iC 30 .add 29 1,iM 9 30]
def xO:aD:=(.seq (.seq (.region DB) (.cond (Tm 28) .skip (.exit 2))) (.seq (.block 3 (.seq (.region DC) (.seq (.seq (.region DD) (.cond (Tm 34) (.seq (.region xP) (.seq (.region xQ) (.block 4 (.seq (.region xR) (.cond (Tm 44) (.region xS) (.seq (.region rE) (.cond (Tm 51) (.region xT) .skip))))))) .skip)) (.region rF)))) (.region xU)))
def NH:Rg:=[iM 64 5,iM 65 7,iA 66 (.bslice true 1 1 [.nils] [(0,(Tm 65))]),iA 67 (.append 1 24 (Tm 64) (Tm 66)),iM 5 67]
def NI:Rg:=[iM 16 6,iC 17 .add 16 1,iM 6 17]
def NG:aD:=(.seq (.seq (.region VY) (.cond (Tm 15) .skip (.exit 0))) (.seq (.block 1 (.seq (.region VZ) (.seq (.region WA) (.seq (.seq (.region WB) (.block 2 (.loop xO))) (.region NH))))) (.region NI)))
def NJ:Rg:=[iM 68 5,iM 4 68]
def uR:aD:=(.seq (.region VV) (.seq (.region VW) (.seq (.seq (.region VX) (.block 0 (.loop NG))) (.seq (.region NJ) .ret))))
def aKX:List Nat:=[3,62,66]
def AB:bG:=⟨2,69,uR,[.tmp 4]⟩
def auR:Rg:=[iA 2 (.box true (Tm 0)),iI 4 0]
def auS:Rd:=[(iF 6 5 2,false),(iL 7 6,false),(iF 8 6 2,false),(iL 9 8,false),(iM 10 1,false),(iX 11 2 9 10,false),(iF 12 1 11,false),(iL 13 12,false),(iX 14 17 7 13,false),(iA 15 (.load (some 17) (Tm 14)),false),(iA 5 (.alloc [(.str []),(.int .i64 0),(.int .i64 0),(.int .i64 0),(.int .i64 0),(.int .i64 0),(.int .i64 0),(.int .i64 0),(.int .i64 0),.nils,.nils,(.bool false),.nils,.nils,(.bool false),.nils,.nils]),true),(iS 17 5 15,true)]
def auT:Rg:=[iF 16 1 5,iL 17 16,iF 18 2 5,iL 19 18,iB 20 .add 17 19,iM 4 20]
def DY:aD:=(.seq (.region auR) (.seq (.draw auS) (.seq (.region auT) .ret)))
def aWJ:List Nat:=[2]
def XB:bG:=⟨2,21,DY,[.tmp 4]⟩
end Go.PM
namespace Go.PM
open Go Go.Na
abbrev gP (l:List Nat):List (List PV):=l.map fun (n:Nat)=>[PV.int .u8 (n:Int)]
theorem KY (l:List Nat):(gP l).length=l.length:=by simp
theorem aXO (l:List Nat) {i:Nat} (h:i<l.length):(gP l)[i]?=some [.int .u8 (l[i]:Nat)]:=by simp[h]
abbrev aS (v:PV) (a:Nat):bV:=.rows 2 [[v,.int .i64 a]]
structure Tp (l:List Nat) (v:PV):Prop where
 seen:Seen 1 v (gP l)
 byte:∀ x∈l,x<256
 len:l.length≤400
def akL (l:List Nat) (r:PV) (H:PH):Prop:=∃ o v,r=.ptr o 2 0 0∧Tp (l.take 400) v∧H=PH.nil.set o (aS v 0)
theorem ajO {t q s:Nat} {rs:List (List PV)} {F:PF} {H H2:PH} {R:PV→PH→Prop} {v:PV} {e:kE} (he:e=.normal∨e=.ret) (ht:F t=some v) (hq:H q=some (.rows s rs)) (hH:H2.le (H.frz q s rs)) (hR:R (PV.frz q s rs v) H2):aX [.tmp t] R e F H:=by
 have key:∃ vs,dC.evs F H [.tmp t]=some vs∧∃ F1 H1 H2,gO (PF.nil.set 0 (cN vs)) H F1 H1∧H2.le H1∧∃ u,F1 0=some u∧R u H2:=by
  refine⟨[v],by rw[jK,lL,ht,nB],_,_,H2,.step q hq (.refl _ _),hH,PV.frz q s rs v,?_,hR⟩
  rw[pS,kS,if_pos rfl,bhC]
  rfl
 rcases he with rfl | rfl<;>exact key
theorem a0P {C:Ctx} (l:List Nat) (hb:∀ x∈l,x<256) (hl:l.length≤9223372036854775807):HY.wp C (aX arD.res (akL l)) (PF.args [.sl 1 (gP l)]) .nil:=by
 simp -implicitDefEqProofs only[go_sem,γ,reduceCtorEq,HY,aET,aEU,arD,bfT]
 have fin:∀ F:PF,F 0=some (.sl 1 (gP (l.take 400)))→aD.wp C (.seq (.region aaJ) .ret) (aX [.tmp 2] (akL l)) F .nil:=by
  intro F f0
  have htl:(l.take 400).length≤400:=by rw[bgJ]; omega
  have hbt:∀ x∈l.take 400,x<256:=fun x hx=>hb x (List.mem_of_mem_take hx)
  have hR:∀ o v,Seen 1 v (gP (l.take 400))→akL l (.ptr o 2 0 0) (PH.nil.set o (aS v 0)):=fun o v hv=>⟨o,v,rfl,⟨hv,hbt,htl⟩,rfl⟩
  generalize hL:l.take 400=L at *
  simp -implicitDefEqProofs only[go_sem,δ,γ,θ,aaJ,f0]
  refine vJ (src:=gP L) rfl ?_ (fun h=>?_) fun h o ho=>?_
  ·unfold roomFor
   rw[KY]
   simp only[maxLen]; omega
  ·simp -implicitDefEqProofs only[go_sem,δ,γ,bgD,bgL,or_false,forall_eq]
   refine aP fun o ho=>?_
   simp -implicitDefEqProofs only[go_sem,γ]
   exact aW (vs:=[.ptr o 2 0 0]) (.inr rfl) (PH.nil.set o (aS .nils 0)) rfl PH.le_refl (hR o .nils (.inl ⟨h,rfl⟩))
  ·simp -implicitDefEqProofs only[go_sem,δ,γ,bgD,bgL,or_false,forall_eq]
   refine aP fun p hp=>?_
   have hne:¬ p=o:=(fW.1 hp).1
   have hne':¬ o=p:=fun h=>hne h.symm
   simp -implicitDefEqProofs only[go_sem,γ]
   refine ajO (v:=.ptr p 2 0 0) (q:=o) (s:=1) (rs:=gP L) (H2:=PH.nil.set p (aS (.sl 1 (gP L)) 0)) (.inr rfl) rfl (by simp -implicitDefEqProofs only[go_sem,hne']) (PH.aA PH.nil_le ?_) (hR p _ (.inr rfl))
   have h2:(gP L).take L.length=gP L:=bgH (by rw[KY]; exact bfX _)
   simp -implicitDefEqProofs only[go_sem,hne,bV.frz,PV.cR,bfT,h2]
   rfl
 simp only[aD.wp,go_sem] at fin
 by_cases c:l.length>400
 ·have c':((l.length:Nat):Int)>400:=by omega
  have c2:(400:Int)≤((l.length:Nat):Int):=by omega
  simp -implicitDefEqProofs only[go_sem,κ,ν,γ,reduceCtorEq,c',aEV,bfT,c2]
  refine fin _ ?_
  rw[kS,if_pos rfl]
  simp[gP]
 ·have c':¬ ((l.length:Nat):Int)>400:=by omega
  simp -implicitDefEqProofs only[go_sem,c']
  refine fin _ ?_
  rw[bgH (by omega)]
  simp -implicitDefEqProofs only[go_sem,reduceCtorEq]
def SV (l:List Nat) (v:PV) (o n a:Nat) (r:PV) (H:PH):Prop:=r=.int .i64 ((aC l n a).1:Nat)∧H=PH.nil.set o (aS v (aC l n a).2)
theorem aVL {C:Ctx} {l:List Nat} {v:PV} (T:Tp l v) (o n a:Nat) (hn:n≤1000000) (ha:a≤l.length):tD.wp C (aX MJ.res (SV l v o n a)) (PF.args [.ptr o 2 0 0,.int .i64 n]) (PH.nil.set o (aS v a)):=by
 obtain⟨hv,hb,hl⟩:=T
 have zero:(l.length≤a∨n<2)→∀ F,aD.wp C (.seq (.region RG) .ret) (aX [.tmp 4] (SV l v o n a)) F (PH.nil.set o (aS v a)):=by
  intro h F
  have e:aC l n a=(0,a):=by unfold aC; rw[if_pos h]
  simp -implicitDefEqProofs only[go_sem,RG]
  exact aW (vs:=[.int .i64 0]) (.inr rfl) _ rfl PH.le_refl ⟨by rw[e]; rfl,by rw[e]⟩
 simp only[aD.wp,go_sem] at zero
 rcases hv with ⟨h1,rfl⟩ | rfl
 ·have h0:l.length=0:=by rw[← KY,h1]; rfl
  have hge:(a:Int)≥0:=by omega
  simp -implicitDefEqProofs only[go_sem,tD,RE,MJ]
  refine cD .nil dS PH.nil_le ?_
  simp -implicitDefEqProofs only[go_sem,δ,γ,θ,reduceCtorEq,DF,hge]
  exact zero (.inl (by omega)) _
 simp -implicitDefEqProofs only[go_sem,tD,RE,MJ]
 refine cD .nil dS PH.nil_le ?_
 by_cases c1:l.length≤a
 ·have c1':(a:Int)≥(l.length:Nat):=by omega
  simp -implicitDefEqProofs only[go_sem,δ,γ,θ,reduceCtorEq,DF,bfT,c1']
  exact zero (.inl c1) _
 have c1':¬ (a:Int)≥(l.length:Nat):=by omega
 simp -implicitDefEqProofs only[go_sem,δ,γ,θ,reduceCtorEq,DF,bfT,c1']
 by_cases c2:n<2
 ·have c2':(n:Int)<2:=by omega
  simp -implicitDefEqProofs only[go_sem,c2']
  exact zero (.inr c2) _
 have c2':¬ (n:Int)<2:=by omega
 have hal:a<l.length:=by omega
 have e:aC l n a=(l[a]%n,a+1):=by
  unfold aC
  rw[if_neg (by omega)]
  simp[bgT,hal]
 have ew:IntKind.i64.wrap ((a:Int)+1)=((a+1:Nat):Int):=aN (by omega)
 have ep:IntKind.i64.wrap (((a+1:Nat):Int)-1)=((a:Nat):Int):=by rw[wrap_i64 (by omega) (by omega)]; omega
 have hr:=aXO l hal
 have hx:=hb _ (bgA hal)
 have eb:IntKind.i64.wrap ((l[a]:Nat):Int)=((l[a]:Nat):Int):=SP (by omega)
 have hn0:¬ ((n:Nat):Int)=0:=by omega
 have em:Int.tmod ((l[a]:Nat):Int) ((n:Nat):Int)=((l[a]%n:Nat):Int):=rfl
 simp -implicitDefEqProofs only[go_sem,δ,γ,reduceCtorEq,c2',arE,ew]
 refine cD .nil dS PH.nil_le ?_
 simp -implicitDefEqProofs only[go_sem,δ,γ,θ,reduceCtorEq,arF,ep,hr,eb,hn0,em]
 exact aW (vs:=[.int .i64 (l[a]%n:Nat)]) (.inr rfl) _ rfl PH.le_refl ⟨by rw[e]; rfl,by rw[e]⟩
end Go.PM
namespace Go.PM
open Go
def PV.oid:PV→Option Nat
 | .osl q _ _ _=>some q
 | _=>none
abbrev LI:=PV × Nat × List (List PV)
abbrev BX:=Nat × bV
def dQ (B:List BX):List Nat:=B.map (·.1)
def dA (L:List LI):List Nat:=L.filterMap fun x=>x.1.oid
structure aR (H:PH) (B:List BX) (L:List LI):Prop where
 box:∀ b∈B,H b.1=some b.2
 lst:∀ x∈L,bB H x.2.1 x.1 x.2.2
 nd:(dQ B++dA L).Nodup
section
variable {C:Ctx} {H:PH} {B:List BX} {L:List LI} {K:PV→PH→Prop}
theorem bB.id {s q:Nat} {v:PV} {rows:List (List PV)} (h:bB H s v rows) (hq:v.oid=some q):∃ rs,H q=some (.rows s rs)∧v=.osl q s 0 rows.length∧rows.length≤rs.length∧rs.take rows.length=rows:=by
 rcases h with ⟨_,rfl⟩ | ⟨p,rs,rfl,h1,h2,h3⟩
 ·cases hq
 ·cases hq
  exact⟨rs,h1,rfl,h2,h3⟩
theorem bB.same {s:Nat} {v:PV} {rows:List (List PV)} {H':PH} (h:bB H s v rows) (hk:∀ q,v.oid=some q→H' q=H q):bB H' s v rows:=by
 rcases h with h | ⟨p,rs,rfl,h1,h2,h3⟩
 ·exact .inl h
 ·exact .inr ⟨p,rs,rfl,by rw[hk p rfl]; exact h1,h2,h3⟩
theorem jI {x:LI} {q:Nat} (h:x∈L) (hq:x.1.oid=some q):q∈dA L:=List.mem_filterMap.2 ⟨x,h,hq⟩
theorem qR {b:BX} (h:b∈B):b.1∈dQ B:=bgZ.2 ⟨b,h,rfl⟩
theorem aR.nil:aR H [] []:=⟨by simp,by simp,by simp[dQ,dA]⟩
theorem aR.at (h:aR H B L) (i:Nat) {o:Nat} {x:bV} (hi:B[i]?=some (o,x)):H o=some x:=h.box _ (biF hi)
theorem aR.own (h:aR H B L) (i:Nat) {s:Nat} {v:PV} {rows:List (List PV)} (hi:L[i]?=some (v,s,rows)):bB H s v rows:=h.lst _ (biF hi)
theorem aR.ndB (h:aR H B L):(dQ B).Nodup:=(biI.1 h.nd).1
theorem aR.ndL (h:aR H B L):(dA L).Nodup:=(biI.1 h.nd).2.1
theorem aR.ndX (h:aR H B L) {o q:Nat} (ho:o∈dQ B) (hq:q∈dA L):o≠q:=(biI.1 h.nd).2.2 o ho q hq
theorem aR.ne (h:aR H B L) (i j:Nat) {o p:Nat} {x y:bV} (hi:B[i]?=some (o,x)) (hj:B[j]?=some (p,y)) (hij:i≠j):o≠p:=by
 intro e
 have h1:(dQ B)[i]?=some o:=by unfold dQ; rw[bhG,hi]; rfl
 have h2:(dQ B)[j]?=some p:=by unfold dQ; rw[bhG,hj]; rfl
 obtain⟨li,e1⟩:=bhF.1 h1
 obtain⟨lj,e2⟩:=bhF.1 h2
 have hp:=List.pairwise_iff_getElem.1 h.ndB
 rcases Nat.lt_or_gt_of_ne hij with g | g
 ·exact hp i j li lj g (by rw[e1,e2,e])
 ·exact hp j i lj li g (by rw[e1,e2,e])
theorem aR.neL (h:aR H B L) (i j:Nat) {o q:Nat} {x:bV} {y:LI} (hi:B[i]?=some (o,x)) (hj:L[j]?=some y) (hq:y.1.oid=some q):o≠q :=
 h.ndX (qR (biF hi)) (jI (biF hj) hq)
theorem aR.fresh (h:aR H B L) {o:Nat} (ho:H o=none):o ∉ dQ B∧o ∉ dA L:=by
 refine⟨fun hm=>?_,fun hm=>?_⟩
 ·obtain⟨b,hb,rfl⟩:=bgZ.1 hm
  rw[h.box b hb] at ho; cases ho
 ·obtain⟨x,hx,e⟩:=List.mem_filterMap.1 hm
  obtain⟨rs,h1,_⟩:=(h.lst x hx).id e
  rw[h1] at ho; cases ho
theorem aR.keep (h:aR H B L) {H':PH} (hk:∀ q,q∈dQ B∨q∈dA L→H' q=H q):aR H' B L :=
 ⟨fun b hb=>by rw[hk _ (.inl (qR hb))]; exact h.box b hb,fun x hx=>(h.lst x hx).same fun q hq=>hk q (.inr (jI hx hq)),h.nd⟩
theorem aUM {i:Nat} {o:Nat} {x y:bV} (hi:B[i]?=some (o,x)):dQ (B.set i (o,y))=dQ B:=by
 unfold dQ
 rw[List.map_set]
 refine List.ext_getElem? fun j=>?_
 rw[List.getElem?_set]
 split
 ·rename_i e
  subst e
  rw[bhG,hi]
  have:=(bhF.1 hi).1
  simp[this]
 ·rfl
theorem aR.set (h:aR H B L) (i:Nat) {o:Nat} {x:bV} (hi:B[i]?=some (o,x)) (y:bV):aR (H.set o y) (B.set i (o,y)) L:=by
 have hoB:o∈dQ B:=qR (biF hi)
 refine⟨fun b hb=>?_,fun z hz=>(h.lst z hz).same fun q hq=>?_,by rw[aUM hi]; exact h.nd⟩
 ·obtain⟨j,hj⟩:=List.mem_iff_getElem?.1 hb
  rw[List.getElem?_set] at hj
  split at hj
  ·split at hj
   ·cases hj; simp only[aV,if_true]
   ·cases hj
  ·rename_i hne
   have:b.1≠o:=fun e=>h.ne i j hi (show B[j]?=some (b.1,b.2) from hj) hne e.symm
   rw[aV,if_neg this]
   exact h.box b (biF hj)
 ·have:q≠o:=fun e=>h.ndX hoB (jI hz hq) e.symm
  rw[aV,if_neg this]
theorem aR.new (h:aR H B L) {o:Nat} (ho:H o=none) (y:bV):aR (H.set o y) (B++[(o,y)]) L:=by
 obtain⟨f1,f2⟩:=h.fresh ho
 refine⟨fun b hb=>?_,fun z hz=>(h.lst z hz).same fun q hq=>?_,?_⟩
 ·rw[bhJ,List.mem_singleton] at hb
  rcases hb with hb | rfl
  ·have:b.1≠o:=fun e=>f1 (e ▸ qR hb)
   rw[aV,if_neg this]; exact h.box b hb
  ·simp only[aV,if_true]
 ·have:q≠o:=fun e=>f2 (e ▸ jI hz hq)
  rw[aV,if_neg this]
 ·have:=h.nd
  simp only[dQ,bhS,bhA,bhV] at *
  rw[bgY,biI] at *
  obtain⟨a,b,c⟩:=this
  refine⟨a,?_,fun p hp q hq=>?_⟩
  ·rw[List.singleton_append,List.nodup_cons]; exact⟨f2,b⟩
  ·rw[List.singleton_append,bgD] at hq
   rcases hq with rfl | hq
   ·intro e; subst e; exact f1 hp
   ·exact c p hp q hq
theorem iY (L1 L2:List LI):dA (L1++L2)=dA L1++dA L2:=List.filterMap_append ..
theorem aR.qS (h:aR H B L) (s:Nat):aR H B (L++[(.nils,s,[])]):=by
 refine⟨h.box,fun z hz=>?_,?_⟩
 ·rw[bhJ,List.mem_singleton] at hz
  rcases hz with hz | rfl
  ·exact h.lst z hz
  ·exact .nil
 ·rw[iY,show dA [((.nils:PV),s,([]:List (List PV)))]=[] from rfl,bhN]; exact h.nd
theorem aR.aLF (h:aR H B L) {o s:Nat} {rows:List (List PV)} (ho:H o=none):aR (H.set o (.rows s rows)) B (L++[(.osl o s 0 rows.length,s,rows)]):=by
 obtain⟨f1,f2⟩:=h.fresh ho
 have hk:=h.keep (H':=H.set o (.rows s rows)) fun q hq=>by
  have:q≠o:=by rintro rfl; exact hq.elim f1 f2
  rw[aV,if_neg this]
 refine⟨hk.box,fun z hz=>?_,?_⟩
 ·rw[bhJ,List.mem_singleton] at hz
  rcases hz with hz | rfl
  ·exact hk.lst z hz
  ·exact .inr ⟨o,rows,rfl,by simp only[aV,if_true],bfX _,bhB⟩
 ·rw[iY,show dA [((.osl o s 0 rows.length:PV),s,rows)]=[o] from rfl,← bgY,biI]
  refine⟨h.nd,by simp,fun p hp q hq=>?_⟩
  rw[List.mem_singleton] at hq
  subst hq
  rintro rfl
  rcases bhJ.1 hp with hp | hp
  ·exact f1 hp
  ·exact f2 hp
theorem apD {i:Nat} {v v':PV} {s s':Nat} {rows rows':List (List PV)} (hi:L[i]?=some (v,s,rows)):∃ L1 L2,L=L1++(v,s,rows)::L2∧L.set i (v',s',rows')=L1++(v',s',rows')::L2:=by
 obtain⟨hl,he⟩:=bhF.1 hi
 refine⟨L.take i,L.drop (i+1),?_,?_⟩
 ·rw[← he,← bhP hl,biC]
 ·rw[List.set_eq_take_append_cons_drop,if_pos hl]
theorem aR.YC (h:aR H B L) (i:Nat) {s:Nat} {v:PV} {rows:List (List PV)} (hi:L[i]?=some (v,s,rows)) {s':Nat} {v':PV} {rows':List (List PV)} {H':PH} (ho:bB H' s' v' rows')
  (hid:∀ q,v'.oid=some q→v.oid=some q∨H q=none) (hk:∀ q,q∈dQ B∨q∈dA L→(∀ p,v.oid=some p→q≠p)→H' q=H q):aR H' B (L.set i (v',s',rows')):=by
 obtain⟨L1,L2,e1,e2⟩:=apD (v':=v') (s':=s') (rows':=rows') hi
 rw[e2]
 subst e1
 have hnd:=h.nd
 have eL:dA (L1++(v,s,rows)::L2)=dA L1++(v.oid.toList++dA L2):=by
  rw[iY]
  congr 1
  unfold dA
  rw[List.filterMap_cons]
  cases e:v.oid<;>simp
 have eL':dA (L1++(v',s',rows')::L2)=dA L1++(v'.oid.toList++dA L2):=by
  rw[iY]
  congr 1
  unfold dA
  rw[List.filterMap_cons]
  cases e:v'.oid<;>simp
 rw[eL] at hnd
 have other:∀ q,q∈dQ B∨q∈dA L1∨q∈dA L2→∀ p,v.oid=some p→q≠p:=by
  intro q hq p hp e
  subst e
  rw[hp] at hnd
  simp only[Option.toList_some] at hnd
  rw[biI] at hnd
  obtain⟨a,b,c⟩:=hnd
  rw[biI] at b
  obtain⟨b1,b2,b3⟩:=b
  rw[List.singleton_append,List.nodup_cons] at b2
  rcases hq with hq | hq | hq
  ·exact c q hq q (by simp) rfl
  ·exact b3 q hq q (by simp) rfl
  ·exact b2.1 hq
 have keepq:∀ q,q∈dQ B∨q∈dA L1∨q∈dA L2→H' q=H q:=by
  intro q hq
  refine hk q ?_ (other q hq)
  rw[eL]
  simp only[bhJ]
  rcases hq with hq | hq | hq
  ·exact .inl hq
  ·exact .inr (.inl hq)
  ·exact .inr (.inr (.inr hq))
 refine⟨fun b hb=>by rw[keepq _ (.inl (qR hb))]; exact h.box b hb,fun z hz=>?_,?_⟩
 ·rw[bhJ,bgD] at hz
  rcases hz with hz | rfl | hz
  ·exact (h.lst z (by simp[hz])).same fun q hq=>keepq q (.inr (.inl (jI hz hq)))
  ·exact ho
  ·exact (h.lst z (by simp[hz])).same fun q hq=>keepq q (.inr (.inr (jI hz hq)))
 ·rw[eL']
  cases e:v'.oid with
  | none =>
   simp only[Option.toList_none,biR]
   refine List.Nodup.sublist ?_ hnd
   exact bhU.append (bhU.refl _) (bhU.append (bhU.refl _) (List.sublist_append_right _ _))
  | some q =>
   rcases hid q e with hv | hn
   ·rw[hv] at hnd
    exact hnd
   ·obtain⟨f1,f2⟩:=h.fresh hn
    rw[eL] at f2
    simp only[bhJ,not_or] at f2
    have hnd':(dQ B++(dA L1++dA L2)).Nodup:=List.Nodup.sublist (bhU.append (bhU.refl _) (bhU.append (bhU.refl _) (List.sublist_append_right _ _))) hnd
    simp only[Option.toList_some]
    rw[biI] at hnd' ⊢
    obtain⟨a,b,c⟩:=hnd'
    rw[biI] at b
    obtain⟨b1,b2,b3⟩:=b
    refine⟨a,?_,?_⟩
    ·rw[biI]
     refine⟨b1,by rw[List.singleton_append,List.nodup_cons]; exact⟨f2.2.2,b2⟩,fun p hp r hr=>?_⟩
     rw[List.singleton_append,bgD] at hr
     rcases hr with rfl | hr
     ·rintro rfl; exact f2.1 hp
     ·exact b3 p hp r hr
    ·intro p hp r hr
     rw[bhJ,List.singleton_append,bgD] at hr
     rcases hr with hr | rfl | hr
     ·exact c p hp r (by simp[hr])
     ·rintro rfl; exact f1 hp
     ·exact c p hp r (by simp[hr])
theorem aR.append (h:aR H B L) (i:Nat) {s b:Nat} {v y:PV} {rows src:List (List PV)} (hi:L[i]?=some (v,s,rows)) (hy:dK H s y=some src) (hr:roomFor rows.length src.length b)
  (hk:∀ v' H',aR H' B (L.set i (v',s,rows++src))→(src≠[]→∃ q,v'=.osl q s 0 (rows++src).length)→K v' H'):mM H s b v y K:=by
 rcases h.own i hi with ⟨rfl,rfl⟩ | ⟨q,rs,rfl,h1,h2,h3⟩
 ·refine⟨src,hy,hr,fun e=>?_,fun e o ho=>?_⟩
  ·subst e
   refine hk _ _ ?_ fun h=>absurd rfl h
   exact h.YC i hi (.inl ⟨rfl,rfl⟩) (fun q hq=>by cases hq) fun q _ _=>rfl
  ·refine hk _ _ (h.YC i hi (.inr ⟨o,src,rfl,by simp only[aV,if_true],bfX _,bhB⟩) (fun q hq=>by cases hq; exact .inr ho) fun q hq _=>?_) fun _=>⟨o,rfl⟩
   obtain⟨f1,f2⟩:=h.fresh ho
   have:q≠o:=by rintro rfl; exact hq.elim f1 f2
   rw[aV,if_neg this]
 ·have hlen:(rows++src).length=rows.length+src.length:=bfW
  refine⟨src,hy,rfl,rfl,hr,rs,h1,h2,?_,fun o ho=>?_⟩
  ·rw[h3]
   refine hk _ _ (h.YC i hi (.inr ⟨q,rows++src,by rw[hlen],by simp only[aV,if_true],bfX _,bhB⟩) (fun p hp=>by cases hp; exact .inl rfl) fun p _ hp=>?_) fun _=>⟨q,by rw[hlen]⟩
   rw[aV,if_neg (hp q rfl)]
  ·rw[h3]
   refine hk _ _ (h.YC i hi (.inr ⟨o,rows++src,by rw[hlen],by simp only[aV,if_true],bfX _,bhB⟩) (fun p hp=>by cases hp; exact .inr ho) fun p hpm hp=>?_) fun _=>⟨o,by rw[hlen]⟩
   obtain⟨f1,f2⟩:=h.fresh ho
   have n1:p≠o:=by rintro rfl; exact hpm.elim f1 f2
   rw[aV,if_neg n1,aV,if_neg (hp q rfl)]
theorem aR.sub (h:aR H B L) {B':List BX} {L':List LI} (hB:B'.Sublist B) (hL:L'.Sublist L):aR H B' L' :=
 ⟨fun b hb=>h.box b (hB.subset hb),fun x hx=>h.lst x (hL.subset hx),List.Nodup.sublist (bhU.append (hB.map _) (hL.filterMap _)) h.nd⟩
theorem aR.a6V (h:aR H B L) (i:Nat):aR H B (L.eraseIdx i):=h.sub (bhU.refl _) (List.eraseIdx_sublist ..)
end
end Go.PM
namespace Go.PM
open Go
section
variable {C:Ctx} {F:PF} {H:PH} {B:List BX} {L:List LI}
theorem aR.MO (h:aR H B L) {q:Nat} (hq:q∈dQ B∨q∈dA L):∃ x,H q=some x:=by
 rcases hq with hq | hq
 ·obtain⟨b,hb,rfl⟩:=bgZ.1 hq
  exact⟨_,h.box b hb⟩
 ·obtain⟨x,hx,e⟩:=List.mem_filterMap.1 hq
  obtain⟨rs,h1,_⟩:=(h.lst x hx).id e
  exact⟨_,h1⟩
theorem aR.perm (h:aR H B L) {B':List BX} {L':List LI} (hB:B.Perm B') (hL:L.Perm L'):aR H B' L' :=
 ⟨fun b hb=>h.box b (hB.mem_iff.2 hb),fun x hx=>h.lst x (hL.mem_iff.2 hx),(List.Perm.nodup_iff ((hB.map _).append (hL.filterMap _))).1 h.nd⟩
theorem aR.only (h:aR H B L) {B1:List BX} {L1:List LI} (hB:B1.Sublist B) (hL:L1.Sublist L):aR (H.only (dQ B1++dA L1)) B1 L1:=by
 refine (h.sub hB hL).keep fun q hq=>?_
 rw[oU]
 rw[if_pos (bhJ.2 hq)]
theorem a4A {a b c d:List Nat} (h1:(a++c).Nodup) (h2:(b++d).Nodup) (h3:∀ q,q∈a∨q∈c→q∈b∨q∈d→False):((a++b)++(c++d)).Nodup:=by
 have e:List.Perm ((a++b)++(c++d)) ((a++c)++(b++d)):=by
  rw[bgY,bgY]
  exact List.Perm.append_left a (by rw[← bgY,← bgY]; exact List.Perm.append_right d List.perm_append_comm)
 rw[e.nodup_iff,biI]
 refine⟨h1,h2,fun p hp q hq=>?_⟩
 rintro rfl
 exact h3 p (bhJ.1 hp) (bhJ.1 hq)
theorem aR.frame {H':PH} {B1 B2 B':List BX} {L1 L2 L':List LI} (h:aR H (B1++B2) (L1++L2)) (h':aR H' B' L') (ha:kU H (H.only (dQ B1++dA L1)) H'):aR (H.over (H.only (dQ B1++dA L1)) H') (B'++B2) (L'++L2):=by
 have h2:aR H B2 L2:=h.sub (List.sublist_append_right ..) (List.sublist_append_right ..)
 have dis:∀ q,q∈dQ B2∨q∈dA L2→¬ (q∈dQ B1++dA L1):=by
  intro q hq hm
  have hnd:=h.nd
  rw[show dQ (B1++B2)=dQ B1++dQ B2 from bhS,iY] at hnd
  have e:List.Perm ((dQ B1++dQ B2)++(dA L1++dA L2)) ((dQ B1++dA L1)++(dQ B2++dA L2)):=by
   rw[bgY,bgY]
   exact List.Perm.append_left _ (by rw[← bgY,← bgY]; exact List.Perm.append_right _ List.perm_append_comm)
  rw[e.nodup_iff,biI] at hnd
  exact hnd.2.2 q hm q (bhJ.2 hq) rfl
 have new:∀ q,q∈dQ B'∨q∈dA L'→(H.over (H.only (dQ B1++dA L1)) H') q=H' q:=by
  intro q hq
  obtain⟨x,hx⟩:=h'.MO hq
  rw[lK,hx]
 have old:∀ q,q∈dQ B2∨q∈dA L2→(H.over (H.only (dQ B1++dA L1)) H') q=H q:=by
  intro q hq
  obtain⟨x,hx⟩:=h2.MO hq
  have h0:(H.only (dQ B1++dA L1)) q=none:=by rw[oU,if_neg (dis q hq)]
  rw[lK]
  cases e:H' q with
  | none=>simp only[h0]
  | some y =>
   have:=ha q y e h0
   rw[hx] at this; cases this
 have k1:=h'.keep new
 have k2:=h2.keep old
 refine⟨fun b hb=>?_,fun x hx=>?_,?_⟩
 ·rcases bhJ.1 hb with hb | hb
  ·exact k1.box b hb
  ·exact k2.box b hb
 ·rcases bhJ.1 hx with hx | hx
  ·exact k1.lst x hx
  ·exact k2.lst x hx
 ·rw[show dQ (B'++B2)=dQ B'++dQ B2 from bhS,iY]
  refine a4A h'.nd h2.nd fun q hq hq2=>?_
  obtain⟨x,hx⟩:=h'.MO hq
  obtain⟨y,hy⟩:=h2.MO hq2
  have h0:(H.only (dQ B1++dA L1)) q=none:=by rw[oU,if_neg (dis q hq2)]
  have:=ha q x hx h0
  rw[hy] at this; cases this
theorem PC {name:Nat} {vs:List PV} {args:List aM} {d:Option Nat} {K:PF→PH→Prop} {B1 B2:List BX} {L1 L2:List LI} {Q:PV→List BX→List LI→Prop} (h:aR H (B1++B2) (L1++L2))
  (hc:∀ H0,aR H0 B1 L1→aI C name vs H0 (fun r H'=>∃ B' L',Q r B' L'∧aR H' B' L')) (ha:aM.evs F args=some vs)
  (hk:∀ r B' L' H',Q r B' L'→aR H' (B'++B2) (L'++L2)→K (F.put d r) H'):fZ C name args [] d K F H:=by
 refine lE (hc (H.only (dQ B1++dA L1)) (h.only (List.sublist_append_left ..) (List.sublist_append_left ..))) ha (abD H _) ?_
 rintro r H' ⟨B',L',hq,h'⟩ hap
 exact hk r B' L' _ hq (h.frame h' hap)
theorem aR.FZ {B:List BX} {o:Nat} {x:bV} (h:aR H (B++[(o,x)]) L):H o=some x:=h.box (o,x) (by simp)
theorem aR.abJ {B:List BX} {o:Nat} {x:bV} (h:aR H (B++[(o,x)]) L) (y:bV):aR (H.set o y) (B++[(o,y)]) L:=by
 have:=h.set B.length (o:=o) (x:=x) (by simp) y
 rwa [biU _ _ (bfX _),Nat.sub_self] at this
theorem aR.dropLast {B:List BX} {b:BX} (h:aR H (B++[b]) L):aR H B L:=h.sub (List.sublist_append_left ..) (bhU.refl _)
theorem aR.a1M {B:List BX} {o:Nat} {x:bV} (h:aR H ((o,x)::B) L) (y:bV):aR (H.set o y) ((o,y)::B) L:=h.set 0 rfl y
theorem aR.a3M {B:List BX} {o:Nat} {x:bV} (h:aR H ((o,x)::B) L):H o=some x:=h.at 0 rfl
theorem fS {name o:Nat} {x y:bV} {r:PV} {vs:List PV} {args:List aM} {d:Option Nat} {K:PF→PH→Prop} (h:aI C name vs (PH.nil.set o x) (fun r' H'=>r'=r∧H'=PH.nil.set o y)) (ho:H o=some x) (ha:aM.evs F args=some vs)
  (hk:K (F.put d r) (H.set o y)):fZ C name args [] d K F H:=by
 refine lE h ha (PH.aA PH.nil_le ho) ?_
 rintro r' H' ⟨rfl,rfl⟩ -
 rw[PH.qB]
 exact hk
theorem aTG {Hs:PH} {S:Spec} {name o:Nat} {x y:bV} {r:PV} {vs:List PV} {R:PH→PV→PH→Prop} {args:List aM} {st:Bool} {d:Option Nat} {K:PF→PH→Prop} (hS:S name vs=some ([o],R)) (ho:H o=some x)
  (h:aI C name vs (PH.nil.set o x) (fun r' H'=>r'=r∧H'=PH.nil.set o y)) (hR1:R (PH.nil.set o x) r (PH.nil.set o y)) (hR2:∀ r' H',R (PH.nil.set o x) r' H'→r'=r∧H'=PH.nil.set o y) (ha:aM.evs F args=some vs)
  (hle:Hs.le (H.set o y)) (hk:K (F.put d r) (H.set o y)):dOp C Hs S st (.call name args) d K F H:=by
 have e:=atW ho
 refine⟨vs,[o],_,ha,hS,fun q hq=>?_,?_,fun G=>⟨r,_,by rw[e]; exact hR1,fun q z hz hn=>?_⟩,fun r' H' hr _=>?_⟩
 ·simp at hq; subst hq; exact⟨x,ho⟩
 ·rw[e]
  exact h.post fun r' H' hr=>⟨r',.refl _,by rw[hr.1,hr.2]; exact hR1⟩
 ·rw[e] at hn
  rw[aV] at hz hn
  split at hn
  ·cases hn
  ·rename_i hne
   rw[if_neg hne] at hz; cases hz
 ·rw[e] at hr
  obtain⟨rfl,rfl⟩:=hR2 r' H' hr
  rw[e,PH.qB]
  exact⟨hle,hk⟩
theorem aWO {s:Nat} {q z:Nat} {rs:List (List PV)} {v:PV} {rows:List (List PV)} (h:bB H s v rows) (hv:v.oid≠some q):bB (H.frz q z rs) s v (rows.map fun r=>r.map (PV.cR q z rs)):=by
 rcases h with ⟨rfl,rfl⟩ | ⟨p,rs',rfl,h1,h2,h3⟩
 ·exact .inl ⟨rfl,rfl⟩
 ·have hne:¬ p=q:=fun e=>hv (by rw[e]; rfl)
  refine .inr ⟨p,rs'.map fun r=>r.map (PV.cR q z rs),by rw[bfT],?_,by simpa using h2,?_⟩
  ·rw[MA,if_neg hne,h1]; rfl
  ·rw[bfT,← List.map_take,h3]
theorem aR.frz (h:aR H B L) (i:Nat) {q s k:Nat} {rows:List (List PV)} (hi:L[i]?=some (.osl q s 0 k,s,rows)):∃ rs,H q=some (.rows s rs)∧PV.cR q s rs (.osl q s 0 k)=.sl s rows∧PV.frz q s rs (.osl q s 0 k)=.sl s rows∧(∀ j x,j≠i→L[j]?=some x→PV.cR q s rs x.1=x.1) ∧
  aR (H.frz q s rs) (B.map fun b=>(b.1,b.2.frz q s rs)) ((L.eraseIdx i).map fun x=>(x.1,x.2.1,x.2.2.map fun r=>r.map (PV.cR q s rs))):=by
 obtain⟨rs,h1,h2,h3,h4⟩:=(h.own i hi).id rfl
 injection h2 with _ _ _ hk
 subst hk
 have e:PV.frz q s rs (.osl q s 0 rows.length)=.sl s rows:=by rw[zW h3,h4]
 refine⟨rs,h1,e,e,?_⟩
 refine⟨fun j x hji hj=>?_,?_⟩
 ·have hxq:x.1.oid≠some q:=by
   intro hxq
   obtain⟨hl,he⟩:=bhF.1 hi
   obtain⟨hl2,he2⟩:=bhF.1 hj
   have hmem:x∈L.eraseIdx i:=List.mem_eraseIdx_iff_getElem?.2 ⟨j,hji,hj⟩
   have hnd:=h.ndL
   have hs:L=L.take i++(L[i]::L.drop (i+1)):=by rw[← bhP hl,biC]
   rw[List.eraseIdx_eq_take_drop_succ] at hmem
   rw[hs,iY] at hnd
   have e3:dA (L[i]::L.drop (i+1))=q::dA (L.drop (i+1)):=by rw[he]; rfl
   rw[e3,biI] at hnd
   obtain⟨a,b,c⟩:=hnd
   rcases bhJ.1 hmem with hx | hx
   ·exact c q (jI hx hxq) q (by simp) rfl
   ·exact (List.nodup_cons.1 b).1 (jI hx hxq)
  cases hx:x.1<;>try rfl
  rename_i p z off len
  have:¬ p=q:=fun e=>hxq (by rw[hx,e]; rfl)
  simp only[PV.cR,if_neg this]
 obtain⟨L1,L2,e1,e2⟩:=apD (v':=.nils) (s':=s) (rows':=rows) hi
 have hil:i=L1.length∨True:=.inr trivial
 have ers:(L.eraseIdx i).Sublist L:=List.eraseIdx_sublist ..
 have hqn:∀ x∈L.eraseIdx i,x.1.oid≠some q:=by
  intro x hx hxq
  obtain⟨hl,he⟩:=bhF.1 hi
  have hnd:=h.ndL
  have hs:L=L.take i++(L[i]::L.drop (i+1)):=by rw[← bhP hl,biC]
  rw[List.eraseIdx_eq_take_drop_succ] at hx
  rw[hs,iY] at hnd
  have e3:dA (L[i]::L.drop (i+1))=q::dA (L.drop (i+1)):=by
   rw[he]; rfl
  rw[e3,biI] at hnd
  obtain⟨a,b,c⟩:=hnd
  rcases bhJ.1 hx with hx | hx
  ·exact c q (jI hx hxq) q (by simp) rfl
  ·exact (List.nodup_cons.1 b).1 (jI hx hxq)
 refine⟨fun b hb=>?_,fun x hx=>?_,?_⟩
 ·obtain⟨b0,hb0,rfl⟩:=bgZ.1 hb
  have:¬ b0.1=q:=h.ndX (qR hb0) (jI (biF hi) rfl)
  simp only
  rw[MA,if_neg this,h.box b0 hb0]; rfl
 ·obtain⟨x0,hx0,rfl⟩:=bgZ.1 hx
  exact aWO (h.lst x0 (ers.subset hx0)) (hqn x0 hx0)
 ·have i1:dQ (B.map fun b=>(b.1,b.2.frz q s rs))=dQ B:=by unfold dQ; rw[List.map_map]; rfl
  have i2:dA ((L.eraseIdx i).map fun x=>(x.1,x.2.1,x.2.2.map fun r=>r.map (PV.cR q s rs)))=dA (L.eraseIdx i):=by unfold dA; rw[List.filterMap_map]; rfl
  rw[i1,i2]
  exact List.Nodup.sublist (bhU.append (bhU.refl _) (ers.filterMap _)) h.nd
def Flat (rows:List (List PV)):Prop:=∀ q s rs,rows.map (fun r=>r.map (PV.cR q s rs))=rows
theorem Flat.nil:Flat []:=fun _ _ _=>rfl
theorem Flat.of {rows:List (List PV)} (h:∀ r∈rows,∀ c∈r,∀ q s rs,PV.cR q s rs c=c):Flat rows:=fun q s rs=>by
 conv=>rhs; rw[← List.map_id rows]
 refine List.map_congr_left fun r hr=>?_
 conv=>rhs; rw[id,← List.map_id r]
 exact List.map_congr_left fun c hc=>h r hr c hc q s rs
theorem Flat.map {α:Type} {f:α→List PV} (l:List α) (h:∀ x,∀ c∈f x,∀ q s rs,PV.cR q s rs c=c):Flat (l.map f):=Flat.of fun r hr=>by
 obtain⟨x,_,rfl⟩:=bgZ.1 hr
 exact h x
theorem Flat.append {r1 r2:List (List PV)} (h1:Flat r1) (h2:Flat r2):Flat (r1++r2):=fun q s rs=>by rw[bhS,h1,h2]
theorem aR.flat {φ:PV→List (List PV)} (h:aR H B L):aR H B L:=h
def vL (v:PV) (H:PH) (R:PV→PH→Prop):Prop:=∃ F1 H1 H2,gO (PF.nil.set 0 v) H F1 H1∧H2.le H1∧∃ u,F1 0=some u∧R u H2
theorem vL.done {v:PV} {H2:PH} {R:PV→PH→Prop} (hR:R v H2) (hle:H2.le H):vL v H R:=⟨_,_,H2,.refl _ _,hle,v,by rw[kS,if_pos rfl],hR⟩
theorem vL.step {v:PV} {q s:Nat} {rs:List (List PV)} {R:PV→PH→Prop} (hq:H q=some (.rows s rs)) (h:vL (PV.frz q s rs v) (H.frz q s rs) R):vL v H R:=by
 obtain⟨F1,H1,H2,h1,h2,h3⟩:=h
 have e:(PF.nil.set 0 v).frz q s rs=PF.nil.set 0 (PV.frz q s rs v):=by
  funext i
  rw[pS,kS,kS]
  split<;>rfl
 exact⟨F1,H1,H2,.step q hq (by rw[e]; exact h1),h2,h3⟩
theorem AG {res:List dC} {R:PV→PH→Prop} {vs:List PV} {e:kE} (he:e=.normal∨e=.ret) (h:dC.evs F H res=some vs) (hf:vL (cN vs) H R):aX res R e F H:=by
 have key:∃ vs,dC.evs F H res=some vs∧∃ F1 H1 H2,gO (PF.nil.set 0 (cN vs)) H F1 H1∧H2.le H1∧∃ u,F1 0=some u∧R u H2:=⟨vs,h,hf⟩
 rcases he with rfl | rfl<;>exact key
theorem TV {u:PV} (h:u.oid=none) (q s:Nat) (rs:List (List PV)):PV.cR q s rs u=u:=by
 cases u<;>first | rfl | (simp[PV.oid] at h)
theorem Seen.co {s:Nat} {v:PV} {rows:List (List PV)} (h:Seen s v rows):Co v (.sl s rows):=by
 rcases h with ⟨rfl,rfl⟩ | rfl
 ·exact .nil s
 ·exact .refl _
theorem aR.giveUp:∀ (L:List LI) {H:PH} {B:List BX},aR H B L→(∀ x∈L,Flat x.2.2)→(∀ b∈B,∀ q s rs,bV.frz q s rs b.2=b.2) →
  ∃ (φ:PV→PV) (H1:PH),(∀ x∈L,Seen x.2.1 (φ x.1) x.2.2)∧(∀ u,u.oid=none→φ u=u)∧aR H1 B []∧∀ cs R,vL (.agg (cs.map φ)) H1 R→vL (.agg cs) H R
 | [],H,B,h,_,_=>⟨id,H,by simp,fun _ _=>rfl,h,fun cs R hf=>by rwa [List.map_id] at hf⟩
 | (w,s,rows)::L,H,B,h,hL,hB=>by
  have hflat:∀ q z rs,(L.map fun x=>(x.1,x.2.1,x.2.2.map fun r=>r.map (PV.cR q z rs)))=L:=fun q z rs=>by
   conv=>rhs; rw[← List.map_id L]
   refine List.map_congr_left fun x hx=>?_
   rw[hL x (by simp[hx]) q z rs]; rfl
  rcases h.own 0 rfl with ⟨h1,h2⟩ | ⟨q,rs,h1,_⟩
  ·obtain⟨φ,H1,k1,k2,k3,k4⟩:=aR.giveUp L (h.a6V 0) (fun x hx=>hL x (by simp[hx])) hB
   refine⟨φ,H1,fun x hx=>?_,k2,k3,k4⟩
   rw[bgD] at hx
   rcases hx with rfl | hx
   ·exact .inl ⟨h1,by simp only; rw[h2]; exact k2 _ rfl⟩
   ·exact k1 x hx
  ·subst h1
   obtain⟨rs,z1,z2,z3,z4,z5⟩:=h.frz 0 rfl
   have z6:aR (H.frz q s rs) B L:=by
    have eB:(B.map fun b=>(b.1,b.2.frz q s rs))=B:=by
     conv=>rhs; rw[← List.map_id B]
     refine List.map_congr_left fun b hb=>?_
     rw[hB b hb q s rs]; rfl
    rw[eB] at z5
    have:=z5
    simp only[List.eraseIdx_cons_zero] at this
    rwa [hflat q s rs] at this
   obtain⟨φ,H1,k1,k2,k3,k4⟩:=aR.giveUp L z6 (fun x hx=>hL x (by simp[hx])) hB
   refine⟨fun u=>φ (PV.cR q s rs u),H1,fun x hx=>?_,fun u hu=>?_,k3,fun cs R hf=>?_⟩
   ·rw[bgD] at hx
    rcases hx with rfl | hx
    ·simp only
     rw[z2]
     exact .inr (k2 _ rfl)
    ·obtain⟨j,hj⟩:=List.mem_iff_getElem?.1 hx
     have:=z4 (j+1) x (by omega) (by simpa using hj)
     simp only
     rw[this]
     exact k1 x hx
   ·simp only
    rw[TV hu,k2 u hu]
   ·refine .step z1 ?_
    have e:PV.frz q s rs (.agg cs)=.agg (cs.map (PV.cR q s rs)):=rfl
    rw[e]
    refine k4 _ R ?_
    rw[List.map_map]
    exact hf
theorem HP {K:cC} {α:Type} {Fs:α→PF} {Hs:α→PH} {Pr:α→Prop} {m:α→Nat} {n q s:Nat} {rs:List (List PV)} (a:α) (hq:H q=some (.rows s rs)) (h0:Pr a) (hm:m a<n) (hF:(Fs a).le (F.frz q s rs)) (hH:(Hs a).le (H.frz q s rs)):fQ Fs Hs Pr m n K .normal F H :=
 ⟨a,_,_,.step q hq (.refl _ _),h0,hm,hF,hH⟩
end
end Go.PM
namespace Go.PM
open Go Go.Na
structure pF (C:Ctx):Prop extends akO C where
 int:∀ n:Int,dT n→aI C 47 [.int .i64 n] .nil (aL (.agg (mkT n 1).cells))
 itoa:∀ n:Nat,n<100→aI C 195 [.int .i64 n] .nil (aL (.str (bO n)))
 next:∀ (l:List Nat) (v:PV),Tp l v→∀ (o n a:Nat),n≤1000000→a≤l.length→aI C 4 [.ptr o 2 0 0,.int .i64 n] (PH.nil.set o (aS v a)) (SV l v o n a)
section
variable {C:Ctx} {F:PF} {H:PH} {l:List Nat} {v:PV} {o a:Nat}
theorem cB (Lb:pF C) (T:Tp l v) {n:Nat} {args:List aM} {d:Option Nat} {K:PF→PH→Prop} (hn:n≤1000000) (ha:a≤l.length) (hargs:aM.evs F args=some [.ptr o 2 0 0,.int .i64 n]) (ho:H o=some (aS v a))
  (hk:K (F.put d (.int .i64 ((aC l n a).1:Nat))) (H.set o (aS v (aC l n a).2))):fZ C 4 args [] d K F H :=
 fS (Lb.next l v T o n a hn ha) ho hargs hk
end
def aXZ (l:List Nat) (v:PV) (o a:Nat) (r:PV) (H:PH):Prop:=r=.agg (eI l a).1.cells∧H=PH.nil.set o (aS v (eI l a).2)
theorem qM (l:List Nat) {a:Nat} (h:a≤l.length):(eI l a).2≤l.length:=bC l 8 (bC l 6 h)
theorem aVC {C:Ctx} (Lb:pF C) {l:List Nat} {v:PV} (T:Tp l v) (o a:Nat) (ha:a≤l.length):CX.wp C (aX VT.res (aXZ l v o a)) (PF.args [.ptr o 2 0 0]) (PH.nil.set o (aS v a)):=by
 simp -implicitDefEqProofs only[go_sem,δ,CX,aqH,VT]
 refine aP fun p hp=>?_
 have n1:¬ p=o:=(fW.1 hp).1
 have n1':¬ o=p:=fun h=>n1 h.symm
 have h1:=bM l (show 0<6 by decide) a
 have a1:=bC l 6 ha
 simp -implicitDefEqProofs only[go_sem,reduceCtorEq,aqI]
 refine cB Lb T (o:=o) (n:=6) (a:=a) (by decide) ha rfl (by simp -implicitDefEqProofs only[go_sem,n1']) ?_
 have e1:IntKind.i64.wrap (1+((aC l 6 a).1:Int))=((1+(aC l 6 a).1:Nat):Int):=by rw[wrap_i64 (by omega) (by omega)]; omega
 simp -implicitDefEqProofs only[go_sem,γ,reduceCtorEq,e1]
 have h2:=bM l (show 0<8 by decide) (aC l 6 a).2
 refine cB Lb T (o:=o) (n:=8) (a:=(aC l 6 a).2) (by decide) a1 rfl (by simp -implicitDefEqProofs only[go_sem]) ?_
 have e2:IntKind.i64.wrap (1+((aC l 8 (aC l 6 a).2).1:Int))=((1+(aC l 8 (aC l 6 a).2).1:Nat):Int):=by rw[wrap_i64 (by omega) (by omega)]; omega
 simp -implicitDefEqProofs only[go_sem,γ,e2]
 refine aB (Lb.fmk ((1+(aC l 6 a).1:Nat):Int) ((1+(aC l 8 (aC l 6 a).2).1:Nat):Int) (by unfold dT; omega) (by unfold dT; omega)) rfl ?_
 have hd:¬ ((1+(aC l 8 (aC l 6 a).2).1:Nat):Int)=0:=by omega
 unfold sG
 rw[if_neg hd]
 simp -implicitDefEqProofs only[go_sem,δ,γ]
 refine aP fun q hq=>?_
 have n2:¬ q=o:=(fW.1 hq).1
 have n3:¬ q=p:=(fW.1 (fW.1 hq).2).1
 have n3':¬ p=q:=fun h=>n3 h.symm
 have n2':¬ o=q:=fun h=>n2 h.symm
 simp -implicitDefEqProofs only[go_sem,δ,γ,aqJ,n1,n1',n2,n3,n3']
 refine aW (vs:=[.agg (eI l a).1.cells]) (.inr rfl) (PH.nil.set o (aS v (eI l a).2)) ?_ (PH.aA PH.nil_le ?_) ⟨rfl,rfl⟩
 ·simp -implicitDefEqProofs only[go_sem,δ,γ]
  rfl
 ·simp -implicitDefEqProofs only[go_sem,n1',n2']
  rfl
structure akI (C:Ctx):Prop extends pF C where
 frac:∀ (l:List Nat) (v:PV),Tp l v→∀ (o a:Nat),a≤l.length→aI C 1 [.ptr o 2 0 0] (PH.nil.set o (aS v a)) (aXZ l v o a)
abbrev eX (l:List RF):List (List PV):=l.map RF.cells
theorem sR (l:List RF) (x:RF):eX l++[x.cells]=eX (l++[x]):=by simp[eX]
theorem BE (l:List RF):Flat (eX l):=Flat.map l fun x c hc q s rs=>by
 simp only[RF.cells,eW,bgD,bgL,or_false] at hc
 rcases hc with rfl | rfl | rfl<;>rfl
theorem jU (l:List RF):(eX l).length=l.length:=by simp[eX]
theorem Tp.frz {l:List Nat} {v:PV} (T:Tp l v) (q s:Nat) (rs:List (List PV)):PV.cR q s rs v=v:=by
 rcases T.seen with ⟨_,rfl⟩ | rfl<;>rfl
theorem AE (l:List Nat) {a:Nat} (h:a≤l.length):∀ k,(gV l a k).2≤l.length
 | 0=>h
 | k+1=>qM l (AE l h k)
theorem auI (l:List Nat) (a:Nat):∀ k,(gV l a k).1.length=k
 | 0=>rfl
 | k+1=>by simp only[gV,bfW,bfZ,auI l a k]
def a3H (l:List Nat) (v:PV) (o a k:Nat) (r:PV) (H:PH):Prop:=r=frs (gV l a k).1∧H=PH.nil.set o (aS v (gV l a k).2)
def aKY (o:Nat) (m:Nat) (w:PV) (i:Nat):PF:=((((PF.nil.set 0 (.ptr o 2 0 0)).set 1 (.int .i64 m)).set 5 (w)).set 6 (.int .i64 i))
theorem a0R {C:Ctx} (Lb:akI C) {l:List Nat} {v:PV} (T:Tp l v) (o a m:Nat) (hm:m≤1000) (ha:a≤l.length):HZ.wp C (aX arG.res (a3H l v o a (max m 1))) (PF.args [.ptr o 2 0 0,.int .i64 m]) (PH.nil.set o (aS v a)):=by
 have hmx:∀ i:Nat,((i:Int)<(if (m:Int)<1 then 1 else (m:Int)))↔i<max m 1:=by
  intro i
  split<;>omega
 simp -implicitDefEqProofs only[go_sem,HZ,aEX,aEY,aEZ,arG]
 have h0:aR (PH.nil.set o (aS v a)) [(o,aS v a)] [(.nils,3,eX [])]:=(aR.nil.new (H:=PH.nil) rfl (aS v a)).qS 3
 refine wp_loop (α:=Nat × PV × PH) (fun t=>aKY o m t.2.1 t.1) (fun t=>t.2.2) (fun t=>t.1≤max m 1∧aR t.2.2 [(o,aS v (gV l a t.1).2)] [(t.2.1,3,eX (gV l a t.1).1)]) (fun t=>max m 1-t.1) (0,.nils,PH.nil.set o (aS v a)) ⟨bgE _,h0⟩ ?_ PH.le_refl ?_
 ·unfold aKY
  (repeat' (first|exact PF.nil_le|refine PF.aA ?_ ?_))<;>first|(simp -implicitDefEqProofs only[go_sem,γ,reduceCtorEq]<;>rfl)|rfl
 rintro⟨k,w,H0⟩ ⟨hk,hH⟩
 simp only at hk hH ⊢
 simp -implicitDefEqProofs only[go_sem,γ,reduceCtorEq,aEW,aFA,aKY]
 have hle:=AE l ha k
 have hlen:=auI l a k
 by_cases hlt:k<max m 1
 ·have hc:=(hmx k).2 hlt
  simp -implicitDefEqProofs only[go_sem,γ,reduceCtorEq,hc,aFB]
  refine fS (Lb.frac l v T o _ hle) (hH.at 0 rfl) rfl ?_
  have hH2:=hH.set 0 rfl (aS v (eI l (gV l a k).2).2)
  have h13:(1:Nat)*3≤16777216:=by decide
  simp -implicitDefEqProofs only[go_sem,υ,δ,γ,η,ζ,reduceCtorEq,h13]
  refine hH2.append 0 (src:=[(eI l (gV l a k).2).1.cells]) rfl rfl (by unfold roomFor; rw[jU,hlen]; simp only[bfZ,maxLen]; omega) fun w' H' h' _=>?_
  rw[sR] at h'
  simp -implicitDefEqProofs only[go_sem,γ,reduceCtorEq,aFC,aN (show k<9223372036854775807 by omega)]
  refine aJ (k+1,w',H') ⟨hlt,h'⟩ (by simp only; omega) ?_ PH.le_refl
  (repeat' (first|exact PF.nil_le|refine PF.aA ?_ ?_))<;>first|(simp -implicitDefEqProofs only[go_sem,γ,reduceCtorEq]<;>rfl)|rfl
 ·have hc:¬ ((k:Int)<(if (m:Int)<1 then 1 else (m:Int))):=fun h=>hlt ((hmx k).1 h)
  have e:k=max m 1:=by omega
  subst e
  simp -implicitDefEqProofs only[go_sem,γ,reduceCtorEq,hc,aFD]
  have hne:eX (gV l a (max m 1)).1≠[]:=fun h=>by
   have:=congrArg List.length h
   rw[jU,hlen] at this
   simp at this
  rcases hH.own 0 rfl with ⟨h1,_⟩ | ⟨q,rs,rfl,_⟩
  ·exact absurd h1 hne
  obtain⟨rs,g1,g2,g3,-,g4⟩:=hH.frz 0 rfl
  refine AG (vs:=[.osl q 3 0 (eX (gV l a (max m 1)).1).length]) (.inr rfl) rfl (.step g1 (.done (H2:=PH.nil.set o (aS v (gV l a (max m 1)).2)) ?_ (PH.aA PH.nil_le ?_)))
  ·rw[cN,g3]
   exact⟨rfl,rfl⟩
  ·have:=g4.at 0 rfl
   rw[this]
   simp only[bV.frz,bhA,bhV,T.frz]
   rfl
theorem aVJ {C:Ctx} (Lb:pF C) (s:List UInt8) (n:Nat) (hs:s.length≤100) (hn:n<100):DE.wp C (aX WC.res (aL (.str (s++bO n)))) (PF.args [.str s,.int .i64 n]) .nil:=by
 have hl:(bO n).length≤2:=by
  unfold bO
  rw[Lib.decDigits]
  split
  ·simp
  ·rw[Lib.decDigits,dif_pos (by omega)]; simp
 have hsum:¬ (((s.length+(bO n).length:Nat):Int)>9223372036854775807):=by omega
 simp -implicitDefEqProofs only[go_sem,γ,reduceCtorEq,DE,arB,arC,WC]
 refine aB (Lb.itoa n hn) rfl ?_
 simp -implicitDefEqProofs only[go_sem,γ,aIR,hsum]
 refine bZ (.inr rfl) rfl ?_
 rfl
end Go.PM
namespace Go.PM
open Go Go.Na
structure pG (C:Ctx):Prop extends akI C where
 rep:∀ (l:List Nat) (v:PV),Tp l v→∀ (o a m:Nat),m≤1000→a≤l.length→aI C 5 [.ptr o 2 0 0,.int .i64 m] (PH.nil.set o (aS v a)) (a3H l v o a (max m 1))
 name:∀ (s:List UInt8) (n:Nat),s.length≤100→n<100→aI C 29 [.str s,.int .i64 n] .nil (aL (.str (s++bO n)))
theorem aTA (l:List Nat) (i j:Nat) {a:Nat} (h:a≤l.length):(gB l i j a).2≤l.length:=by
 unfold gB
 split
 ·exact qM l h
 ·split
  ·exact h
  ·simp only
   split
   ·exact qM l (bC l 3 h)
   ·exact bC l 3 h
theorem abI (l:List Nat) (i:Nat) {a:Nat} (h:a≤l.length):∀ j,(cQ l i a j).2≤l.length
 | 0=>h
 | j+1=>aTA l i j (abI l i h j)
theorem SC (l:List Nat) (i a:Nat):∀ j,(cQ l i a j).1.length=j
 | 0=>rfl
 | j+1=>by simp only[cQ,bfW,bfZ,SC l i a j]
theorem QO (l:List Nat) (n i:Nat) (s:wW) (h:s.a≤l.length):(cP l n i s).2≤l.length∧(cP l n i s).1≤s.left:=by
 unfold cP
 split
 ·exact⟨bC l _ h,by have:=bM l (show 0<s.left+1 by omega) s.a; omega⟩
 ·exact⟨h,bfX _⟩
theorem alM (l:List Nat) (n i:Nat) {a:Nat} (h:a≤l.length):(dX l n i a).2≤l.length:=by
 unfold dX
 simp only
 split
 ·exact bC l 3 (qM l h)
 ·exact qM l h
theorem aaC (l:List Nat) (n:Nat) {a:Nat} (h:a≤l.length):∀ i,(eR l n a i).a≤l.length∧(eR l n a i).left≤8∧(eR l n a i).start.length=i∧(eR l n a i).exit.length=i∧(eR l n a i).rates.length=i
 | 0=>⟨h,bfX _,rfl,rfl,rfl⟩
 | i+1=>by
  obtain⟨h1,h2,h3,h4,h5⟩:=aaC l n h i
  have hl:=QO l n i (eR l n a i) h1
  refine⟨?_,?_,?_,?_,?_⟩
  ·exact abI l i (alM l n i hl.1) n
  ·simp only[eR]; omega
  ·simp only[eR,bfW,bfZ,h3]
  ·simp only[eR,bfW,bfZ,h4]
  ·simp only[eR,bfW,bfZ,h5]
abbrev qX (l:List (List RF)):List (List PV):=l.map fun r=>[frs r]
theorem afO (l:List (List RF)):Flat (qX l):=Flat.map l fun x c hc q s rs=>by
 simp only[bgD,bgL,or_false] at hc
 subst hc; rfl
abbrev QN (w1 w2 w3:PV):bV:=.rows 4 [[.str [],w1,w2,w3]]
abbrev apH:bV:=.rows 4 [[.str [],.nils,.nils,.nils]]
def eM (o o4 o6 n left i:Nat) (w:PV) (j:Nat):PF:=((((((((PF.nil.set 0 (.ptr o 2 0 0)).set 4 (.ptr o4 4 0 0)).set 5 (.int .i64 n)).set 6 (.ptr o6 4 0 0)).set 7 (.int .i64 left)).set 8 (.int .i64 i)).set 13 (w)).set 14 (.int .i64 j))
def cH (o o4 o6 n left i:Nat):PF:=((((((PF.nil.set 0 (.ptr o 2 0 0)).set 4 (.ptr o4 4 0 0)).set 5 (.int .i64 n)).set 6 (.ptr o6 4 0 0)).set 7 (.int .i64 left)).set 8 (.int .i64 i))
theorem QS {l:List RF} (h:l.length≤1000):roomFor (eX l).length 1 56:=by
 unfold roomFor
 rw[jU]
 simp only[maxLen]; omega
theorem aVF {C:Ctx} (Lb:pG C) {l:List Nat} {v:PV} (T:Tp l v) (o o4 o6 n left i a:Nat) (ha:a≤l.length) (hn:n≤100) (hi:i<n) (B:List BX) (L:List LI) (K:cC) (F:PF) (H:PH)
  (hF:(eM o o4 o6 n left i .nils 0).le F) (hH:aR H ((o,aS v a)::B) L)
  (hK:∀ w F' H',(eM o o4 o6 n left i w n).le F'→aR H' ((o,aS v (cQ l i a n).2)::B) (L++[(w,3,eX (cQ l i a n).1)])→K (.exit 2) F' H') :
  aD.wp C (.loop CZ) K F H:=by
 refine wp_loop (α:=Nat × PV × PH) (fun t=>eM o o4 o6 n left i t.2.1 t.1) (fun t=>t.2.2) (fun t=>t.1≤n∧aR t.2.2 ((o,aS v (cQ l i a t.1).2)::B) (L++[(t.2.1,3,eX (cQ l i a t.1).1)])) (fun t=>n-t.1) (0,.nils,H) ⟨bgE _,hH.qS 3⟩ hF PH.le_refl ?_
 rintro⟨j,w,H0⟩ ⟨hj,hH⟩
 simp only at hj hH ⊢
 have hle:=abI l i ha j
 have hlen:=SC l i a j
 have e1:IntKind.i64.wrap ((i:Int)+1)=((i+1:Nat):Int):=aN (by omega)
 simp -implicitDefEqProofs only[go_sem,γ,reduceCtorEq,CZ,aqW,eM]
 by_cases hlt:j<n
 ·have hlt':(j:Int)<(n:Nat):=by omega
  simp -implicitDefEqProofs only[go_sem,hlt',aqX]
  refine aB (Lb.int 0 (by unfold dT; omega)) rfl ?_
  simp -implicitDefEqProofs only[go_sem,δ]
  refine aP fun p hp=>?_
  have hH1:=hH.new hp (.rows 3 [gX.cells])
  simp -implicitDefEqProofs only[go_sem,δ,γ,reduceCtorEq,aqY,e1]
  have fin:∀ (F':PF) (H':PH),(eM o o4 o6 n left i w j).le F'→F' 15=some (.ptr p 3 0 0)→aR H' ((o,aS v (gB l i j (cQ l i a j).2).2)::B++[(p,.rows 3 [(gB l i j (cQ l i a j).2).1.cells])]) (L++[(w,3,eX (cQ l i a j).1)]) →
    aD.wp C (.region RB) (eG 3 (jL C (aD.wp C (.region RC)) (fQ (fun (t:Nat × PV × PH)=>eM o o4 o6 n left i t.2.1 t.1) (fun t=>t.2.2) (fun t=>t.1≤n∧aR t.2.2 ((o,aS v (cQ l i a t.1).2)::B) (L++[(t.2.1,3,eX (cQ l i a t.1).1)])) (fun t=>n-t.1) (n-j) K))) F' H':=by
   intro F' H' hF' f15 hH'
   have f0:F' 0=some (.ptr o 2 0 0):=hF' 0 _ (by unfold eM; simp -implicitDefEqProofs only[go_sem,reduceCtorEq])
   have f4:F' 4=some (.ptr o4 4 0 0):=hF' 4 _ (by unfold eM; simp -implicitDefEqProofs only[go_sem,γ,reduceCtorEq])
   have f5:F' 5=some (.int .i64 n):=hF' 5 _ (by unfold eM; simp -implicitDefEqProofs only[go_sem,γ,reduceCtorEq])
   have f6:F' 6=some (.ptr o6 4 0 0):=hF' 6 _ (by unfold eM; simp -implicitDefEqProofs only[go_sem,γ,reduceCtorEq])
   have f7:F' 7=some (.int .i64 left):=hF' 7 _ (by unfold eM; simp -implicitDefEqProofs only[go_sem,γ,reduceCtorEq])
   have f8:F' 8=some (.int .i64 i):=hF' 8 _ (by unfold eM; simp -implicitDefEqProofs only[go_sem,γ,reduceCtorEq])
   have f13:F' 13=some w:=hF' 13 _ (by unfold eM; simp -implicitDefEqProofs only[go_sem,γ,reduceCtorEq])
   have f14:F' 14=some (.int .i64 j):=hF' 14 _ (by unfold eM; simp -implicitDefEqProofs only[go_sem,γ,reduceCtorEq])
   have hbp:H' p=some (.rows 3 [(gB l i j (cQ l i a j).2).1.cells]):=hH'.box (p,.rows 3 [(gB l i j (cQ l i a j).2).1.cells]) (by simp)
   have h13:(1:Nat)*3≤16777216:=by decide
   simp -implicitDefEqProofs only[go_sem,υ,δ,γ,η,ζ,RB,f13,f15,hbp,h13]
   refine hH'.append (v:=w) (s:=3) (rows:=eX (cQ l i a j).1) L.length (src:=[(gB l i j (cQ l i a j).2).1.cells]) (by simp) rfl (QS (by omega)) fun w' H2 h2 _=>?_
   rw[sR,biU _ _ (bfX _),Nat.sub_self] at h2
   simp -implicitDefEqProofs only[go_sem,γ,RC,f14,aN (show j<9223372036854775807 by omega)]
   refine aJ (α:=Nat × PV × PH) (j+1,w',H2) ⟨hlt,h2.sub (List.sublist_append_left ..) (bhU.refl _)⟩ (by simp only; omega) ?_ PH.le_refl
   unfold eM
   repeat' first|exact PF.nil_le|refine PF.aA ?_ ?_|rfl|assumption
  simp only[aD.wp,go_sem] at fin
  have hstore:∀ x:RF,PH.set (PH.set H0 p (.rows 3 [gX.cells])) p (.rows 3 [x.cells])=PH.set H0 p (.rows 3 [x.cells]):=fun x=>PH.set_set p _ _
  have draw:∀ (F':PF) (H1:PH) (a1:Nat),a1≤l.length→(eM o o4 o6 n left i w j).le F'→F' 15=some (.ptr p 3 0 0)→aR H1 ((o,aS v a1)::B++[(p,.rows 3 [gX.cells])]) (L++[(w,3,eX (cQ l i a j).1)])→gB l i j (cQ l i a j).2=eI l a1→∀ K',(∀ F2 H2,(eM o o4 o6 n left i w j).le F2→F2 15=some (.ptr p 3 0 0)→aR H2 ((o,aS v (gB l i j (cQ l i a j).2).2)::B++[(p,.rows 3 [(gB l i j (cQ l i a j).2).1.cells])]) (L++[(w,3,eX (cQ l i a j).1)])→K' F2 H2) →
    wpOps C RA K' F' H1:=by
   intro F' H1 a1 ha1 hF' f15 hH1 he K' hK'
   have f0:F' 0=some (.ptr o 2 0 0):=hF' 0 _ (by unfold eM; simp -implicitDefEqProofs only[go_sem,reduceCtorEq])
   simp -implicitDefEqProofs only[go_sem,RA,f0]
   refine fS (Lb.frac l v T o a1 ha1) (hH1.at 0 rfl) rfl ?_
   have hH2:aR (H1.set o (aS v (eI l a1).2)) ((o,aS v (eI l a1).2)::B++[(p,.rows 3 [gX.cells])]) (L++[(w,3,eX (cQ l i a j).1)]):=hH1.set 0 rfl _
   have hp2:=hH2.FZ
   simp -implicitDefEqProofs only[go_sem,δ,γ,f15,hp2]
   refine hK' _ _ ?_ (by simp -implicitDefEqProofs only[go_sem,γ,f15]) ?_
   ·have g:=fun (q:Nat) u h=>hF' q u h
    unfold eM at g ⊢
    refine PF.aA (PF.aA (PF.aA (PF.aA (PF.aA (PF.aA (PF.aA (PF.aA PF.nil_le ?_) ?_) ?_) ?_) ?_) ?_) ?_) ?_
    ·simp -implicitDefEqProofs only[go_sem,reduceCtorEq,f0]
    ·simp -implicitDefEqProofs only[go_sem,ξ,ρ,σ,μ,κ,ι,ο,ν,υ,δ,τ,γ,η,θ,ζ,ε,reduceCtorEq,reduceIte,g 4 _ rfl]
    ·simp -implicitDefEqProofs only[go_sem,ξ,ρ,σ,μ,κ,ι,ο,ν,υ,δ,τ,γ,η,θ,ζ,ε,reduceCtorEq,reduceIte,g 5 _ rfl]
    ·simp -implicitDefEqProofs only[go_sem,ξ,ρ,σ,μ,κ,ι,ο,ν,υ,δ,τ,γ,η,θ,ζ,ε,reduceCtorEq,reduceIte,g 6 _ rfl]
    ·simp -implicitDefEqProofs only[go_sem,ξ,ρ,σ,μ,κ,ι,ο,ν,υ,δ,τ,γ,η,θ,ζ,ε,reduceCtorEq,reduceIte,g 7 _ rfl]
    ·simp -implicitDefEqProofs only[go_sem,ξ,ρ,σ,μ,κ,ι,ο,ν,υ,δ,τ,γ,η,θ,ζ,ε,reduceCtorEq,reduceIte,g 8 _ rfl]
    ·simp -implicitDefEqProofs only[go_sem,ξ,ρ,σ,μ,κ,ι,ο,ν,υ,δ,τ,γ,η,θ,ζ,ε,reduceCtorEq,reduceIte,g 13 _ rfl]
    ·simp -implicitDefEqProofs only[go_sem,ξ,ρ,σ,μ,κ,ι,ο,ν,υ,δ,τ,γ,η,θ,ζ,ε,reduceCtorEq,reduceIte,g 14 _ rfl]
   ·rw[he]
    exact hH2.abJ (.rows 3 [(eI l a1).1.cells])
  by_cases c1:j=i+1
  ·have he:gB l i j (cQ l i a j).2=eI l (cQ l i a j).2:=by unfold gB; rw[if_pos c1]
   simp -implicitDefEqProofs only[go_sem,γ,reduceCtorEq,bP (show (j:Int)=((i+1:Nat):Int) by omega)]
   refine draw _ _ _ hle (by unfold eM; (repeat' (first|exact PF.nil_le|refine PF.aA ?_ ?_))<;>first|(simp -implicitDefEqProofs only[go_sem,γ,reduceCtorEq]<;>rfl)|rfl) rfl hH1 he _ ?_
   intro F2 H2 k1 k2 k3
   exact fin F2 H2 k1 k2 k3
  ·simp -implicitDefEqProofs only[go_sem,γ,reduceCtorEq,bD (show ¬ (j:Int)=((i+1:Nat):Int) by omega)]
   by_cases c2:j=i
   ·have he:gB l i j (cQ l i a j).2=(gX,(cQ l i a j).2):=by unfold gB; rw[if_neg c1,if_pos c2]
    simp -implicitDefEqProofs only[go_sem,γ,reduceCtorEq,cJ (show (j:Int)=(i:Int) by omega)]
    exact fin _ _ (by unfold eM; (repeat' (first|exact PF.nil_le|refine PF.aA ?_ ?_))<;>first|(simp -implicitDefEqProofs only[go_sem,γ,reduceCtorEq]<;>rfl)|rfl) rfl (by rw[he]; exact hH1)
   ·simp -implicitDefEqProofs only[go_sem,γ,reduceCtorEq,dR (show ¬ (j:Int)=(i:Int) by omega)]
    refine cB Lb.topF T (o:=o) (n:=3) (a:=(cQ l i a j).2) (by decide) hle rfl (hH1.at 0 rfl) ?_
    have hH2:aR _ ((o,aS v (aC l 3 (cQ l i a j).2).2)::B++[(p,.rows 3 [gX.cells])]) (L++[(w,3,eX (cQ l i a j).1)]):=hH1.set 0 rfl _
    by_cases c3:(aC l 3 (cQ l i a j).2).1=0
    ·have he:gB l i j (cQ l i a j).2=eI l (aC l 3 (cQ l i a j).2).2:=by unfold gB; rw[if_neg c1,if_neg c2]; simp only[c3,if_true]
     simp -implicitDefEqProofs only[go_sem,γ,reduceCtorEq,bP (show (((aC l 3 (cQ l i a j).2).1:Nat):Int)=0 by omega)]
     refine draw _ _ _ (bC l 3 hle) (by unfold eM; (repeat' (first|exact PF.nil_le|refine PF.aA ?_ ?_))<;>first|(simp -implicitDefEqProofs only[go_sem,γ,reduceCtorEq]<;>rfl)|rfl) rfl hH2 he _ ?_
     intro F2 H2 k1 k2 k3
     exact fin F2 H2 k1 k2 k3
    ·have he:gB l i j (cQ l i a j).2=(gX,(aC l 3 (cQ l i a j).2).2):=by unfold gB; rw[if_neg c1,if_neg c2]; simp only[c3,if_false]
     simp -implicitDefEqProofs only[go_sem,γ,reduceCtorEq,bD (show ¬ (((aC l 3 (cQ l i a j).2).1:Nat):Int)=0 by omega)]
     exact fin _ _ (by unfold eM; (repeat' (first|exact PF.nil_le|refine PF.aA ?_ ?_))<;>first|(simp -implicitDefEqProofs only[go_sem,γ,reduceCtorEq]<;>rfl)|rfl) rfl (by rw[he]; exact hH2)
 ·have hlt':¬ (j:Int)<(n:Nat):=by omega
  have:j=n:=by omega
  subst this
  simp -implicitDefEqProofs only[go_sem,hlt']
  exact hK w _ _ (by unfold eM; (repeat' (first|exact PF.nil_le|refine PF.aA ?_ ?_))<;>first|(simp -implicitDefEqProofs only[go_sem,γ,reduceCtorEq]<;>rfl)|rfl) hH
end Go.PM
namespace Go.PM
open Go Go.Na
abbrev nU (o o4 o6:Nat) (v w1 w2 w3:PV) (a:Nat):List BX:=[(o,aS v a),(o4,apH),(o6,QN w1 w2 w3)]
abbrev rC (s:wW) (w1 w2 w3:PV):List LI:=[(w1,3,eX s.start),(w2,1,qX s.rates),(w3,3,eX s.exit)]
theorem aPB {C:Ctx} (Lb:pG C) {l:List Nat} {v:PV} (T:Tp l v) (o o4 o6 n i:Nat) (s:wW) (hs:s.a≤l.length) (hl:s.left≤8) (hn:n≤100) (hi:i<n) (B:List BX) (L:List LI) (rest:aD) (K:cC) (F:PF) (H:PH)
  (hF:(cH o o4 o6 n s.left i).le F) (hH:aR H ((o,aS v s.a)::B) L)
  (hK:∀ F' H',(cH o o4 o6 n (s.left-(cP l n i s).1) i).le F'→F' 9=some (.int .i64 ((cP l n i s).1:Nat))→aR H' ((o,aS v (cP l n i s).2)::B) L→aD.wp C rest K F' H') :
  aD.wp C (.seq (.region aaG) (.seq (.seq (.region aaH) (.cond (.tmp 29) (.region aaI) .skip)) (.seq (.region MI) rest))) K F H:=by
 have f0:F 0=some (.ptr o 2 0 0):=hF 0 _ (by unfold cH; simp -implicitDefEqProofs only[go_sem,reduceCtorEq])
 have f4:F 4=some (.ptr o4 4 0 0):=hF 4 _ (by unfold cH; simp -implicitDefEqProofs only[go_sem,γ,reduceCtorEq])
 have f5:F 5=some (.int .i64 n):=hF 5 _ (by unfold cH; simp -implicitDefEqProofs only[go_sem,γ,reduceCtorEq])
 have f6:F 6=some (.ptr o6 4 0 0):=hF 6 _ (by unfold cH; simp -implicitDefEqProofs only[go_sem,γ,reduceCtorEq])
 have f7:F 7=some (.int .i64 s.left):=hF 7 _ (by unfold cH; simp -implicitDefEqProofs only[go_sem,γ,reduceCtorEq])
 have f8:F 8=some (.int .i64 i):=hF 8 _ (by unfold cH; simp -implicitDefEqProofs only[go_sem,γ,reduceCtorEq])
 have e1:IntKind.i64.wrap ((i:Int)+1)=((i+1:Nat):Int):=aN (by omega)
 have hk:=(QO l n i s hs).2
 have e9:IntKind.i64.wrap ((s.left:Int)-((cP l n i s).1:Int))=((s.left-(cP l n i s).1:Nat):Int):=by rw[wrap_i64 (by omega) (by omega)]; omega
 simp -implicitDefEqProofs only[go_sem,γ,aaG,f7,aaH,f8,f5,e1]
 by_cases c:i+1<n
 ·have c':((i+1:Nat):Int)<(n:Nat):=by omega
  have he:cP l n i s=aC l (s.left+1) s.a:=by unfold cP; rw[if_pos c]
  have el:IntKind.i64.wrap ((s.left:Int)+1)=((s.left+1:Nat):Int):=aN (by omega)
  rw[he] at hK e9
  simp -implicitDefEqProofs only[go_sem,γ,reduceCtorEq,c',aaI,f0,f7,el]
  refine cB Lb.topF T (o:=o) (n:=s.left+1) (a:=s.a) (by omega) hs rfl hH.a3M ?_
  have hH2:=hH.a1M (aS v (aC l (s.left+1) s.a).2)
  simp -implicitDefEqProofs only[go_sem,γ,MI,f7,e9]
  refine hK _ _ ?_ rfl hH2
  unfold cH
  repeat' first|exact PF.nil_le|refine PF.aA ?_ ?_|rfl|assumption
 ·have c':¬ ((i+1:Nat):Int)<(n:Nat):=by omega
  have he:cP l n i s=(s.left,s.a):=by unfold cP; rw[if_neg c]
  rw[he] at hK e9
  simp only at hK e9
  simp -implicitDefEqProofs only[go_sem,γ,c',MI,f7,e9]
  refine hK _ _ ?_ rfl hH
  unfold cH
  repeat' first|exact PF.nil_le|refine PF.aA ?_ ?_|rfl|assumption
theorem aKV {C:Ctx} (Lb:pG C) {l:List Nat} {v:PV} (o o4 o6 n i left k a:Nat) (hk:k≤8) (hi:i<n) (hn:n≤100) (s:wW) (hs:s.start.length=i) (w1 w2 w3:PV) (B:List BX) (rest:aD) (K:cC) (F:PF) (H:PH)
  (hF:(cH o o4 o6 n left i).le F) (f9:F 9=some (.int .i64 k)) (hH:aR H (nU o o4 o6 v w1 w2 w3 a++B) (rC s w1 w2 w3))
  (hK:∀ w1' F' H' B',(cH o o4 o6 n left i).le F'→aR H' (nU o o4 o6 v w1' w2 w3 a++B') (rC { s with start:=s.start++[mkT (k:Nat) 8] } w1' w2 w3)→aD.wp C rest K F' H') :
  aD.wp C (.seq (.region QT) (.seq (.region QU) rest)) K F H:=by
 have f0:F 0=some (.ptr o 2 0 0):=hF 0 _ (by unfold cH; simp -implicitDefEqProofs only[go_sem,reduceCtorEq])
 have f4:F 4=some (.ptr o4 4 0 0):=hF 4 _ (by unfold cH; simp -implicitDefEqProofs only[go_sem,γ,reduceCtorEq])
 have f5:F 5=some (.int .i64 n):=hF 5 _ (by unfold cH; simp -implicitDefEqProofs only[go_sem,γ,reduceCtorEq])
 have f6:F 6=some (.ptr o6 4 0 0):=hF 6 _ (by unfold cH; simp -implicitDefEqProofs only[go_sem,γ,reduceCtorEq])
 have f7:F 7=some (.int .i64 left):=hF 7 _ (by unfold cH; simp -implicitDefEqProofs only[go_sem,γ,reduceCtorEq])
 have f8:F 8=some (.int .i64 i):=hF 8 _ (by unfold cH; simp -implicitDefEqProofs only[go_sem,γ,reduceCtorEq])
 simp -implicitDefEqProofs only[go_sem,QT,f9]
 refine aB (Lb.fmk (k:Int) 8 (by unfold dT; omega) (by unfold dT; omega)) rfl ?_
 unfold sG
 rw[if_neg (by decide)]
 simp -implicitDefEqProofs only[go_sem,δ,γ]
 refine aP fun p hp=>?_
 have hH1:=hH.new hp (.rows 3 [(mkT (k:Nat) 8).cells])
 have g6:=hH1.at 2 rfl
 have gp:=hH1.FZ
 have h13:(1:Nat)*3≤16777216:=by decide
 have hst:∀ y,PH.set (PH.set H p (.rows 3 [[PV.bool false,PV.nils,PV.nils]])) p y=PH.set H p y:=fun y=>PH.set_set p _ _
 simp -implicitDefEqProofs only[go_sem,υ,δ,γ,η,θ,ζ,QU,f6,g6,gp,h13]
 refine hH1.append 0 (src:=[(mkT (k:Nat) 8).cells]) rfl rfl (QS (by omega)) fun w1' H2 h2 hw=>?_
 rw[sR] at h2 hw; rw[jU] at hw
 obtain⟨q,rfl⟩:=hw (by simp)
 have g6':=h2.at 2 rfl
 simp -implicitDefEqProofs only[go_sem,δ,θ,g6',bgD,bgL,or_false,forall_eq]
 have h3:=h2.set 2 rfl (QN (.osl q 3 0 (s.start++[mkT (k:Nat) 8]).length) w2 w3)
 refine hK _ _ _ (B++[(p,.rows 3 [(mkT (k:Nat) 8).cells])]) ?_ h3
 unfold cH
 repeat' first|exact PF.nil_le|refine PF.aA ?_ ?_|rfl|assumption
theorem aPA {C:Ctx} (Lb:pG C) {l:List Nat} {v:PV} (T:Tp l v) (o o4 o6 n i left a:Nat) (ha:a≤l.length) (hi:i<n) (hn:n≤100) (s:wW) (hs:s.exit.length=i) (w1 w2 w3:PV) (B:List BX) (rest:aD) (K:cC) (F:PF) (H:PH)
  (hF:(cH o o4 o6 n left i).le F) (hH:aR H (nU o o4 o6 v w1 w2 w3 a++B) (rC s w1 w2 w3))
  (hK:∀ w3' F' H' B',(cH o o4 o6 n left i).le F'→aR H' (nU o o4 o6 v w1 w2 w3' (dX l n i a).2++B') (rC { s with exit:=s.exit++[(dX l n i a).1] } w1 w2 w3')→aD.wp C rest K F' H') :
  aD.wp C (.seq (.region QV) (.seq (.seq (.region QW) (.cond (.tmp 58) (.region QX) .skip)) (.seq (.region DA) rest))) K F H:=by
 have f0:F 0=some (.ptr o 2 0 0):=hF 0 _ (by unfold cH; simp -implicitDefEqProofs only[go_sem,reduceCtorEq])
 have f4:F 4=some (.ptr o4 4 0 0):=hF 4 _ (by unfold cH; simp -implicitDefEqProofs only[go_sem,γ,reduceCtorEq])
 have f5:F 5=some (.int .i64 n):=hF 5 _ (by unfold cH; simp -implicitDefEqProofs only[go_sem,γ,reduceCtorEq])
 have f6:F 6=some (.ptr o6 4 0 0):=hF 6 _ (by unfold cH; simp -implicitDefEqProofs only[go_sem,γ,reduceCtorEq])
 have f7:F 7=some (.int .i64 left):=hF 7 _ (by unfold cH; simp -implicitDefEqProofs only[go_sem,γ,reduceCtorEq])
 have f8:F 8=some (.int .i64 i):=hF 8 _ (by unfold cH; simp -implicitDefEqProofs only[go_sem,γ,reduceCtorEq])
 have e1:IntKind.i64.wrap ((i:Int)+1)=((i+1:Nat):Int):=aN (by omega)
 simp -implicitDefEqProofs only[go_sem,QV,f0]
 refine fS (Lb.frac l v T o a ha) (hH.at 0 rfl) rfl ?_
 have hH1:=hH.set 0 rfl (aS v (eI l a).2)
 simp -implicitDefEqProofs only[go_sem,δ]
 refine aP fun p hp=>?_
 have hH2:=hH1.new hp (.rows 3 [(eI l a).1.cells])
 simp -implicitDefEqProofs only[go_sem,δ,γ,QW,f8,f5,e1]
 have fin:∀ (F':PF) (H':PH),(cH o o4 o6 n left i).le F'→F' 12=some (.ptr p 3 0 0)→aR H' (nU o o4 o6 v w1 w2 w3 (dX l n i a).2++B++[(p,.rows 3 [(dX l n i a).1.cells])]) (rC s w1 w2 w3)→wpOps C DA (aD.wp C rest K) F' H':=by
  intro F' H' hF' f12 hH'
  have q0:F' 0=some (.ptr o 2 0 0):=hF' 0 _ (by unfold cH; simp -implicitDefEqProofs only[go_sem,reduceCtorEq])
  have q4:F' 4=some (.ptr o4 4 0 0):=hF' 4 _ (by unfold cH; simp -implicitDefEqProofs only[go_sem,γ,reduceCtorEq])
  have q5:F' 5=some (.int .i64 n):=hF' 5 _ (by unfold cH; simp -implicitDefEqProofs only[go_sem,γ,reduceCtorEq])
  have q6:F' 6=some (.ptr o6 4 0 0):=hF' 6 _ (by unfold cH; simp -implicitDefEqProofs only[go_sem,γ,reduceCtorEq])
  have q7:F' 7=some (.int .i64 left):=hF' 7 _ (by unfold cH; simp -implicitDefEqProofs only[go_sem,γ,reduceCtorEq])
  have q8:F' 8=some (.int .i64 i):=hF' 8 _ (by unfold cH; simp -implicitDefEqProofs only[go_sem,γ,reduceCtorEq])
  have g6:=hH'.at 2 rfl
  have gp:=hH'.FZ
  have h13:(1:Nat)*3≤16777216:=by decide
  simp -implicitDefEqProofs only[go_sem,υ,δ,γ,η,ζ,DA,q6,g6,f12,gp,h13]
  refine hH'.append 2 (src:=[(dX l n i a).1.cells]) rfl rfl (QS (by omega)) fun w3' H2 h2 hw=>?_
  rw[sR] at h2 hw; rw[jU] at hw
  obtain⟨q,rfl⟩:=hw (by simp)
  have g6':=h2.at 2 rfl
  simp -implicitDefEqProofs only[go_sem,δ,g6',bgD,bgL,or_false,forall_eq]
  have h3:=h2.set 2 rfl (QN w1 w2 (.osl q 3 0 (s.exit++[(dX l n i a).1]).length))
  refine hK _ _ _ (B++[(p,.rows 3 [(dX l n i a).1.cells])]) ?_ h3
  unfold cH
  repeat' first|exact PF.nil_le|refine PF.aA ?_ ?_|rfl|assumption
 by_cases c:i+1<n
 ·have c':((i+1:Nat):Int)<(n:Nat):=by omega
  have hle:=qM l ha
  simp -implicitDefEqProofs only[go_sem,γ,reduceCtorEq,c',f0]
  refine cB Lb.topF T (o:=o) (n:=3) (a:=(eI l a).2) (by decide) hle rfl (hH2.at 0 rfl) ?_
  have hH3:=hH2.set 0 rfl (aS v (aC l 3 (eI l a).2).2)
  by_cases c3:(aC l 3 (eI l a).2).1=0
  ·have he:dX l n i a=(gX,(aC l 3 (eI l a).2).2):=by unfold dX; simp only[if_pos c,c3,if_true]
   have gp:=aR.FZ (B:=nU o o4 o6 v w1 w2 w3 (aC l 3 (eI l a).2).2++B) hH3
   simp -implicitDefEqProofs only[go_sem,γ,bP (show (((aC l 3 (eI l a).2).1:Nat):Int)=0 by omega),QX]
   refine aB (Lb.int 0 (by unfold dT; omega)) rfl ?_
   simp -implicitDefEqProofs only[go_sem,δ,γ,gp]
   refine fin _ _ ?_ rfl ?_
   ·unfold cH
    repeat' first|exact PF.nil_le|refine PF.aA ?_ ?_|rfl|assumption
   ·rw[he]
    exact aR.abJ (B:=nU o o4 o6 v w1 w2 w3 (aC l 3 (eI l a).2).2++B) hH3 (.rows 3 [gX.cells])
  ·have he:dX l n i a=((eI l a).1,(aC l 3 (eI l a).2).2):=by unfold dX; simp only[if_pos c,c3,if_false]
   simp -implicitDefEqProofs only[go_sem,γ,bD (show ¬ (((aC l 3 (eI l a).2).1:Nat):Int)=0 by omega)]
   refine fin _ _ ?_ rfl ?_
   ·unfold cH
    repeat' first|exact PF.nil_le|refine PF.aA ?_ ?_|rfl|assumption
   ·rw[he]
    exact hH3
 ·have c':¬ ((i+1:Nat):Int)<(n:Nat):=by omega
  have he:dX l n i a=eI l a:=by unfold dX; simp only[if_neg c]
  simp -implicitDefEqProofs only[go_sem,γ,reduceCtorEq,c']
  refine fin _ _ ?_ rfl ?_
  ·unfold cH
   repeat' first|exact PF.nil_le|refine PF.aA ?_ ?_|rfl|assumption
  ·rw[he]
   exact hH2
end Go.PM
namespace Go.PM
open Go Go.Na
def aSV (l:List Nat) (v:PV) (o dZ a:Nat) (r:PV) (H:PH):Prop:=r=.agg (nH l dZ a).1.cells∧H=PH.nil.set o (aS v (nH l dZ a).2)
theorem aQP {l:List (List RF)} (h:l.length≤1000):roomFor (qX l).length 1 24:=by
 unfold roomFor
 simp only[bfT,maxLen]; omega
theorem aQQ (l:List (List RF)) (x:List RF):qX l++[[frs x]]=qX (l++[x]):=by simp[qX]
theorem aKU {C:Ctx} (Lb:pG C) {l:List Nat} {v:PV} (T:Tp l v) (o o4 o6 n left i a:Nat) (ha:a≤l.length) (hn:n≤100) (hi:i<n) (s:wW) (hs:s.rates.length=i) (w1 w2 w3:PV) (B:List BX) (K:cC) (F:PF) (H:PH)
  (hF:(cH o o4 o6 n left i).le F) (hH:aR H (nU o o4 o6 v w1 w2 w3 a++B) (rC s w1 w2 w3))
  (hK:∀ w2' w13 F' H' B',(cH o o4 o6 n left i).le F'→(∃ q,w13=.osl q 3 0 n)→aR H' (nU o o4 o6 v w1 w2' w3 (cQ l i a n).2++B') [(w1,3,eX s.start),(w2',1,qX s.rates++[[w13]]),(w3,3,eX s.exit),(w13,3,eX (cQ l i a n).1)]→K .normal F' H') :
  aD.wp C (.seq (.region QY) (.seq (.seq (.region QZ) (.block 2 (.loop CZ))) (.region RD))) K F H:=by
 have f0:F 0=some (.ptr o 2 0 0):=hF 0 _ (by unfold cH; simp -implicitDefEqProofs only[go_sem,reduceCtorEq])
 have f4:F 4=some (.ptr o4 4 0 0):=hF 4 _ (by unfold cH; simp -implicitDefEqProofs only[go_sem,γ,reduceCtorEq])
 have f5:F 5=some (.int .i64 n):=hF 5 _ (by unfold cH; simp -implicitDefEqProofs only[go_sem,γ,reduceCtorEq])
 have f6:F 6=some (.ptr o6 4 0 0):=hF 6 _ (by unfold cH; simp -implicitDefEqProofs only[go_sem,γ,reduceCtorEq])
 have f7:F 7=some (.int .i64 left):=hF 7 _ (by unfold cH; simp -implicitDefEqProofs only[go_sem,γ,reduceCtorEq])
 have f8:F 8=some (.int .i64 i):=hF 8 _ (by unfold cH; simp -implicitDefEqProofs only[go_sem,γ,reduceCtorEq])
 simp -implicitDefEqProofs only[go_sem,QY,QZ]
 refine aVF (C:=C) Lb T o o4 o6 n left i a ha hn hi ([(o4,apH),(o6,QN w1 w2 w3)]++B) (rC s w1 w2 w3) _ _ H ?_ hH ?_
 ·unfold eM
  (repeat' (first|exact PF.nil_le|refine PF.aA ?_ ?_))<;>first|(simp -implicitDefEqProofs only[go_sem,γ,reduceCtorEq,f0,f4,f5,f6,f7,f8]<;>rfl)|rfl
 intro w F1 H1 hF1 hH1
 have hlen:=SC l i a n
 have hw:∃ q,w=.osl q 3 0 n:=by
  rcases hH1.own (v:=w) 3 rfl with ⟨h1,_⟩ | ⟨q,rs,h1,_⟩
  ·have:=congrArg List.length h1
   rw[jU,hlen] at this
   simp at this; omega
  ·rw[jU,hlen] at h1
   exact⟨q,h1⟩
 obtain⟨q,rfl⟩:=hw
 have g0:F1 0=some (.ptr o 2 0 0):=hF1 0 _ (by unfold eM; simp -implicitDefEqProofs only[go_sem,reduceCtorEq])
 have g4:F1 4=some (.ptr o4 4 0 0):=hF1 4 _ (by unfold eM; simp -implicitDefEqProofs only[go_sem,γ,reduceCtorEq])
 have g5:F1 5=some (.int .i64 n):=hF1 5 _ (by unfold eM; simp -implicitDefEqProofs only[go_sem,γ,reduceCtorEq])
 have g6:F1 6=some (.ptr o6 4 0 0):=hF1 6 _ (by unfold eM; simp -implicitDefEqProofs only[go_sem,γ,reduceCtorEq])
 have g7:F1 7=some (.int .i64 left):=hF1 7 _ (by unfold eM; simp -implicitDefEqProofs only[go_sem,γ,reduceCtorEq])
 have g8:F1 8=some (.int .i64 i):=hF1 8 _ (by unfold eM; simp -implicitDefEqProofs only[go_sem,γ,reduceCtorEq])
 have g13:F1 13=some (.osl q 3 0 n):=hF1 13 _ (by unfold eM; simp -implicitDefEqProofs only[go_sem,γ,reduceCtorEq])
 have b6:=hH1.at 2 rfl
 have h11:(1:Nat)*1≤16777216:=by decide
 simp -implicitDefEqProofs only[go_sem,υ,δ,γ,η,θ,ζ,RD,g6,b6,g13,h11,bgD,bgL,or_false,forall_eq]
 refine hH1.append 1 (src:=[[.osl q 3 0 n]]) rfl (by simp -implicitDefEqProofs only[go_sem]) (aQP (by omega)) fun w2' H2 h2 hw2=>?_
 obtain⟨q2,rfl⟩:=hw2 (by simp)
 have b6':=h2.at 2 rfl
 simp -implicitDefEqProofs only[go_sem,δ,θ,b6',bgD,bgL,or_false,forall_eq]
 have h3:=h2.set 2 rfl (QN w1 (.osl q2 1 0 (qX s.rates++[[PV.osl q 3 0 n]]).length) w3)
 have hl2:(qX s.rates++[[(PV.osl q 3 0 n:PV)]]).length=s.rates.length+1:=by simp
 rw[hl2] at h3 ⊢
 refine hK (.osl q2 1 0 (s.rates.length+1)) (.osl q 3 0 n) _ _ B ?_ ⟨q,rfl⟩ h3
 unfold cH
 (repeat' (first|exact PF.nil_le|refine PF.aA ?_ ?_))<;>first|(simp -implicitDefEqProofs only[go_sem,γ,reduceCtorEq,g0,g4,g5,g6,g7,g8]<;>rfl)|rfl
theorem a0L {C:Ctx} (Lb:pG C) {l:List Nat} {v:PV} (T:Tp l v) (o dZ a:Nat) (hm:0<dZ) (hm2:dZ≤50) (ha:a≤l.length):HX.wp C (aX aqU.res (aSV l v o dZ a)) (PF.args [.ptr o 2 0 0,.int .i64 dZ]) (PH.nil.set o (aS v a)):=by
 have h0:aR (PH.nil.set o (aS v a)) [(o,aS v a)] []:=aR.nil.new (H:=PH.nil) rfl (aS v a)
 simp -implicitDefEqProofs only[go_sem,δ,HX,aEN,aqU]
 refine aP fun o4 ho4=>?_
 have h1:=h0.new ho4 apH
 simp -implicitDefEqProofs only[go_sem,γ,reduceCtorEq,aEO]
 refine cB Lb.topF T (o:=o) (n:=dZ) (a:=a) (by omega) ha (by simp -implicitDefEqProofs only[go_sem,γ]) (h1.at 0 rfl) ?_
 have h2:=h1.set 0 rfl (aS v (aC l dZ a).2)
 have hN:=bM l hm a
 have hNa:=bC l dZ ha
 have e1:IntKind.i64.wrap (1+((aC l dZ a).1:Int))=((1+(aC l dZ a).1:Nat):Int):=by rw[wrap_i64 (by omega) (by omega)]; omega
 have hRT:∀ s:wW,s=eR l (1+(aC l dZ a).1) (aC l dZ a).2 (1+(aC l dZ a).1)→nH l dZ a=(⟨[],s.start,s.rates,s.exit⟩,s.a):=fun s hs=>by rw[hs]; rfl
 have hLR:∀ r H,aSV l v o dZ a r H↔r=.agg (nH l dZ a).1.cells∧H=PH.nil.set o (aS v (nH l dZ a).2):=fun _ _=>Iff.rfl
 generalize hn:1+(aC l dZ a).1=n at *
 generalize hb:(aC l dZ a).2=b at *
 have hn0:0<n:=by omega
 have hn100:n≤100:=by omega
 simp -implicitDefEqProofs only[go_sem,δ,γ,e1,aEP]
 refine aP fun o6 ho6=>?_
 have h3:=((h2.new ho6 apH).qS 3).qS 1
 have h4:=h3.qS 3
 simp -implicitDefEqProofs only[go_sem,aEQ,aER]
 refine wp_loop (α:=Nat × PV × PV × PV × PH) (fun t=>cH o o4 o6 n (eR l n b t.1).left t.1) (fun t=>t.2.2.2.2)
  (fun t=>t.1≤n∧aR t.2.2.2.2 (nU o o4 o6 v t.2.1 t.2.2.1 t.2.2.2.1 (eR l n b t.1).a) (rC (eR l n b t.1) t.2.1 t.2.2.1 t.2.2.2.1)) (fun t=>n-t.1) (0,.nils,.nils,.nils,_) ⟨bgE _,h4⟩ ?_ PH.le_refl ?_
 ·unfold cH
  (repeat' (first|exact PF.nil_le|refine PF.aA ?_ ?_))<;>first|(simp -implicitDefEqProofs only[go_sem,γ,reduceCtorEq,eR]<;>rfl)|rfl
 rintro⟨i,w1,w2,w3,H0⟩ ⟨hi,hH⟩
 simp only at hi hH ⊢
 obtain⟨k1,k2,k3,k4,k5⟩:=aaC l n hNa i
 simp -implicitDefEqProofs only[go_sem,γ,reduceCtorEq,aqV,aES,cH]
 by_cases hlt:i<n
 ·have hlt':(i:Int)<(n:Nat):=by omega
  have hstep:eR l n b (i+1)=⟨(eR l n b i).start++[mkT ((cP l n i (eR l n b i)).1:Nat) 8],(eR l n b i).exit++[(dX l n i (cP l n i (eR l n b i)).2).1],(eR l n b i).rates++[(cQ l i (dX l n i (cP l n i (eR l n b i)).2).2 n).1],(eR l n b i).left-(cP l n i (eR l n b i)).1,(cQ l i (dX l n i (cP l n i (eR l n b i)).2).2 n).2⟩:=rfl
  have kl:=QO l n i (eR l n b i) k1
  have ke:=alM l n i kl.1
  generalize hs:eR l n b i=s at *
  simp -implicitDefEqProofs only[go_sem,hlt']
  refine aPB (C:=C) Lb T o o4 o6 n i s k1 k2 hn100 hlt [(o4,apH),(o6,QN w1 w2 w3)] (rC s w1 w2 w3) _ _ _ H0 (by unfold cH; (repeat' (first|exact PF.nil_le|refine PF.aA ?_ ?_))<;>first|(simp -implicitDefEqProofs only[go_sem,γ,reduceCtorEq]<;>rfl)|rfl) hH ?_
  intro F1 H1 hF1 f9 hH1
  refine aKV (C:=C) (l:=l) Lb o o4 o6 n i _ (cP l n i s).1 (cP l n i s).2 (by omega) hlt hn100 s k3 w1 w2 w3 [] _ _ F1 H1 hF1 f9 hH1 ?_
  intro w1' F2 H2 B2 hF2 hH2
  refine aPA (C:=C) Lb T o o4 o6 n i _ (cP l n i s).2 kl.1 hlt hn100 { s with start:=s.start++[mkT ((cP l n i s).1:Nat) 8] } k4 w1' w2 w3 B2 _ _ F2 H2 hF2 hH2 ?_
  intro w3' F3 H3 B3 hF3 hH3
  refine aKU (C:=C) Lb T o o4 o6 n _ i (dX l n i (cP l n i s).2).2 ke hn100 hlt { s with start:=s.start++[mkT ((cP l n i s).1:Nat) 8],exit:=s.exit++[(dX l n i (cP l n i s).2).1] } k5 w1' w2 w3' B3 _ F3 H3 hF3 hH3 ?_
  rintro w2' w13 F4 H4 B4 hF4 ⟨q,rfl⟩ hH4
  have g0:F4 0=some (.ptr o 2 0 0):=hF4 0 _ (by unfold cH; simp -implicitDefEqProofs only[go_sem,reduceCtorEq])
  have g4:F4 4=some (.ptr o4 4 0 0):=hF4 4 _ (by unfold cH; simp -implicitDefEqProofs only[go_sem,γ,reduceCtorEq])
  have g5:F4 5=some (.int .i64 n):=hF4 5 _ (by unfold cH; simp -implicitDefEqProofs only[go_sem,γ,reduceCtorEq])
  have g6:F4 6=some (.ptr o6 4 0 0):=hF4 6 _ (by unfold cH; simp -implicitDefEqProofs only[go_sem,γ,reduceCtorEq])
  have g7:F4 7=some (.int .i64 (s.left-(cP l n i s).1:Nat)):=hF4 7 _ (by unfold cH; simp -implicitDefEqProofs only[go_sem,γ,reduceCtorEq])
  have g8:F4 8=some (.int .i64 i):=hF4 8 _ (by unfold cH; simp -implicitDefEqProofs only[go_sem,γ,reduceCtorEq])
  obtain⟨rs,z1,z2,z3,z4,z5⟩:=hH4.frz 3 rfl
  have y1:=z4 0 _ (by decide) rfl
  have y2:=z4 1 _ (by decide) rfl
  have y3:=z4 2 _ (by decide) rfl
  simp only at y1 y2 y3
  have y4:=T.frz q 3 rs
  simp -implicitDefEqProofs only[go_sem,γ,aqZ,g8,aN (show i<9223372036854775807 by omega)]
  refine HP (i+1,w1',w2',w3',H4.frz q 3 rs) z1 ⟨hlt,?_⟩ (by simp only; omega) ?_ PH.le_refl
  ·rw[hstep]
   have eB:(nU o o4 o6 v w1' w2' w3' (cQ l i (dX l n i (cP l n i s).2).2 n).2).map (fun b=>(b.1,b.2.frz q 3 rs))=nU o o4 o6 v w1' w2' w3' (cQ l i (dX l n i (cP l n i s).2).2 n).2:=by
    simp only[bhA,bhV,bV.frz,y1,y2,y3,y4]
    rfl
   have eL:([(w1',3,eX (s.start++[mkT ((cP l n i s).1:Nat) 8])),(w2',1,qX s.rates++[[.osl q 3 0 n]]),(w3',3,eX (s.exit++[(dX l n i (cP l n i s).2).1]))]:List LI).map (fun x=>(x.1,x.2.1,x.2.2.map fun r=>r.map (PV.cR q 3 rs))) =
     rC ⟨s.start++[mkT ((cP l n i s).1:Nat) 8],s.exit++[(dX l n i (cP l n i s).2).1],s.rates++[(cQ l i (dX l n i (cP l n i s).2).2 n).1],s.left-(cP l n i s).1,(cQ l i (dX l n i (cP l n i s).2).2 n).2⟩ w1' w2' w3':=by
    have e2:(qX s.rates++[[PV.osl q 3 0 n]]).map (fun r=>r.map (PV.cR q 3 rs))=qX (s.rates++[(cQ l i (dX l n i (cP l n i s).2).2 n).1]):=by
     rw[bhS,afO,bhA,bhV,bhA,bhV,z2,aQQ]
    show ([(w1',3,(eX (s.start++[mkT ((cP l n i s).1:Nat) 8])).map (fun r=>r.map (PV.cR q 3 rs))),(w2',1,(qX s.rates++[[PV.osl q 3 0 n]]).map (fun r=>r.map (PV.cR q 3 rs))),(w3',3,(eX (s.exit++[(dX l n i (cP l n i s).2).1])).map (fun r=>r.map (PV.cR q 3 rs)))]:List LI)=_
    rw[BE,e2,BE]
   rw[← eB,← eL]
   exact z5.sub (by rw[bhS]; exact List.sublist_append_left ..) (bhU.refl _)
  ·rw[hstep]
   (repeat' (first|exact PF.nil_le|refine PF.aA ?_ ?_))<;>first|(simp -implicitDefEqProofs only[go_sem,γ,reduceCtorEq,g0,g4,g5,g6,g7,g8]<;>rfl)|rfl
 ·have hlt':¬ (i:Int)<(n:Nat):=by omega
  have:i=n:=by omega
  subst this
  simp -implicitDefEqProofs only[go_sem,γ,reduceCtorEq,hlt',arA]
  have b4:=hH.at 1 rfl
  have b6:=hH.at 2 rfl
  have osl:∀ {w:PV} {z:Nat} {rows:List (List PV)},rows.length=i→bB H0 z w rows→∃ q,w=.osl q z 0 i:=by
   intro w z rows hr hO
   rcases hO with ⟨h1,_⟩ | ⟨q,rs,h1,_⟩
   ·rw[h1] at hr; simp at hr; omega
   ·exact⟨q,by rw[h1,hr]⟩
  obtain⟨q1,rfl⟩:=osl (by rw[jU,k3]) (hH.own 0 rfl)
  obtain⟨q2,rfl⟩:=osl (by rw[bfT,k5]) (hH.own 1 rfl)
  obtain⟨q3,rfl⟩:=osl (by rw[jU,k4]) (hH.own 2 rfl)
  have hR:=hRT (eR l i b i) rfl
  simp -implicitDefEqProofs only[go_sem,δ,γ,reduceCtorEq,b6,b4,bgD,bgL,or_false,forall_eq,forall_eq_or_imp]
  have x1:=hH.set 1 rfl (QN (.osl q1 3 0 i) (.osl q2 1 0 i) (.osl q3 3 0 i))
  obtain⟨r1,s1,s2,s3,s4,s5⟩:=x1.frz 0 rfl
  have u2:=s4 1 _ (by decide) rfl
  have u3:=s4 2 _ (by decide) rfl
  simp only at u2 u3
  have u4:=T.frz q1 3 r1
  obtain⟨r2,t1,t2,t3,t4,t5⟩:=s5.frz 0 rfl
  have m3:=t4 1 _ (by decide) rfl
  simp only at m3
  have m4:=T.frz q2 1 r2
  obtain⟨r3,n1,n2,n3,n4,n5⟩:=t5.frz 0 rfl
  have n4:=T.frz q3 3 r3
  refine AG (vs:=[.agg [.str [],.osl q1 3 0 i,.osl q2 1 0 i,.osl q3 3 0 i]]) (.inr rfl) ?_ (.step s1 (.step t1 (.step n1 (.done (H2:=PH.nil.set o (aS v (eR l i b i).a)) ?_ (PH.aA PH.nil_le ?_)))))
  ·simp -implicitDefEqProofs only[go_sem,δ,γ,reduceCtorEq]
  ·rw[hLR,hR]
   refine⟨?_,rfl⟩
   simp only[cN,PV.frz,PV.pR,bhA,bhV,s2,u2,u3,t2,m3,n2]
   simp only[PV.cR,BE _ _ _ _,afO _ _ _ _]
  ·have:=n5.at 0 rfl
   rw[this]
   simp only[bV.frz,bhA,bhV,u4,m4,n4]
   rfl
end Go.PM
namespace Go.PM
open Go Go.Na
structure kJ (C:Ctx):Prop extends pG C where
 law:∀ (l:List Nat) (v:PV),Tp l v→∀ (o dZ a:Nat),0<dZ→dZ≤50→a≤l.length→aI C 2 [.ptr o 2 0 0,.int .i64 dZ] (PH.nil.set o (aS v a)) (aSV l v o dZ a)
structure GOk (l:List Nat) (drives:Nat) (s:GS):Prop where
 doms:s.doms.length≤35
 drvs:s.drvs.length≤drives
 a:s.a≤l.length
theorem PY {l:List Nat} {mc drives dom:Nat} {s:GS} (h:GOk l drives s):∀ i,GOk l drives (gL l mc drives dom s i)∧(gL l mc drives dom s i).doms=s.doms
 | 0=>⟨h,rfl⟩
 | i+1=>by
  obtain⟨⟨h1,h2,h3⟩,h4⟩:=PY (mc:=mc) (dom:=dom) h i
  simp only[gL]
  split
  ·exact⟨⟨h1,by simp only[bfW,bfZ]; omega,bC l mc h3⟩,h4⟩
  ·exact⟨⟨h1,h2,h3⟩,h4⟩
theorem aBS {l:List Nat} {level dom drives:Nat} {s:GS} (h:GOk l drives s) (hf:mU drives s=false):GOk l drives (kM l level dom s)∧∃ x:cK,(kM l level dom s).doms=s.doms++[x]∧x.level=(level:Int)∧x.parent=(dom:Int):=by
 obtain⟨h1,h2,h3⟩:=h
 unfold mU at hf
 rw[Bool.or_eq_false_iff] at hf
 have hd:=of_decide_eq_false hf.2
 refine⟨⟨?_,h2,?_⟩,_,rfl,rfl,rfl⟩
 ·simp only[kM,bfW,bfZ]; omega
 ·have a1:=bC l 3 (bC l 16 h3)
  simp only[kM]
  split
  ·exact bC l 6 a1
  ·exact a1
theorem PZ {l:List Nat} {level drives dom:Nat} {rec:Nat→GS→GS} (hrec:∀ d t,GOk l drives t→GOk l drives (rec d t)∧∃ u,(rec d t).doms=t.doms++u) {s:GS} (h:GOk l drives s) :
  ∀ i,GOk l drives (fA l level drives dom rec s i)∧∃ u,(fA l level drives dom rec s i).doms=s.doms++u
 | 0=>⟨h,[],by simp[fA]⟩
 | i+1=>by
  obtain⟨h1,u,h2⟩:=PZ hrec h i
  simp only[fA]
  split
  ·exact⟨h1,u,h2⟩
  ·rename_i hf
   obtain⟨g1,x,g2,-⟩:=aBS (level:=level) (dom:=dom) h1 (by simpa using hf)
   obtain⟨k1,u',k2⟩:=hrec ((kM l level dom (fA l level drives dom rec s i)).doms.length-1) _ g1
   exact⟨k1,u++[x]++u',by rw[k2,g2,h2]; simp⟩
theorem BO {l:List Nat} {mc drives:Nat}:∀ (k dom:Nat) {s:GS},GOk l drives s→GOk l drives (dV l mc drives k dom s)∧∃ u,(dV l mc drives k dom s).doms=s.doms++u
 | 0,dom,s,h=>by
  have h0:GOk l drives { s with a:=(aC l 2 s.a).2 }:=⟨h.doms,h.drvs,bC l 2 h.a⟩
  obtain⟨h1,h2⟩:=PY (mc:=mc) (dom:=dom) h0 (1+(aC l 2 s.a).1)
  exact⟨h1,[],by simp only[dV]; rw[h2]; simp⟩
 | k+1,dom,s,h=>by
  have h0:GOk l drives { s with a:=(aC l 2 s.a).2 }:=⟨h.doms,h.drvs,bC l 2 h.a⟩
  exact PZ (level:=4-k) (dom:=dom) (fun d t ht=>BO k d ht) h0 (if 4-k=2 then 1 else 1+(aC l 2 s.a).1)
theorem aJQ {l : List Nat} {level drives dom : Nat} {rec : Nat → GS → GS} {s : GS} {i : Nat} (h : mU drives (fA l level drives dom rec s i) = true) : ∀ n, i ≤ n → fA l level drives dom rec s n = fA l level drives dom rec s i := by
  intro n hn
  induction n with
  | zero => have : i = 0 := by omega
            subst this; rfl
  | succ n ih =>
    rcases bgI n i with h' | h'
    · have : i = n + 1 := by omega
      subst this; rfl
    · have e := ih h'
      simp only [fA]
      rw [e, if_pos h]
def mkS (l:List Nat) (v:PV):Spec:=fun name vs=>match name,vs with
 | 29,[.str s,.int _ i]=>some ([],fun _=>aL (.str (s++bO i.toNat)))
 | 47,[.int _ n]=>some ([],fun _=>aL (.agg (mkT n 1).cells))
 | 4,[.ptr o _ _ _,.int _ n]=>some ([o],fun H0 r H'=>∀ a,H0 o=some (aS v a)→SV l v o n.toNat a r H')
 | _,_=>none
section
variable {C:Ctx} {F:PF} {H Hs:PH} {l:List Nat} {v:PV} {o a:Nat}
theorem oC (Lb:pF C) (T:Tp l v) {n:Nat} {st:Bool} {args:List aM} {d:Option Nat} {K:PF→PH→Prop} (hn:n≤1000000) (ha:a≤l.length) (hargs:aM.evs F args=some [.ptr o 2 0 0,.int .i64 n]) (ho:H o=some (aS v a))
  (hle:Hs.le (H.set o (aS v (aC l n a).2))) (hk:K (F.put d (.int .i64 ((aC l n a).1:Nat))) (H.set o (aS v (aC l n a).2))):dOp C Hs (mkS l v) st (.call 4 args) d K F H:=by
 refine aTG (x:=aS v a) (y:=aS v (aC l n a).2) (r:=.int .i64 ((aC l n a).1:Nat)) (R:=fun H0 r H'=>∀ a,H0 o=some (aS v a)→SV l v o n a r H') rfl ho (Lb.next l v T o n a hn ha) ?_ ?_ hargs hle hk
 ·intro b hb
  rw[gS] at hb
  injection hb with hb
  injection hb with _ hb
  injection hb with hb _
  injection hb with _ hb
  injection hb with hb _
  injection hb with _ hb
  have:a=b:=by omega
  subst this
  exact⟨rfl,rfl⟩
 ·intro r' H' hr
  exact hr a (by rw[gS])
theorem AW (Lb:pG C) {s:List UInt8} {n:Nat} {st:Bool} {args:List aM} {d:Option Nat} {K:PF→PH→Prop} (hs:s.length≤100) (hn:n<100) (hargs:aM.evs F args=some [.str s,.int .i64 n]) (hle:Hs.le H) (hk:K (F.put d (.str (s++bO n))) H) :
  dOp C Hs (mkS l v) st (.call 29 args) d K F H :=
 cU (v:=.str (s++bO n)) rfl (Lb.name s n hs hn) hargs hle hk
theorem aYO (Lb:pF C) {n:Int} {st:Bool} {args:List aM} {d:Option Nat} {K:PF→PH→Prop} (hn:dT n) (hargs:aM.evs F args=some [.int .i64 n]) (hle:Hs.le H) (hk:K (F.put d (.agg (mkT n 1).cells)) H) :
  dOp C Hs (mkS l v) st (.call 47 args) d K F H :=
 cU (v:=.agg (mkT n 1).cells) rfl (Lb.int n hn) hargs hle hk
end
end Go.PM
namespace Go.PM
open Go Go.Na
theorem bB.sL {H:PH} {s:Nat} {v:PV} {rows:List (List PV)} (h:bB H s v rows):PV.sL v=some (.int .i64 (rows.length:Nat)):=by
 rcases h with ⟨rfl,rfl⟩ | ⟨q,rs,rfl,_⟩<;>rfl
abbrev gR (l:List cK):List (List PV):=l.map cK.cells
abbrev jT (l:List cO):List (List PV):=l.map cO.cells
abbrev flB (ext wl wm wd wr wp wv:PV):bV:=.rows 7 [[ext,wl,wm,wd,wr,wp,wv]]
structure GE where
 o:Nat
 fo:Nat
 qm:Nat
 ext:PV
 wl:PV
 wp:PV
 wv:PV
abbrev GE.boxes (G:GE) (v:PV) (mc:Nat) (wd wr:PV) (a:Nat):List BX:=[(G.o,aS v a),(G.fo,flB G.ext G.wl (.osl G.qm 4 0 mc) wd wr G.wp G.wv)]
abbrev jM (s:GS) (wd wr:PV):List LI:=[(wd,7,gR s.doms),(wr,3,jT s.drvs)]
def dY (G:GE) (dom drives level n i:Nat):PF:=(((((((PF.nil.set 0 (.ptr G.o 2 0 0)).set 1 (.ptr G.fo 7 0 0)).set 2 (.int .i64 dom)).set 3 (.int .i64 drives)).set 8 (.int .i64 level)).set 9 (.int .i64 n)).set 10 (.int .i64 i))
theorem bB.one {H:PH} {s:Nat} {v:PV} {rows:List (List PV)} (h:bB H s v rows) (hn:0<rows.length):∃ q,v=.osl q s 0 rows.length:=by
 rcases h with ⟨rfl,_⟩ | ⟨q,rs,rfl,_⟩
 ·simp at hn
 ·exact⟨q,rfl⟩
theorem aqK {C:Ctx} (Lb:kJ C) {l:List Nat} {v:PV} (T:Tp l v) (G:GE) (mc drives dom n:Nat) (hmc:0<mc) (hmc2:mc≤1000) (hdr:drives≤60) (hn:n≤10) (s:GS) (hs:GOk l drives s) (wd wr:PV) (K:cC) (F:PF) (H:PH)
  (hF:(dY G dom drives 5 n 0).le F) (hH:aR H (G.boxes v mc wd wr s.a) (jM s wd wr))
  (hK:∀ wd' wr' F' H',aR H' (G.boxes v mc wd' wr' (gL l mc drives dom s n).a) (jM (gL l mc drives dom s n) wd' wr')→K (.exit 0) F' H') :
  aD.wp C (.loop rZ) K F H:=by
 refine wp_loop (α:=Nat × PV × PV × PH) (fun t=>dY G dom drives 5 n t.1) (fun t=>t.2.2.2) (fun t=>t.1≤n∧aR t.2.2.2 (G.boxes v mc t.2.1 t.2.2.1 (gL l mc drives dom s t.1).a) (jM (gL l mc drives dom s t.1) t.2.1 t.2.2.1)) (fun t=>n-t.1) (0,wd,wr,H) ⟨bgE _,hH⟩ hF PH.le_refl ?_
 rintro⟨i,wd,wr,H0⟩ ⟨hi,hH⟩
 simp only at hi hH ⊢
 obtain⟨gs,-⟩:=PY (mc:=mc) (dom:=dom) hs i
 have hstep:gL l mc drives dom s (i+1)=(if (gL l mc drives dom s i).drvs.length<drives then { gL l mc drives dom s i with drvs:=(gL l mc drives dom s i).drvs++[⟨[100]++bO (gL l mc drives dom s i).drvs.length,((aC l mc (gL l mc drives dom s i).a).1:Nat),(dom:Nat)⟩],a:=(aC l mc (gL l mc drives dom s i).a).2 } else gL l mc drives dom s i):=rfl
 simp -implicitDefEqProofs only[go_sem,γ,reduceCtorEq,rZ,QQ,dY]
 by_cases hlt:i<n
 ·have hlt':(i:Int)<(n:Nat):=by omega
  generalize hg:gL l mc drives dom s i=g at *
  have b1:=hH.at 1 rfl
  have lr:=(hH.own 1 rfl).sL
  rw[bfT] at lr
  have ei:=aN (show i<9223372036854775807 by omega)
  simp -implicitDefEqProofs only[go_sem,δ,γ,θ,reduceCtorEq,hlt',QR,show (((5:Nat):Int)==5)=true from rfl,aqQ,b1,lr]
  by_cases hc:g.drvs.length<drives
  ·have hc':(g.drvs.length:Int)<(drives:Nat):=by omega
   rw[if_pos hc] at hstep
   simp -implicitDefEqProofs only[go_sem,hc']
   have hHs:(PH.nil.set G.fo (flB G.ext G.wl (.osl G.qm 4 0 mc) wd wr G.wp G.wv)).le H0:=PH.aA PH.nil_le b1
   refine cD (PH.nil.set G.fo (flB G.ext G.wl (.osl G.qm 4 0 mc) wd wr G.wp G.wv)) (mkS l v) hHs ?_
   simp -implicitDefEqProofs only[go_sem,δ,γ,θ,reduceCtorEq,aqR,b1,lr]
   refine AW Lb.topG (s:=[100]) (n:=g.drvs.length) (by decide) (by have:=gs.drvs; omega) rfl hHs ?_
   simp -implicitDefEqProofs only[go_sem,δ,γ,θ,reduceCtorEq]
   have ho:=hH.at 0 rfl
   have h1:=hH.set 0 rfl (aS v (aC l mc g.a).2)
   have b1':=h1.at 1 rfl
   refine oC Lb.topF T (o:=G.o) (n:=mc) (a:=g.a) (by omega) gs.a rfl ho (PH.aA PH.nil_le b1') ?_
   have h132:(1:Nat)*3≤16777216:=by decide
   simp -implicitDefEqProofs only[go_sem,υ,δ,γ,η,θ,ζ,reduceCtorEq,h132,bgD,bgL,or_false,forall_eq,forall_eq_or_imp]
   refine h1.append 1 (src:=[(⟨[100]++bO g.drvs.length,((aC l mc g.a).1:Nat),(dom:Nat)⟩:cO).cells]) rfl rfl (by unfold roomFor; rw[bfT]; have:=gs.drvs; simp only[bfZ,maxLen]; omega) fun wr' H2 h2 hw=>?_
   obtain⟨q,rfl⟩:=hw (by simp)
   have b2:=h2.at 1 rfl
   refine⟨PH.aA PH.nil_le b2,?_⟩
   refine cD .nil dS PH.nil_le ?_
   simp -implicitDefEqProofs only[go_sem,δ,γ,θ,reduceCtorEq,aqS,b2,bgD,bgL,or_false,forall_eq]
   have h3:=h2.set 1 rfl (flB G.ext G.wl (.osl G.qm 4 0 mc) wd (.osl q 3 0 (jT g.drvs++[(⟨[100]++bO g.drvs.length,((aC l mc g.a).1:Nat),(dom:Nat)⟩:cO).cells]).length) G.wp G.wv)
   refine⟨PH.nil_le,?_⟩
   simp -implicitDefEqProofs only[go_sem,γ,reduceCtorEq,sA,ei]
   refine aJ (i+1,wd,.osl q 3 0 (jT g.drvs++[(⟨[100]++bO g.drvs.length,((aC l mc g.a).1:Nat),(dom:Nat)⟩:cO).cells]).length,_) ⟨hlt,?_⟩ (by simp only; omega) ?_ PH.le_refl
   ·rw[hstep]
    have e:jT (g.drvs++[(⟨[100]++bO g.drvs.length,((aC l mc g.a).1:Nat),(dom:Nat)⟩:cO)])=jT g.drvs++[(⟨[100]++bO g.drvs.length,((aC l mc g.a).1:Nat),(dom:Nat)⟩:cO).cells]:=by simp[jT]
    unfold jM
    simp only
    rw[e]
    exact h3
   ·(repeat' (first|exact PF.nil_le|refine PF.aA ?_ ?_))<;>first|(simp -implicitDefEqProofs only[go_sem,γ,reduceCtorEq]<;>rfl)|rfl
  ·have hc':¬ (g.drvs.length:Int)<(drives:Nat):=by omega
   rw[if_neg hc] at hstep
   simp -implicitDefEqProofs only[go_sem,γ,reduceCtorEq,hc',sA,ei]
   refine aJ (i+1,wd,wr,H0) ⟨hlt,by rw[hstep]; exact hH⟩ (by simp only; omega) ?_ PH.le_refl
   (repeat' (first|exact PF.nil_le|refine PF.aA ?_ ?_))<;>first|(simp -implicitDefEqProofs only[go_sem,γ,reduceCtorEq]<;>rfl)|rfl
 ·have hlt':¬ (i:Int)<(n:Nat):=by omega
  have:i=n:=by omega
  subst this
  simp -implicitDefEqProofs only[go_sem,hlt']
  exact hK wd wr _ _ hH
end Go.PM
namespace Go.PM
open Go Go.Na
def aII (G:GE) (v:PV) (mc:Nat) (s':GS) (r:PV) (B':List BX) (L':List LI):Prop:=r=.tup []∧∃ wd wr,B'=G.boxes v mc wd wr s'.a∧L'=jM s' wd wr
def ST (C:Ctx) (l:List Nat) (v:PV) (mc drives k:Nat):Prop :=
 ∀ (G:GE) (wd wr:PV) (s:GS) (dom:Nat) (x:cK),GOk l drives s→s.doms[dom]?=some x→x.level=4-(k:Int)→∀ H0,aR H0 (G.boxes v mc wd wr s.a) (jM s wd wr) →
  aI C 7 [.ptr G.o 2 0 0,.ptr G.fo 7 0 0,.int .i64 dom,.int .i64 drives] H0 (fun r H'=>∃ B' L',aII G v mc (dV l mc drives k dom s) r B' L'∧aR H' B' L')
theorem aOJ {lv:Nat} (h:lv≤4):([45,115,114,107,109]:List UInt8)[lv]?=some (jB lv):=by
 match lv,h with
 | 0,_=>rfl
 | 1,_=>rfl
 | 2,_=>rfl
 | 3,_=>rfl
 | 4,_=>rfl
theorem NF {C:Ctx} {l:List Nat} {v:PV} (G:GE) (mc drives dom lv n i k p:Nat) (hlv:lv=4-k) (hk:k<4) (hrec:ST C l v mc drives k) (g:GS) (x:cK) (a:Nat) (hg:GOk l drives { g with doms:=g.doms++[x],a:=a }) (hx:x.level=(lv:Nat)) (wd wr:PV) (hdr:drives≤60) (K:cC) (F:PF) (H:PH)
  (hF:(dY G dom drives lv n i).le F) (f11:F 11=some (.ptr p 7 0 0)) (hH:aR H (G.boxes v mc wd wr a++[(p,.rows 7 [x.cells])]) (jM g wd wr))
  (hK:∀ wd' wr' F' H',(dY G dom drives lv n i).le F'→aR H' (G.boxes v mc wd' wr' (dV l mc drives k g.doms.length { g with doms:=g.doms++[x],a:=a }).a) (jM (dV l mc drives k g.doms.length { g with doms:=g.doms++[x],a:=a }) wd' wr')→K .normal F' H') :
  aD.wp C (.draw HV) (jL C (aD.wp C (.region HW)) K) F H:=by
 have f0:F 0=some (.ptr G.o 2 0 0):=hF 0 _ (by unfold dY; simp -implicitDefEqProofs only[go_sem,reduceCtorEq])
 have f1:F 1=some (.ptr G.fo 7 0 0):=hF 1 _ (by unfold dY; simp -implicitDefEqProofs only[go_sem,γ,reduceCtorEq])
 have f2:F 2=some (.int .i64 dom):=hF 2 _ (by unfold dY; simp -implicitDefEqProofs only[go_sem,γ,reduceCtorEq])
 have f3:F 3=some (.int .i64 drives):=hF 3 _ (by unfold dY; simp -implicitDefEqProofs only[go_sem,γ,reduceCtorEq])
 have f8:F 8=some (.int .i64 lv):=hF 8 _ (by unfold dY; simp -implicitDefEqProofs only[go_sem,γ,reduceCtorEq])
 have f9:F 9=some (.int .i64 n):=hF 9 _ (by unfold dY; simp -implicitDefEqProofs only[go_sem,γ,reduceCtorEq])
 have f10:F 10=some (.int .i64 i):=hF 10 _ (by unfold dY; simp -implicitDefEqProofs only[go_sem,γ,reduceCtorEq])
 have hdl:=hg.doms
 simp only[bfW,bfZ] at hdl
 have b1:=hH.at 1 rfl
 have b2:=hH.at 2 rfl
 have h17:(1:Nat)*7≤16777216:=by decide
 refine cD .nil dS PH.nil_le ?_
 simp -implicitDefEqProofs only[go_sem,υ,δ,γ,η,θ,ζ,reduceCtorEq,HV,f1,f11,b1,b2,h17,bgD,bgL,or_false,forall_eq,forall_eq_or_imp]
 refine hH.append 0 (src:=[x.cells]) rfl rfl (by unfold roomFor; rw[bfT]; simp only[bfZ,maxLen]; omega) fun wd' H2 h2 hw=>?_
 obtain⟨q,rfl⟩:=hw (by simp)
 have hl:(gR g.doms++[x.cells]).length=g.doms.length+1:=by simp
 rw[hl] at h2 ⊢
 have c1:=h2.at 1 rfl
 refine⟨PH.nil_le,?_⟩
 simp -implicitDefEqProofs only[go_sem,δ,θ,c1,bgD,bgL,or_false,forall_eq]
 have h3:=h2.set 1 rfl (flB G.ext G.wl (.osl G.qm 4 0 mc) (.osl q 7 0 (g.doms.length+1)) wr G.wp G.wv)
 have c2:=h3.at 1 rfl
 refine⟨PH.nil_le,?_⟩
 have e:gR (g.doms++[x])=gR g.doms++[x.cells]:=by simp[gR]
 have ew:IntKind.i64.wrap (((g.doms.length+1:Nat):Int)-1)=((g.doms.length:Nat):Int):=by rw[wrap_i64 (by omega) (by omega)]; omega
 simp -implicitDefEqProofs only[go_sem,δ,γ,θ,reduceCtorEq,HW,f0,f1,f3,ew]
 have h4:aR (H2.set G.fo (flB G.ext G.wl (.osl G.qm 4 0 mc) (.osl q 7 0 (g.doms.length+1)) wr G.wp G.wv)) (G.boxes v mc (.osl q 7 0 (g.doms.length+1)) wr a++[(p,.rows 7 [x.cells])]) (jM { g with doms:=g.doms++[x],a:=a } (.osl q 7 0 (g.doms.length+1)) wr++[]):=by
  unfold jM
  simp only
  rw[e]
  exact h3
 refine PC h4 (fun H0 hH0=>hrec G _ wr { g with doms:=g.doms++[x],a:=a } g.doms.length x hg (by simp) (by rw[hx]; omega) H0 hH0) rfl ?_
 rintro r B' L' H' ⟨rfl,wd2,wr2,rfl,rfl⟩ hH'
 refine hK wd2 wr2 _ _ ?_ (hH'.sub (List.sublist_append_left ..) (by rw[bhN]; exact bhU.refl _))
 unfold dY
 repeat' first|exact PF.nil_le|refine PF.aA ?_ ?_|rfl|assumption
theorem FN {C:Ctx} (Lb:kJ C) {l:List Nat} {v:PV} (T:Tp l v) (G:GE) (mc drives dom n k:Nat) (hk:k<4) (hdr:drives≤60) (hn:n≤10) (hrec:ST C l v mc drives k) (s:GS) (hs:GOk l drives s) (hd0:0<s.doms.length) (wd wr:PV) (K:cC) (F:PF) (H:PH)
  (hF:(dY G dom drives (4-k) n 0).le F) (hH:aR H (G.boxes v mc wd wr s.a) (jM s wd wr))
  (hK:∀ e wd' wr' F' H',(e=.exit 0∨e=.ret)→aR H' (G.boxes v mc wd' wr' (fA l (4-k) drives dom (dV l mc drives k) s n).a) (jM (fA l (4-k) drives dom (dV l mc drives k) s n) wd' wr')→K e F' H') :
  aD.wp C (.loop rZ) K F H:=by
 obtain⟨lv,hlv⟩:∃ lv,lv=4-k:=⟨_,rfl⟩
 rw[← hlv] at hF hK
 refine wp_loop (α:=Nat × PV × PV × PH) (fun t=>dY G dom drives lv n t.1) (fun t=>t.2.2.2) (fun t=>t.1≤n∧aR t.2.2.2 (G.boxes v mc t.2.1 t.2.2.1 (fA l lv drives dom (dV l mc drives k) s t.1).a) (jM (fA l lv drives dom (dV l mc drives k) s t.1) t.2.1 t.2.2.1)) (fun t=>n-t.1) (0,wd,wr,H) ⟨bgE _,hH⟩ hF PH.le_refl ?_
 rintro⟨i,wd,wr,H0⟩ ⟨hi,hH⟩
 simp only at hi hH ⊢
 obtain⟨gs,u,gu⟩:=PZ (level:=lv) (dom:=dom) (fun d t ht=>BO (mc:=mc) k d ht) hs i
 have hfull:=fun h=>aJQ (l:=l) (level:=lv) (drives:=drives) (dom:=dom) (rec:=dV l mc drives k) (s:=s) (i:=i) h n hi
 have hstep:fA l lv drives dom (dV l mc drives k) s (i+1)=(if mU drives (fA l lv drives dom (dV l mc drives k) s i) then fA l lv drives dom (dV l mc drives k) s i else dV l mc drives k ((kM l lv dom (fA l lv drives dom (dV l mc drives k) s i)).doms.length-1) (kM l lv dom (fA l lv drives dom (dV l mc drives k) s i))):=rfl
 simp -implicitDefEqProofs only[go_sem,γ,reduceCtorEq,rZ,QQ,dY]
 by_cases hlt:i<n
 ·have hlt':(i:Int)<(n:Nat):=by omega
  generalize hg:fA l lv drives dom (dV l mc drives k) s i=g at *
  have gd0:0<g.doms.length:=by rw[gu,bfW]; omega
  have b1:=hH.at 1 rfl
  have lr:=(hH.own 1 rfl).sL
  have ld:=(hH.own 0 rfl).sL
  rw[bfT] at lr ld
  have ei:=aN (show i<9223372036854775807 by omega)
  simp -implicitDefEqProofs only[go_sem,δ,γ,θ,reduceCtorEq,hlt',QR,bD (show ((lv:Nat):Int)≠5 by omega),aeF,b1,lr]
  by_cases c1:drives≤g.drvs.length
  ·have hf:mU drives g=true:=by unfold mU; simp[c1]
   simp -implicitDefEqProofs only[go_sem,γ,reduceCtorEq,show (g.drvs.length:Int)≥(drives:Nat) by omega]
   exact hK _ wd wr _ _ (.inr rfl) (by rw[hfull hf]; exact hH)
  simp -implicitDefEqProofs only[go_sem,δ,γ,θ,reduceCtorEq,show ¬ (g.drvs.length:Int)≥(drives:Nat) by omega,b1,ld]
  by_cases c2:35≤g.doms.length
  ·have hf:mU drives g=true:=by unfold mU; simp[c2]
   simp -implicitDefEqProofs only[go_sem,show (g.doms.length:Int)≥35 by omega]
   exact hK _ wd wr _ _ (.inr rfl) (by rw[hfull hf]; exact hH)
  have hf:mU drives g=false:=by unfold mU; simp[c1,c2]
  rw[if_neg (by rw[hf]; decide)] at hstep
  simp -implicitDefEqProofs only[go_sem,show ¬ (g.doms.length:Int)≥35 by omega]
  have ls:=aOJ (show lv≤4 by omega)
  refine cD .nil (mkS l v) PH.nil_le ?_
  have hbr:mE [[PV.int IntKind.u8 (((jB lv).toNat:Nat):Int)]]=some [jB lv]:=by
   simp[mE]
  obtain⟨gg,x0,gx0,-⟩:=aBS (level:=lv) (dom:=dom) gs hf
  have hdl:(kM l lv dom g).doms.length-1=g.doms.length:=by rw[gx0]; simp
  rw[hdl] at hstep
  have h1:=hH.set 0 rfl (aS v (aC l 16 g.a).2)
  have a1:=bC l 16 gs.a
  have n1:=bM l (show 0<16 by decide) g.a
  have e1:IntKind.i64.wrap (1+((aC l 16 g.a).1:Int))=((1+(aC l 16 g.a).1:Nat):Int):=by rw[wrap_i64 (by omega) (by omega)]; omega
  simp -implicitDefEqProofs only[go_sem,υ,δ,γ,η,θ,ζ,reduceCtorEq,aeG,ls,hbr,b1,ld]
  refine AW Lb.topG (s:=[jB lv]) (n:=g.doms.length) (by simp) (by have:=gs.doms; omega) rfl PH.nil_le ?_
  simp -implicitDefEqProofs only[go_sem,γ,reduceCtorEq]
  refine oC Lb.topF T (o:=G.o) (n:=16) (a:=g.a) (by omega) gs.a rfl (hH.at 0 rfl) PH.nil_le ?_
  simp -implicitDefEqProofs only[go_sem,γ,reduceCtorEq,e1]
  refine aYO Lb.topF (n:=0) (by unfold dT; omega) rfl PH.nil_le ?_
  simp -implicitDefEqProofs only[go_sem,δ,γ,θ,reduceCtorEq,bgD,bgL,or_false,forall_eq,forall_eq_or_imp]
  refine aP fun p hp=>?_
  have h2:=h1.new hp (.rows 7 [(⟨[jB lv]++bO g.doms.length,(lv:Nat),(dom:Nat),(1+(aC l 16 g.a).1:Nat),gX⟩:cK).cells])
  simp -implicitDefEqProofs only[go_sem,δ,γ,reduceCtorEq,bgD,bgL,or_false,forall_eq,forall_eq_or_imp]
  refine⟨PH.nil_le,?_⟩
  simp -implicitDefEqProofs only[go_sem,reduceCtorEq,aeH]
  refine cB Lb.topF T (o:=G.o) (n:=3) (a:=(aC l 16 g.a).2) (by decide) a1 rfl (h2.at 0 rfl) ?_
  have h3:=h2.set 0 rfl (aS v (aC l 3 (aC l 16 g.a).2).2)
  have a2:=bC l 3 a1
  by_cases c3:(aC l 3 (aC l 16 g.a).2).1=0
  ·have hd:kM l lv dom g={ g with doms:=g.doms++[⟨[jB lv]++bO g.doms.length,(lv:Nat),(dom:Nat),(1+(aC l 16 g.a).1:Nat),mkT 1 ((2+(aC l 6 (aC l 3 (aC l 16 g.a).2).2).1:Nat):Int)⟩],a:=(aC l 6 (aC l 3 (aC l 16 g.a).2).2).2 }:=by
    unfold kM; simp only[c3,if_true]
   rw[hd] at hstep gg
   have n2:=bM l (show 0<6 by decide) (aC l 3 (aC l 16 g.a).2).2
   have e2:IntKind.i64.wrap (2+((aC l 6 (aC l 3 (aC l 16 g.a).2).2).1:Int))=((2+(aC l 6 (aC l 3 (aC l 16 g.a).2).2).1:Nat):Int):=by rw[wrap_i64 (by omega) (by omega)]; omega
   simp -implicitDefEqProofs only[go_sem,γ,reduceCtorEq,bP (show (((aC l 3 (aC l 16 g.a).2).1:Nat):Int)=0 by omega),aeI]
   refine cB Lb.topF T (o:=G.o) (n:=6) (a:=(aC l 3 (aC l 16 g.a).2).2) (by decide) a2 rfl (h3.at 0 rfl) ?_
   have h4:=h3.set 0 rfl (aS v (aC l 6 (aC l 3 (aC l 16 g.a).2).2).2)
   rw[PH.set_set] at h4
   simp -implicitDefEqProofs only[go_sem,γ,reduceCtorEq,e2]
   refine aB (Lb.fmk 1 ((2+(aC l 6 (aC l 3 (aC l 16 g.a).2).2).1:Nat):Int) (by unfold dT; omega) (by unfold dT; omega)) rfl ?_
   unfold sG
   rw[if_neg (by omega)]
   simp -implicitDefEqProofs only[go_sem,δ,γ,reduceCtorEq,show ¬ p=G.o from h4.ne 2 0 rfl rfl (by decide)]
   have h5:=h4.set 2 rfl (.rows 7 [(⟨[jB lv]++bO g.doms.length,(lv:Nat),(dom:Nat),(1+(aC l 16 g.a).1:Nat),mkT 1 ((2+(aC l 6 (aC l 3 (aC l 16 g.a).2).2).1:Nat):Int)⟩:cK).cells])
   try simp only[abQ]
   refine NF G mc drives dom lv n i k p hlv hk hrec g _ _ gg rfl wd wr hdr _ _ _ (by unfold dY; (repeat' (first|exact PF.nil_le|refine PF.aA ?_ ?_))<;>first|(simp -implicitDefEqProofs only[go_sem,γ,reduceCtorEq]<;>rfl)|rfl) rfl h5 ?_
   intro wd' wr' F' H' hF' hH'
   rw[← hstep] at hH'
   have f10:F' 10=some (.int .i64 i):=hF' 10 _ (by unfold dY; simp -implicitDefEqProofs only[go_sem,γ,reduceCtorEq])
   have g0:F' 0=some (.ptr G.o 2 0 0):=hF' 0 _ (by unfold dY; simp -implicitDefEqProofs only[go_sem,reduceCtorEq])
   have g1:F' 1=some (.ptr G.fo 7 0 0):=hF' 1 _ (by unfold dY; simp -implicitDefEqProofs only[go_sem,γ,reduceCtorEq])
   have g2:F' 2=some (.int .i64 dom):=hF' 2 _ (by unfold dY; simp -implicitDefEqProofs only[go_sem,γ,reduceCtorEq])
   have g3:F' 3=some (.int .i64 drives):=hF' 3 _ (by unfold dY; simp -implicitDefEqProofs only[go_sem,γ,reduceCtorEq])
   have g8:F' 8=some (.int .i64 lv):=hF' 8 _ (by unfold dY; simp -implicitDefEqProofs only[go_sem,γ,reduceCtorEq])
   have g9:F' 9=some (.int .i64 n):=hF' 9 _ (by unfold dY; simp -implicitDefEqProofs only[go_sem,γ,reduceCtorEq])
   simp -implicitDefEqProofs only[go_sem,γ,sA,f10,ei]
   refine aJ (i+1,wd',wr',H') ⟨hlt,hH'⟩ (by simp only; omega) ?_ PH.le_refl
   repeat' first|exact PF.nil_le|refine PF.aA ?_ ?_|rfl|assumption
  ·have hd:kM l lv dom g={ g with doms:=g.doms++[⟨[jB lv]++bO g.doms.length,(lv:Nat),(dom:Nat),(1+(aC l 16 g.a).1:Nat),gX⟩],a:=(aC l 3 (aC l 16 g.a).2).2 }:=by
    unfold kM; simp only[c3,if_false]
   rw[hd] at hstep gg
   simp -implicitDefEqProofs only[go_sem,γ,reduceCtorEq,bD (show ¬ (((aC l 3 (aC l 16 g.a).2).1:Nat):Int)=0 by omega)]
   try simp only[abQ]
   refine NF G mc drives dom lv n i k p hlv hk hrec g _ _ gg rfl wd wr hdr _ _ _ (by unfold dY; (repeat' (first|exact PF.nil_le|refine PF.aA ?_ ?_))<;>first|(simp -implicitDefEqProofs only[go_sem,γ,reduceCtorEq]<;>rfl)|rfl) rfl h3 ?_
   intro wd' wr' F' H' hF' hH'
   rw[← hstep] at hH'
   have f10:F' 10=some (.int .i64 i):=hF' 10 _ (by unfold dY; simp -implicitDefEqProofs only[go_sem,γ,reduceCtorEq])
   have g0:F' 0=some (.ptr G.o 2 0 0):=hF' 0 _ (by unfold dY; simp -implicitDefEqProofs only[go_sem,reduceCtorEq])
   have g1:F' 1=some (.ptr G.fo 7 0 0):=hF' 1 _ (by unfold dY; simp -implicitDefEqProofs only[go_sem,γ,reduceCtorEq])
   have g2:F' 2=some (.int .i64 dom):=hF' 2 _ (by unfold dY; simp -implicitDefEqProofs only[go_sem,γ,reduceCtorEq])
   have g3:F' 3=some (.int .i64 drives):=hF' 3 _ (by unfold dY; simp -implicitDefEqProofs only[go_sem,γ,reduceCtorEq])
   have g8:F' 8=some (.int .i64 lv):=hF' 8 _ (by unfold dY; simp -implicitDefEqProofs only[go_sem,γ,reduceCtorEq])
   have g9:F' 9=some (.int .i64 n):=hF' 9 _ (by unfold dY; simp -implicitDefEqProofs only[go_sem,γ,reduceCtorEq])
   simp -implicitDefEqProofs only[go_sem,γ,sA,f10,ei]
   refine aJ (i+1,wd',wr',H') ⟨hlt,hH'⟩ (by simp only; omega) ?_ PH.le_refl
   repeat' first|exact PF.nil_le|refine PF.aA ?_ ?_|rfl|assumption
 ·have hlt':¬ (i:Int)<(n:Nat):=by omega
  have:i=n:=by omega
  subst this
  simp -implicitDefEqProofs only[go_sem,hlt']
  exact hK _ wd wr _ _ (.inl rfl) hH
end Go.PM
namespace Go.PM
open Go Go.Na
theorem aqL {C:Ctx} (Lb:kJ C) {l:List Nat} {v:PV} (T:Tp l v) (mc drives k:Nat) (hmc:0<mc) (hmc2:mc≤1000) (hdr:drives≤60) (hk:k≤4) (hrec:∀ k',k=k'+1→ST C l v mc drives k') (G:GE) (wd wr:PV) (s:GS) (dom:Nat) (x:cK)
  (hs:GOk l drives s) (hx:s.doms[dom]?=some x) (hl:x.level=4-(k:Int)) (H0:PH) (hH:aR H0 (G.boxes v mc wd wr s.a) (jM s wd wr)) :
  tC.wp C (aX MH.res (fun r H'=>∃ B' L',aII G v mc (dV l mc drives k dom s) r B' L'∧aR H' B' L')) (PF.args [.ptr G.o 2 0 0,.ptr G.fo 7 0 0,.int .i64 dom,.int .i64 drives]) H0:=by
 have hd0:dom<s.doms.length:=(bhF.1 hx).1
 have b1:=hH.at 1 rfl
 have fin:∀ (e:kE) (wd' wr':PV) (F':PF) (H':PH),(e=.exit 0∨e=.ret)→aR H' (G.boxes v mc wd' wr' (dV l mc drives k dom s).a) (jM (dV l mc drives k dom s) wd' wr') →
   eG 0 (aX MH.res (fun r H'=>∃ B' L',aII G v mc (dV l mc drives k dom s) r B' L'∧aR H' B' L')) e F' H':=by
  intro e wd' wr' F' H' he hH'
  rcases he with rfl | rfl
  ·rw[wX,if_pos rfl]
   exact aW (vs:=[]) (.inl rfl) H' rfl PH.le_refl ⟨_,_,⟨rfl,wd',wr',rfl,rfl⟩,hH'⟩
  ·exact aW (vs:=[]) (.inr rfl) H' rfl PH.le_refl ⟨_,_,⟨rfl,wd',wr',rfl,rfl⟩,hH'⟩
 obtain⟨q,rs,e1,e2,e3,e4⟩:∃ q rs,wd=.osl q 7 0 s.doms.length∧H0 q=some (.rows 7 rs)∧s.doms.length≤rs.length∧rs.take s.doms.length=gR s.doms:=by
  rcases hH.own 0 rfl with ⟨h1,_⟩ | ⟨q,rs,h1,h2,h3,h4⟩
  ·have:=congrArg List.length h1
   rw[bfT] at this
   simp at this; rw[this] at hd0; simp at hd0
  ·rw[bfT] at h1 h3 h4
   exact⟨q,rs,h1,h2,h3,h4⟩
 have hrd:rs[dom]?=some x.cells:=by
  have:(gR s.doms)[dom]?=some x.cells:=by simp[gR,hx]
  rw[← e4,List.getElem?_take_of_lt hd0] at this
  exact this
 subst e1
 have c1:(dom:Int)<(s.doms.length:Nat):=by omega
 have ew:IntKind.i64.wrap (x.level+1)=((5-k:Nat):Int):=by rw[hl,wrap_i64 (by omega) (by omega)]; omega
 have nlt:=bM l (show 0<2 by decide) s.a
 have en:IntKind.i64.wrap (1+((aC l 2 s.a).1:Int))=((1+(aC l 2 s.a).1:Nat):Int):=by rw[wrap_i64 (by omega) (by omega)]; omega
 have h1:=hH.set 0 rfl (aS v (aC l 2 s.a).2)
 have hs1:GOk l drives { s with a:=(aC l 2 s.a).2 }:=⟨hs.doms,hs.drvs,bC l 2 hs.a⟩
 have hqo:¬ q=G.o:=fun h=>hH.neL 0 0 rfl rfl rfl h.symm
 simp -implicitDefEqProofs only[go_sem,δ,γ,θ,reduceCtorEq,tC,aqM,b1,c1,e2,hrd,ew,aqN]
 refine cB Lb.topF T (o:=G.o) (n:=2) (a:=s.a) (by decide) hs.a (by simp -implicitDefEqProofs only[go_sem,γ]; rfl) (hH.at 0 rfl) ?_
 simp -implicitDefEqProofs only[go_sem,γ,en,aqO]
 cases k with
 | zero =>
  simp -implicitDefEqProofs only[go_sem,bD (show ¬ ((5-0:Nat):Int)=2 by omega),CY]
  refine aqK (C:=C) Lb T G mc drives dom (1+(aC l 2 s.a).1) hmc hmc2 hdr (by omega) { s with a:=(aC l 2 s.a).2 } hs1 _ wr _ _ _ ?_ h1 ?_
  ·unfold dY
   (repeat' (first|exact PF.nil_le|refine PF.aA ?_ ?_))<;>first|(simp -implicitDefEqProofs only[go_sem,γ,reduceCtorEq]<;>rfl)|rfl
  ·intro wd' wr' F' H' hH'
   exact fin _ wd' wr' F' H' (.inl rfl) hH'
 | succ k =>
  have hrc:=hrec k rfl
  by_cases c2:4-k=2
  ·have e5:dV l mc drives (k+1) dom s=fA l (4-k) drives dom (dV l mc drives k) { s with a:=(aC l 2 s.a).2 } 1:=by simp only[dV,if_pos c2]
   simp -implicitDefEqProofs only[go_sem,bP (show ((5-(k+1):Nat):Int)=2 by omega),aqP,CY]
   refine FN (C:=C) Lb T G mc drives dom 1 k (by omega) hdr (by decide) hrc { s with a:=(aC l 2 s.a).2 } hs1 (by simp only; omega) _ wr _ _ _ ?_ h1 ?_
   ·unfold dY
    (repeat' (first|exact PF.nil_le|refine PF.aA ?_ ?_))<;>first|(simp -implicitDefEqProofs only[go_sem,γ,reduceCtorEq,show 4-k=5-(k+1) by omega]<;>rfl)|rfl
   ·intro e wd' wr' F' H' he hH'
    rw[← e5] at hH'
    exact fin e wd' wr' F' H' he hH'
  ·have e5:dV l mc drives (k+1) dom s=fA l (4-k) drives dom (dV l mc drives k) { s with a:=(aC l 2 s.a).2 } (1+(aC l 2 s.a).1):=by simp only[dV,if_neg c2]
   simp -implicitDefEqProofs only[go_sem,bD (show ¬ ((5-(k+1):Nat):Int)=2 by omega),CY]
   refine FN (C:=C) Lb T G mc drives dom (1+(aC l 2 s.a).1) k (by omega) hdr (by omega) hrc { s with a:=(aC l 2 s.a).2 } hs1 (by simp only; omega) _ wr _ _ _ ?_ h1 ?_
   ·unfold dY
    (repeat' (first|exact PF.nil_le|refine PF.aA ?_ ?_))<;>first|(simp -implicitDefEqProofs only[go_sem,γ,reduceCtorEq,show 4-k=5-(k+1) by omega]<;>rfl)|rfl
   ·intro e wd' wr' F' H' he hH'
    rw[← e5] at hH'
    exact fin e wd' wr' F' H' he hH'
theorem aoC {C:Ctx} (Lb:kJ C) {l:List Nat} {v:PV} (T:Tp l v) (mc drives:Nat) (hmc:0<mc) (hmc2:mc≤1000) (hdr:drives≤60)
  (hE:∀ (args:List PV) (H:PH) (R:PV→PH→Prop),args.length=4→tC.wp C (aX MH.res R) (PF.args args) H→aI C 7 args H R):∀ k,k≤4→ST C l v mc drives k
 | 0,h=>fun G wd wr s dom x hs hx hl H0 hH=>hE _ _ _ rfl (aqL Lb T mc drives 0 hmc hmc2 hdr h (fun _ e=>by omega) G wd wr s dom x hs hx hl H0 hH)
 | k+1,h=>fun G wd wr s dom x hs hx hl H0 hH=>hE _ _ _ rfl (aqL Lb T mc drives (k+1) hmc hmc2 hdr h (fun k' e=>by
   have:k'=k:=by omega
   subst this
   exact aoC Lb T mc drives hmc hmc2 hdr hE k' (by omega)) G wd wr s dom x hs hx hl H0 hH)
end Go.PM
namespace Go.PM
open Go Go.Na
theorem a0F (l:List Nat) (dZ:Nat) {a:Nat} (h:a≤l.length):(nH l dZ a).2≤l.length:=(aaC l (1+(aC l dZ a).1) (bC l dZ h) (1+(aC l dZ a).1)).1
theorem CA (l:List Nat) {a:Nat} (h:a≤l.length):∀ k,(fJ l a k).2≤l.length∧(fJ l a k).1.length=k
 | 0=>⟨h,rfl⟩
 | k+1=>by
  obtain⟨h1,h2⟩:=CA l h k
  exact⟨a0F l 2 h1,by simp only[fJ,bfW,bfZ,h2]⟩
theorem tE (l:List Nat) (laws:Nat) {a:Nat} (h:a≤l.length):∀ k,(dJ l laws a k).2≤l.length∧(dJ l laws a k).1.length=k
 | 0=>⟨h,rfl⟩
 | k+1=>by
  obtain⟨h1,h2⟩:=tE l laws h k
  exact⟨bC l laws (bC l 8 (bC l 4 h1)),by simp only[dJ,bfW,bfZ,h2]⟩
structure FE where
 o:Nat
 o6:Nat
 o7:Nat
 drives:Nat
 volumes:Nat
abbrev flZ:bV:=flB (.int .i64 0) .nils .nils .nils .nils .nils .nils
abbrev FE.boxes (E:FE) (v ext w1 w2 w3 w4 w5 w6:PV) (a:Nat):List BX:=[(E.o,aS v a),(E.o7,flB ext w1 w2 w3 w4 w5 w6),(E.o6,flZ)]
def eQ (E:FE):PF:=(((((PF.nil.set 0 (.ptr E.o 2 0 0)).set 1 (.int .i64 E.drives)).set 2 (.int .i64 E.volumes)).set 6 (.ptr E.o6 7 0 0)).set 7 (.ptr E.o7 7 0 0))
abbrev fR (l:List cL):List (List PV):=l.map cL.cells
abbrev gN (l:List cS):List (List PV):=l.map cS.cells
theorem MG {E:FE} {F:PF} (h0:F 0=some (.ptr E.o 2 0 0)) (h1:F 1=some (.int .i64 E.drives)) (h2:F 2=some (.int .i64 E.volumes)) (h6:F 6=some (.ptr E.o6 7 0 0)) (h7:F 7=some (.ptr E.o7 7 0 0)):(eQ E).le F :=
 PF.aA (PF.aA (PF.aA (PF.aA (PF.aA PF.nil_le h0) h1) h2) h6) h7
theorem aUZ {C:Ctx} (Lb:kJ C) {l:List Nat} {v:PV} (T:Tp l v) (E:FE) (n a:Nat) (hn:n≤10) (ha:a≤l.length) (ext:PV) (K:cC) (F:PF) (H:PH)
  (hF:(((eQ E).set 8 (.int .i64 n)).set 9 (.int .i64 0)).le F) (hH:aR H (E.boxes v ext .nils .nils .nils .nils .nils .nils a) [])
  (hK:∀ w1 F' H',(eQ E).le F'→aR H' (E.boxes v ext w1 .nils .nils .nils .nils .nils (fJ l a n).2) [(w1,4,fR (fJ l a n).1)]→K (.exit 0) F' H') :
  aD.wp C (.loop HU) K F H:=by
 refine wp_loop (α:=Nat × PV × PH) (fun t=>((eQ E).set 8 (.int .i64 n)).set 9 (.int .i64 t.1)) (fun t=>t.2.2) (fun t=>t.1≤n∧aR t.2.2 (E.boxes v ext t.2.1 .nils .nils .nils .nils .nils (fJ l a t.1).2) [(t.2.1,4,fR (fJ l a t.1).1)]) (fun t=>n-t.1) (0,.nils,H) ⟨bgE _,hH.qS 4⟩ hF PH.le_refl ?_
 rintro⟨i,w1,H0⟩ ⟨hi,hH⟩
 simp only at hi hH ⊢
 obtain⟨k1,k2⟩:=CA l ha i
 have hstep:fJ l a (i+1)=((fJ l a i).1++[{ (nH l 2 (fJ l a i).2).1 with name:=[108,97,119]++bO i }],(nH l 2 (fJ l a i).2).2):=rfl
 simp -implicitDefEqProofs only[go_sem,γ,reduceCtorEq,HU,aeA,eQ]
 by_cases hlt:i<n
 ·have hlt':(i:Int)<(n:Nat):=by omega
  generalize hg:fJ l a i=g at *
  simp -implicitDefEqProofs only[go_sem,reduceCtorEq,hlt',aeB]
  refine fS (Lb.law l v T E.o 2 g.2 (by decide) (by decide) k1) (hH.at 0 rfl) rfl ?_
  have h1:=hH.set 0 rfl (aS v (nH l 2 g.2).2)
  generalize hz:nH l 2 g.2=z at *
  simp -implicitDefEqProofs only[go_sem,δ]
  refine aP fun p hp=>?_
  have h2:=h1.new hp (.rows 4 [z.1.cells])
  simp -implicitDefEqProofs only[go_sem,δ,γ,reduceCtorEq,aeC,bgD,bgL,or_false,forall_eq,forall_eq_or_imp]
  refine aB (Lb.name [108,97,119] i (by decide) (by omega)) rfl ?_
  have h3:=h2.set 3 rfl (.rows 4 [({ z.1 with name:=[108,97,119]++bO i }:cL).cells])
  rw[PH.set_set] at h3
  have b1:=h3.at 1 rfl
  have hne:¬ E.o7=p:=h3.ne 1 3 rfl rfl (by decide)
  have hne2:¬ E.o7=E.o:=h3.ne 1 0 rfl rfl (by decide)
  simp only[aV,if_neg hne,if_neg hne2] at b1
  have h14:(1:Nat)*4≤16777216:=by decide
  simp -implicitDefEqProofs only[go_sem,υ,δ,γ,η,θ,ζ,reduceCtorEq,aeD,hne,hne2,b1,h14,bgD,bgL,or_false,forall_eq,forall_eq_or_imp]
  refine h3.append 0 (src:=[({ z.1 with name:=[108,97,119]++bO i }:cL).cells]) rfl rfl (by unfold roomFor; rw[bfT]; simp only[bfZ,maxLen]; omega) fun w' H2 h4 hw=>?_
  obtain⟨q,rfl⟩:=hw (by simp)
  have b2:=h4.at 1 rfl
  simp -implicitDefEqProofs only[go_sem,δ,θ,b2,bgD,bgL,or_false,forall_eq]
  have h5:=h4.set 1 rfl (flB ext (.osl q 4 0 (fR g.1++[({ z.1 with name:=[108,97,119]++bO i }:cL).cells]).length) .nils .nils .nils .nils .nils)
  simp -implicitDefEqProofs only[go_sem,γ,reduceCtorEq,aeE,aN (show i<9223372036854775807 by omega)]
  refine aJ (i+1,.osl q 4 0 (fR g.1++[({ z.1 with name:=[108,97,119]++bO i }:cL).cells]).length,_) ⟨hlt,?_⟩ (by simp only; omega) ?_ PH.le_refl
  ·rw[hstep]
   have e:fR (g.1++[{ z.1 with name:=[108,97,119]++bO i }])=fR g.1++[({ z.1 with name:=[108,97,119]++bO i }:cL).cells]:=by simp[fR]
   simp only
   rw[e]
   exact h5.dropLast (B:=E.boxes v ext _ .nils .nils .nils .nils .nils z.2)
  ·(repeat' (first|exact PF.nil_le|refine PF.aA ?_ ?_))<;>first|(simp -implicitDefEqProofs only[go_sem,γ,reduceCtorEq]<;>rfl)|rfl
 ·have hlt':¬ (i:Int)<(n:Nat):=by omega
  have:i=n:=by omega
  subst this
  simp -implicitDefEqProofs only[go_sem,hlt']
  exact hK w1 _ _ (MG rfl rfl rfl rfl rfl) hH
theorem aKS {C:Ctx} (Lb:kJ C) {l:List Nat} {v:PV} (T:Tp l v) (E:FE) (n a nl:Nat) (hn:n≤10) (hnl:nl≤1000) (ha:a≤l.length) (ext w1:PV) (laws:List cL) (hlw:laws.length=nl) (K:cC) (F:PF) (H:PH)
  (hF:(((eQ E).set 11 (.int .i64 n)).set 12 (.int .i64 0)).le F) (hH:aR H (E.boxes v ext w1 .nils .nils .nils .nils .nils a) [(w1,4,fR laws)])
  (hK:∀ w2 F' H',(eQ E).le F'→F' 11=some (.int .i64 n)→aR H' (E.boxes v ext w1 w2 .nils .nils .nils .nils (dJ l nl a n).2) [(w1,4,fR laws),(w2,4,gN (dJ l nl a n).1)]→K (.exit 2) F' H') :
  aD.wp C (.loop CM) K F H:=by
 refine wp_loop (α:=Nat × PV × PH) (fun t=>((eQ E).set 11 (.int .i64 n)).set 12 (.int .i64 t.1)) (fun t=>t.2.2) (fun t=>t.1≤n∧aR t.2.2 (E.boxes v ext w1 t.2.1 .nils .nils .nils .nils (dJ l nl a t.1).2) [(w1,4,fR laws),(t.2.1,4,gN (dJ l nl a t.1).1)]) (fun t=>n-t.1) (0,.nils,H) ⟨bgE _,hH.qS 4⟩ hF PH.le_refl ?_
 rintro⟨i,w2,H0⟩ ⟨hi,hH⟩
 simp only at hi hH ⊢
 obtain⟨k1,k2⟩:=tE l nl ha i
 have hstep:dJ l nl a (i+1)=((dJ l nl a i).1++[⟨[109]++bO i,(1+(aC l 4 (dJ l nl a i).2).1:Nat),(1+(aC l 8 (aC l 4 (dJ l nl a i).2).2).1:Nat),((aC l nl (aC l 8 (aC l 4 (dJ l nl a i).2).2).2).1:Nat)⟩],(aC l nl (aC l 8 (aC l 4 (dJ l nl a i).2).2).2).2):=rfl
 simp -implicitDefEqProofs only[go_sem,γ,reduceCtorEq,CM,UY,eQ]
 by_cases hlt:i<n
 ·have hlt':(i:Int)<(n:Nat):=by omega
  generalize hg:dJ l nl a i=g at *
  have hx:=bM l (show 0<4 by decide) g.2
  have ax:=bC l 4 k1
  have hy:=bM l (show 0<8 by decide) (aC l 4 g.2).2
  have ay:=bC l 8 ax
  have az:=bC l nl ay
  have h1:=hH.set 0 rfl (aS v (aC l 4 g.2).2)
  have h2:=h1.set 0 rfl (aS v (aC l 8 (aC l 4 g.2).2).2)
  have h3:=h2.set 0 rfl (aS v (aC l nl (aC l 8 (aC l 4 g.2).2).2).2)
  generalize hx0:aC l 4 g.2=x at *
  generalize hy0:aC l 8 x.2=y at *
  generalize hz0:aC l nl y.2=z at *
  have b1:=hH.at 1 rfl
  have lw:=(hH.own 0 rfl).sL
  rw[bfT,hlw] at lw
  have hHs:(PH.nil.set E.o7 (flB ext w1 w2 .nils .nils .nils .nils)).le H0:=PH.aA PH.nil_le b1
  have ex:IntKind.i64.wrap (1+(x.1:Int))=((1+x.1:Nat):Int):=by rw[wrap_i64 (by omega) (by omega)]; omega
  have ey:IntKind.i64.wrap (1+(y.1:Int))=((1+y.1:Nat):Int):=by rw[wrap_i64 (by omega) (by omega)]; omega
  simp -implicitDefEqProofs only[go_sem,hlt']
  refine cD (PH.nil.set E.o7 (flB ext w1 w2 .nils .nils .nils .nils)) (mkS l v) hHs ?_
  simp -implicitDefEqProofs only[go_sem,δ,γ,θ,reduceCtorEq,UZ]
  refine AW Lb.topG (s:=[109]) (n:=i) (by decide) (by omega) rfl hHs ?_
  simp -implicitDefEqProofs only[go_sem,reduceCtorEq]
  refine oC Lb.topF T (o:=E.o) (n:=4) (a:=g.2) (by decide) k1 rfl (hH.at 0 rfl) ?_ ?_
  ·rw[hx0]; exact PH.aA PH.nil_le (h1.at 1 rfl)
  rw[hx0]
  simp -implicitDefEqProofs only[go_sem,γ,reduceCtorEq,ex]
  refine oC Lb.topF T (o:=E.o) (n:=8) (a:=x.2) (by decide) ax rfl (h1.at 0 rfl) ?_ ?_
  ·rw[hy0]; exact PH.aA PH.nil_le (h2.at 1 rfl)
  rw[hy0]
  simp -implicitDefEqProofs only[go_sem,δ,γ,θ,reduceCtorEq,ey,lw]
  rw[PH.set_set] at h2
  refine oC Lb.topF T (o:=E.o) (n:=nl) (a:=y.2) (by omega) ay rfl (h2.at 0 rfl) ?_ ?_
  ·rw[hz0]; exact PH.aA PH.nil_le ((h2.set 0 rfl (aS v z.2)).at 1 rfl)
  rw[hz0]
  have h4:=h2.set 0 rfl (aS v z.2)
  have h14:(1:Nat)*4≤16777216:=by decide
  simp -implicitDefEqProofs only[go_sem,υ,δ,γ,η,θ,ζ,reduceCtorEq,h14,bgD,bgL,or_false,forall_eq,forall_eq_or_imp]
  rw[PH.set_set] at h4
  refine h4.append 1 (src:=[(⟨[109]++bO i,(1+x.1:Nat),(1+y.1:Nat),(z.1:Nat)⟩:cS).cells]) rfl rfl (by unfold roomFor; rw[bfT]; simp only[bfZ,maxLen]; omega) fun w' H2 h5 hw=>?_
  obtain⟨q,rfl⟩:=hw (by simp)
  have b2:=h5.at 1 rfl
  refine⟨PH.aA PH.nil_le b2,?_⟩
  refine cD .nil dS PH.nil_le ?_
  simp -implicitDefEqProofs only[go_sem,δ,γ,θ,reduceCtorEq,VA,b2,bgD,bgL,or_false,forall_eq]
  have h6:=h5.set 1 rfl (flB ext w1 (.osl q 4 0 (gN g.1++[(⟨[109]++bO i,(1+x.1:Nat),(1+y.1:Nat),(z.1:Nat)⟩:cS).cells]).length) .nils .nils .nils .nils)
  refine⟨PH.nil_le,?_⟩
  simp -implicitDefEqProofs only[go_sem,γ,reduceCtorEq,VB,aN (show i<9223372036854775807 by omega)]
  refine aJ (i+1,.osl q 4 0 (gN g.1++[(⟨[109]++bO i,(1+x.1:Nat),(1+y.1:Nat),(z.1:Nat)⟩:cS).cells]).length,_) ⟨hlt,?_⟩ (by simp only; omega) ?_ PH.le_refl
  ·rw[hstep]
   have e:gN (g.1++[⟨[109]++bO i,(1+x.1:Nat),(1+y.1:Nat),(z.1:Nat)⟩])=gN g.1++[(⟨[109]++bO i,(1+x.1:Nat),(1+y.1:Nat),(z.1:Nat)⟩:cS).cells]:=by simp[gN]
   simp only
   rw[e]
   exact h6
  ·(repeat' (first|exact PF.nil_le|refine PF.aA ?_ ?_))<;>first|(simp -implicitDefEqProofs only[go_sem,γ,reduceCtorEq]<;>rfl)|rfl
 ·have hlt':¬ (i:Int)<(n:Nat):=by omega
  have:i=n:=by omega
  subst this
  simp -implicitDefEqProofs only[go_sem,hlt']
  exact hK w2 _ _ (MG rfl rfl rfl rfl rfl) rfl hH
end Go.PM
namespace Go.PM
open Go Go.Na
abbrev sN (x:cM) (w:PV):List PV:=[.str x.name,.int .i64 x.k,.int .i64 x.m,.int .i64 x.quorum,.int .i64 x.s0,.int .i64 x.s1,.int .i64 x.s2,.int .i64 x.s3,.int .i64 x.s4,w,frs x.repair,
 .bool x.target.neg,aF x.target.num,aF x.target.den,.bool x.horizon.neg,aF x.horizon.num,aF x.horizon.den]
def aaF (E:FE) (mc n i:Nat):PF:=(((eQ E).set 11 (.int .i64 mc)).set 13 (.int .i64 n)).set 14 (.int .i64 i)
structure PAt (E:FE) (mc n i:Nat) (F:PF):Prop where
 f0:F 0=some (.ptr E.o 2 0 0)
 f1:F 1=some (.int .i64 E.drives)
 f2:F 2=some (.int .i64 E.volumes)
 f6:F 6=some (.ptr E.o6 7 0 0)
 f7:F 7=some (.ptr E.o7 7 0 0)
 f11:F 11=some (.int .i64 mc)
 f13:F 13=some (.int .i64 n)
 f14:F 14=some (.int .i64 i)
def nJ (l:List Nat) (a:Nat):Nat→List Int × Nat
 | 0=>([],a)
 | j+1=>let s:=nJ l a j
  let t:=fK l s.2
  (s.1++[t.1],t.2)
theorem qG (l:List Nat) {a:Nat} (h:a≤l.length):(fK l a).2≤l.length:=by
 unfold fK
 simp only
 split
 ·exact bC l 3 (bC l 3 h)
 ·exact bC l 3 h
theorem abM (l:List Nat) {a:Nat} (h:a≤l.length):∀ j,(nJ l a j).2≤l.length∧(nJ l a j).1.length=j
 | 0=>⟨h,rfl⟩
 | j+1=>by
  obtain⟨h1,h2⟩:=abM l h j
  exact⟨qG l h1,by simp only[nJ,bfW,bfZ,h2]⟩
abbrev nI (pre post:List PV) (s:List Int):List PV:=pre++(s.map fun x=>PV.int .i64 x)++bfV (4-s.length) (.int .i64 0)++post
theorem a1P {pre post:List PV} {s:List Int} (hp:pre.length=5) (hs:s.length<4) (x:Int):(nI pre post s).set (5+s.length) (.int .i64 x)=nI pre post (s++[x]):=by
 obtain⟨k,hk⟩:∃ k,4-s.length=k+1:=⟨3-s.length,by omega⟩
 unfold nI
 rw[bfW,bfZ,show 4-(s.length+1)=k by omega,hk,List.replicate_succ,bhS,bhA,bhV]
 rw[List.set_append_left _ _ (by simp[hp]),biU _ _ (by simp[hp])]
 have:5+s.length-(pre++s.map fun x=>PV.int .i64 x).length=0:=by simp[hp]
 rw[this,List.set_cons_zero]
 simp
theorem aWL {pre post:List PV} {s:List Int} (hp:pre.length=5) (hs:s.length<4):nI pre post s=nI pre post (s++[0]):=by
 obtain⟨k,hk⟩:∃ k,4-s.length=k+1:=⟨3-s.length,by omega⟩
 unfold nI
 rw[bfW,bfZ,show 4-(s.length+1)=k by omega,hk,List.replicate_succ,bhS,bhA,bhV]
 simp
theorem aKT {C:Ctx} (Lb:kJ C) {l:List Nat} {v:PV} (T:Tp l v) (E:FE) (mc n i a p:Nat) (ha:a≤l.length) (B:List BX) (L:List LI) (pre post:List PV) (hpre:pre.length=5) (hpost:post.length=8) (K:cC) (F:PF) (H:PH)
  (hF:PAt E mc n i F) (f15:F 15=some (.ptr p 17 0 0)) (f16:F 16=some (.int .i64 1)) (hH:aR H ((E.o,aS v a)::B++[(p,.rows 17 [nI pre post []])]) L)
  (hK:∀ F' H',PAt E mc n i F'→F' 15=some (.ptr p 17 0 0)→aR H' ((E.o,aS v (nJ l a 4).2)::B++[(p,.rows 17 [nI pre post (nJ l a 4).1])]) L→K (.exit 6) F' H') :
  aD.wp C (.loop sW) K F H:=by
 refine wp_loop (α:=Nat × PH) (fun t=>((aaF E mc n i).set 15 (.ptr p 17 0 0)).set 16 (.int .i64 (t.1+1:Nat))) (fun t=>t.2) (fun t=>t.1≤4∧aR t.2 ((E.o,aS v (nJ l a t.1).2)::B++[(p,.rows 17 [nI pre post (nJ l a t.1).1])]) L) (fun t=>4-t.1) (0,H) ⟨bgE _,hH⟩ ?_ PH.le_refl ?_
 ·unfold aaF eQ
  (repeat' (first|exact PF.nil_le|refine PF.aA ?_ ?_))<;>first|(simp -implicitDefEqProofs only[go_sem,hF.f0,hF.f1,hF.f2,hF.f6,hF.f7,hF.f11,hF.f13,hF.f14,f15,f16]<;>rfl)|rfl
 rintro⟨j,H0⟩ ⟨hj,hH⟩
 simp only at hj hH ⊢
 obtain⟨k1,k2⟩:=abM l ha j
 have hstep:nJ l a (j+1)=((nJ l a j).1++[(fK l (nJ l a j).2).1],(fK l (nJ l a j).2).2):=rfl
 simp -implicitDefEqProofs only[go_sem,γ,reduceCtorEq,sW,VI,aaF,eQ]
 by_cases hlt:j<4
 ·generalize hg:nJ l a j=g at *
  have ei:=aN (show j+1<9223372036854775807 by omega)
  simp -implicitDefEqProofs only[go_sem,reduceCtorEq,show ((j+1:Nat):Int)<5 by omega,VJ]
  refine cB Lb.topF T (o:=E.o) (n:=3) (a:=g.2) (by decide) k1 (by simp -implicitDefEqProofs only[go_sem,γ,reduceCtorEq]; rfl) (hH.at 0 rfl) ?_
  have h1:aR _ ((E.o,aS v (aC l 3 g.2).2)::B++[(p,.rows 17 [nI pre post g.1])]) L:=hH.set 0 rfl (aS v (aC l 3 g.2).2)
  by_cases c:(aC l 3 g.2).1=0
  ·have hs:fK l g.2=(((1+(aC l 3 (aC l 3 g.2).2).1:Nat):Int),(aC l 3 (aC l 3 g.2).2).2):=by unfold fK; simp only[c,if_true]
   have n2:=bM l (show 0<3 by decide) (aC l 3 g.2).2
   have e2:IntKind.i64.wrap (1+((aC l 3 (aC l 3 g.2).2).1:Int))=((1+(aC l 3 (aC l 3 g.2).2).1:Nat):Int):=by rw[wrap_i64 (by omega) (by omega)]; omega
   simp -implicitDefEqProofs only[go_sem,γ,reduceCtorEq,bP (show (((aC l 3 g.2).1:Nat):Int)=0 by omega),VK]
   refine cB Lb.topF T (o:=E.o) (n:=3) (a:=(aC l 3 g.2).2) (by decide) (bC l 3 k1) (by simp -implicitDefEqProofs only[go_sem,γ,reduceCtorEq]; rfl) (h1.at 0 rfl) ?_
   have h2:aR _ ((E.o,aS v (aC l 3 (aC l 3 g.2).2).2)::B++[(p,.rows 17 [nI pre post g.1])]) L:=h1.set 0 rfl (aS v (aC l 3 (aC l 3 g.2).2).2)
   have bp:=h2.FZ
   rw[PH.set_set] at bp h2
   have hpo:¬ p=E.o:=fun h=>by
    have hnd:=h2.ndB
    simp[dQ,h] at hnd
   simp only[aV,if_neg hpo] at bp
   have hj5:((j+1:Nat):Int)<((5:Nat):Int):=by omega
   have h0j:(0:Int)≤((j+1:Nat):Int):=by omega
   have hlen:(nI pre post g.1).length=17:=by simp[nI,hpre,hpost,k2]; omega
   have hset:=a1P (pre:=pre) (post:=post) (s:=g.1) hpre (by omega) ((1+(aC l 3 (aC l 3 g.2).2).1:Nat):Int)
   rw[k2] at hset
   have hidx:4+(j+1)*1=5+j:=by omega
   have hle17:5+j+1≤17:=by omega
   simp -implicitDefEqProofs only[go_sem,γ,reduceCtorEq,e2,hj5,h0j,hidx,hpo,bp,hle17,bgD,bgL,or_false,forall_eq,hset,CR,ei]
   refine aJ (j+1,_) ⟨hlt,?_⟩ (by simp only; omega) ?_ PH.le_refl
   ·rw[hstep,hs]
    exact h2.abJ _
   ·(repeat' (first|exact PF.nil_le|refine PF.aA ?_ ?_))<;>first|(simp -implicitDefEqProofs only[go_sem,γ,reduceCtorEq]<;>rfl)|rfl
  ·have hs:fK l g.2=(0,(aC l 3 g.2).2):=by unfold fK; simp only[c,if_false]
   simp -implicitDefEqProofs only[go_sem,γ,reduceCtorEq,bD (show ¬ (((aC l 3 g.2).1:Nat):Int)=0 by omega),CR,ei]
   refine aJ (j+1,_) ⟨hlt,?_⟩ (by simp only; omega) ?_ PH.le_refl
   ·rw[aWL (pre:=pre) (post:=post) (s:=g.1) hpre (by omega)] at h1
    rw[hstep,hs]
    exact h1
   ·(repeat' (first|exact PF.nil_le|refine PF.aA ?_ ?_))<;>first|(simp -implicitDefEqProofs only[go_sem,γ,reduceCtorEq]<;>rfl)|rfl
 ·have:j=4:=by omega
  subst this
  simp -implicitDefEqProofs only[go_sem,δ,ε,show ¬ ((4+1:Nat):Int)<5 by decide]
  exact hK _ _ ⟨by simp -implicitDefEqProofs only[go_sem,reduceCtorEq],by simp -implicitDefEqProofs only[go_sem,γ,reduceCtorEq],by simp -implicitDefEqProofs only[go_sem,γ,reduceCtorEq],by simp -implicitDefEqProofs only[go_sem,γ,reduceCtorEq],by simp -implicitDefEqProofs only[go_sem,γ,reduceCtorEq],by simp -implicitDefEqProofs only[go_sem,γ,reduceCtorEq],by simp -implicitDefEqProofs only[go_sem,γ,reduceCtorEq],by simp -implicitDefEqProofs only[go_sem,γ,reduceCtorEq]⟩ (by simp -implicitDefEqProofs only[go_sem,γ,reduceCtorEq]) hH
end Go.PM
namespace Go.PM
open Go Go.Na
theorem aR.mD {E:FE} {v ext w1 w2 w3 w4 w5 w6:PV} {a:Nat} {H:PH} {B:List BX} {L:List LI} (h:aR H (E.boxes v ext w1 w2 w3 w4 w5 w6 a++B) L) (b:Nat):aR (H.set E.o (aS v b)) (E.boxes v ext w1 w2 w3 w4 w5 w6 b++B) L:=h.set 0 rfl _
abbrev SB (s:List UInt8) (k m q:Int) (w r t1 t2 t3:PV) (h:RF):List PV:=[.str s,.int .i64 k,.int .i64 m,.int .i64 q,.int .i64 0,.int .i64 0,.int .i64 0,.int .i64 0,.int .i64 0,w,r,t1,t2,t3,.bool h.neg,aF h.num,aF h.den]
theorem aVA {C : Ctx} (Lb : kJ C) {l : List Nat} {v : PV} (T : Tp l v) (E : FE) (mc n i a : Nat) (ha : a ≤ l.length) (hi : i < 50) (ext w1 w2 w3 w4 w5 w6 : PV) (L : List LI) (rest : aD) (K : cC) (F : PF) (H : PH)
    (hF : PAt E mc n i F) (hH : aR H (E.boxes v ext w1 w2 w3 w4 w5 w6 a) L)
    (hK : ∀ p F' H', PAt E mc n i F' → F' 15 = some (.ptr p 17 0 0) →
      (let k := aC l 2 a; let m := aC l 3 k.2; let h := aC l 4 m.2; let q := aC l (m.1 + 1) h.2; let r := gV l q.2 (max m.1 1); let g := aC l 9 r.2
       aR H' (E.boxes v ext w1 w2 w3 w4 w5 w6 g.2 ++ [(p, .rows 17 [nI [.str ([112] ++ bO i), .int .i64 (1 + k.1 : Nat), .int .i64 (m.1 : Nat), .int .i64 (1 + k.1 + q.1 : Nat), .int .i64 0]
        ([.nils, frs r.1] ++ (mkT (g.1 : Nat) 8).cells ++ (mkT ((1 + h.1 : Nat) : Int) 1).cells) []])]) L) → aD.wp C rest K F' H') :
    aD.wp C (.seq (.region CP) (.seq (.seq (.draw sX) (.draw sY)) (.seq (.region sZ) (.seq (.region tA) rest)))) K F H := by
  obtain ⟨f0, f1, f2, f6, f7, f11, f13, f14⟩ := hF
  have nk := bM l (show 0 < 2 by decide) a
  have ak := bC l 2 ha
  have nm := bM l (show 0 < 3 by decide) (aC l 2 a).2
  have am := bC l 3 ak
  simp only at hK
  generalize hk : aC l 2 a = k at *
  generalize hm : aC l 3 k.2 = m at *
  have nh := bM l (show 0 < 4 by decide) m.2
  have ah := bC l 4 am
  generalize hh : aC l 4 m.2 = h at *
  have nq := bM l (show 0 < m.1 + 1 by omega) h.2
  have aq := bC l (m.1 + 1) ah
  generalize hq : aC l (m.1 + 1) h.2 = q at *
  have ar := AE l aq (max m.1 1)
  generalize hr : gV l q.2 (max m.1 1) = r at *
  have ng := bM l (show 0 < 9 by decide) r.2
  have ag := bC l 9 ar
  generalize hg : aC l 9 r.2 = g at *
  have ek : IntKind.i64.wrap (1 + (k.1 : Int)) = ((1 + k.1 : Nat) : Int) := by rw [wrap_i64 (by omega) (by omega)]; omega
  have eh : IntKind.i64.wrap (1 + (h.1 : Int)) = ((1 + h.1 : Nat) : Int) := by rw [wrap_i64 (by omega) (by omega)]; omega
  have em : IntKind.i64.wrap ((m.1 : Int) + 1) = ((m.1 + 1 : Nat) : Int) := aN (by omega)
  have eq' : IntKind.i64.wrap (((1 + k.1 : Nat) : Int) + (q.1 : Int)) = ((1 + k.1 + q.1 : Nat) : Int) := by rw [wrap_i64 (by omega) (by omega)]; omega
  have h0 : aR H (E.boxes v ext w1 w2 w3 w4 w5 w6 a ++ []) L := by rw [bhN]; exact hH
  simp -implicitDefEqProofs only[go_sem,CP,f14]
  refine aB (Lb.name [112] i (by decide) (by omega)) rfl ?_
  simp -implicitDefEqProofs only[go_sem,reduceCtorEq,f0]
  refine cB Lb.topF T (o := E.o) (n := 2) (a := a) (by decide) ha rfl (h0.at 0 rfl) ?_
  have g1 := h0.mD k.2
  rw [hk]
  simp -implicitDefEqProofs only[go_sem,γ,reduceCtorEq,ek,f0]
  refine cB Lb.topF T (o := E.o) (n := 3) (a := k.2) (by decide) ak rfl (g1.at 0 rfl) ?_
  have g2 := g1.mD m.2
  rw [hm]
  rw [PH.set_set] at g2
  simp -implicitDefEqProofs only[go_sem,reduceCtorEq,f0]
  refine cB Lb.topF T (o := E.o) (n := 4) (a := m.2) (by decide) am rfl (g2.at 0 rfl) ?_
  have g3 := g2.mD h.2
  rw [hh]
  rw [PH.set_set] at g3
  simp -implicitDefEqProofs only[go_sem,γ,eh]
  refine aB (Lb.int ((1 + h.1 : Nat) : Int) (by unfold dT; omega)) rfl ?_
  simp -implicitDefEqProofs only[go_sem,δ,γ,θ,bgD,bgL,or_false,forall_eq,forall_eq_or_imp]
  refine aP fun p hp => ?_
  have g4 := g3.new hp (.rows 17 [SB ([112] ++ bO i) (1 + k.1 : Nat) (m.1 : Nat) 0 .nils .nils (.bool false) .nils .nils (mkT ((1 + h.1 : Nat) : Int) 1)])
  have hpo : ¬ p = E.o := g4.ne 3 0 rfl rfl (by decide)
  have hop : ¬ E.o = p := fun e => hpo e.symm
  have q2 : ∀ (F2 : PF) (H2 : PH), PAt E mc n i F2 → F2 15 = some (.ptr p 17 0 0) → aR H2 (E.boxes v ext w1 w2 w3 w4 w5 w6 h.2 ++ [(p, .rows 17 [SB ([112] ++ bO i) (1 + k.1 : Nat) (m.1 : Nat) 0 .nils .nils (.bool false) .nils .nils (mkT ((1 + h.1 : Nat) : Int) 1)])]) L →
      aD.wp C (.seq (.seq (.draw sX) (.draw sY)) (.seq (.region sZ) (.seq (.region tA) rest))) K F2 H2 := by
    intro F2 H2 hF2 f15 hH2
    obtain ⟨f0, f1, f2, f6, f7, f11, f13, f14⟩ := hF2
    have bp := hH2.at 3 rfl
    have hHs : (PH.nil.set p (.rows 17 [SB ([112] ++ bO i) (1 + k.1 : Nat) (m.1 : Nat) 0 .nils .nils (.bool false) .nils .nils (mkT ((1 + h.1 : Nat) : Int) 1)])).le H2 := PH.aA PH.nil_le bp
    simp -implicitDefEqProofs only[go_sem]
    refine cD _ (mkS l v) hHs ?_
    simp -implicitDefEqProofs only[go_sem,δ,γ,θ,reduceCtorEq,sX,f15,bp,em,f0]
    refine oC Lb.topF T (o := E.o) (n := m.1 + 1) (a := h.2) (by omega) ah rfl (hH2.at 0 rfl) ?_ ?_
    · rw [hq]; exact PH.aA PH.nil_le ((hH2.mD q.2).at 3 rfl)
    rw [hq]
    have g5 := hH2.mD q.2
    simp -implicitDefEqProofs only[go_sem,γ,eq',f15]
    refine cD .nil dS PH.nil_le ?_
    simp -implicitDefEqProofs only[go_sem,δ,γ,θ,sY,hpo,bp]
    refine ⟨PH.nil_le, ?_⟩
    have g6 : aR _ (E.boxes v ext w1 w2 w3 w4 w5 w6 q.2 ++ [(p, .rows 17 [SB ([112] ++ bO i) (1 + k.1 : Nat) (m.1 : Nat) (1 + k.1 + q.1 : Nat) .nils .nils (.bool false) .nils .nils (mkT ((1 + h.1 : Nat) : Int) 1)])]) L := g5.set 3 rfl (.rows 17 [SB ([112] ++ bO i) (1 + k.1 : Nat) (m.1 : Nat) (1 + k.1 + q.1 : Nat) .nils .nils (.bool false) .nils .nils (mkT ((1 + h.1 : Nat) : Int) 1)])
    have bq := g6.at 3 rfl
    simp -implicitDefEqProofs only[go_sem,δ,γ,θ,reduceCtorEq,sZ,f0,f15]
    refine fS (Lb.rep l v T E.o q.2 m.1 (by omega) aq) (g6.at 0 rfl) rfl ?_
    have g7 := g6.mD r.2
    rw [hr]
    simp -implicitDefEqProofs only[go_sem,δ,γ,θ,hpo,f15]
    have g8 : aR _ (E.boxes v ext w1 w2 w3 w4 w5 w6 r.2 ++ [(p, .rows 17 [SB ([112] ++ bO i) (1 + k.1 : Nat) (m.1 : Nat) (1 + k.1 + q.1 : Nat) .nils (frs r.1) (.bool false) .nils .nils (mkT ((1 + h.1 : Nat) : Int) 1)])]) L := g7.set 3 rfl (.rows 17 [SB ([112] ++ bO i) (1 + k.1 : Nat) (m.1 : Nat) (1 + k.1 + q.1 : Nat) .nils (frs r.1) (.bool false) .nils .nils (mkT ((1 + h.1 : Nat) : Int) 1)])
    simp -implicitDefEqProofs only[go_sem,reduceCtorEq,tA,f0]
    refine cB Lb.topF T (o := E.o) (n := 9) (a := r.2) (by decide) ar rfl (g8.at 0 rfl) ?_
    have g9 := g8.mD g.2
    rw [hg]
    simp -implicitDefEqProofs only[go_sem]
    refine aB (Lb.fmk (g.1 : Int) 8 (by unfold dT; omega) (by unfold dT; omega)) rfl ?_
    unfold sG
    rw [if_neg (by decide)]
    simp -implicitDefEqProofs only[go_sem,δ,γ,θ,f15,hpo]
    have g10 := g9.set 3 rfl (.rows 17 [nI [.str ([112] ++ bO i), .int .i64 (1 + k.1 : Nat), .int .i64 (m.1 : Nat), .int .i64 (1 + k.1 + q.1 : Nat), .int .i64 0]
        ([.nils, frs r.1] ++ (mkT (g.1 : Nat) 8).cells ++ (mkT ((1 + h.1 : Nat) : Int) 1).cells) []])
    refine hK p _ _ ⟨by simp -implicitDefEqProofs only[go_sem,reduceCtorEq,f0], by simp -implicitDefEqProofs only[go_sem,γ,f1], by simp -implicitDefEqProofs only[go_sem,γ,f2], by simp -implicitDefEqProofs only[go_sem,γ,f6], by simp -implicitDefEqProofs only[go_sem,γ,f7], by simp -implicitDefEqProofs only[go_sem,γ,f11], by simp -implicitDefEqProofs only[go_sem,γ,f13], by simp -implicitDefEqProofs only[go_sem,γ,f14]⟩ (by simp -implicitDefEqProofs only[go_sem,γ,f15]) g10
  simp only [aD.wp, go_sem] at q2
  simp -implicitDefEqProofs only[go_sem,δ,γ,bgD,bgL,or_false,forall_eq,forall_eq_or_imp]
  exact q2 _ _ ⟨by simp -implicitDefEqProofs only[go_sem,reduceCtorEq,f0], by simp -implicitDefEqProofs only[go_sem,γ,f1], by simp -implicitDefEqProofs only[go_sem,γ,f2], by simp -implicitDefEqProofs only[go_sem,γ,f6], by simp -implicitDefEqProofs only[go_sem,γ,f7], by simp -implicitDefEqProofs only[go_sem,γ,f11], by simp -implicitDefEqProofs only[go_sem,γ,f13], by simp -implicitDefEqProofs only[go_sem,γ,f14]⟩ rfl g4
end Go.PM
namespace Go.PM
open Go Go.Na
abbrev FE.lists (w1 w2 w3 w4 w5:PV) (lw:List cL) (md:List cS) (dm:List cK) (dv:List cO) (pr:List (List PV)):List LI:=[(w1,4,fR lw),(w2,4,gN md),(w3,7,gR dm),(w4,3,jT dv),(w5,17,pr)]
theorem aVB {C:Ctx} (Lb:kJ C) {l:List Nat} {v:PV} (T:Tp l v) (E:FE) (mc n i a:Nat) (ha:a≤l.length) (hmc:0<mc) (hmc2:mc≤50) (ext w1 w2 w3 w4 w5:PV) (lw:List cL) (md:List cS) (dm:List cK) (dv:List cO) (pr:List (List PV)) (hpr:pr.length≤50)
  (s:List UInt8) (k m q:Int) (r t h:RF) (rl:List RF) (p:Nat) (K:cC) (F:PF) (H:PH)
  (hF:PAt E mc n i F) (f15:F 15=some (.ptr p 17 0 0))
  (hH:aR H (E.boxes v ext w1 w2 w3 w4 w5 .nils a++[(p,.rows 17 [nI [.str s,.int .i64 k,.int .i64 m,.int .i64 q,.int .i64 0] ([.nils,frs rl]++t.cells++h.cells) []])]) (FE.lists w1 w2 w3 w4 w5 lw md dm dv pr))
  (hK:(let sp:=nJ l a 4; let f:=aC l mc sp.2; let b:=aC l 2 f.2
   let ms:List Int × Nat:=if 1<mc then (if b.1=0 then ([(f.1:Int),1-(f.1:Int)],b.2) else ([(f.1:Int)],b.2)) else ([(f.1:Int)],f.2)
   ∀ (w w5':PV) (F':PF) (H':PH) (B':List BX),PAt E mc n i F'→(∃ o,w=.osl o 1 0 ms.1.length)→aR H' (E.boxes v ext w1 w2 w3 w4 w5' .nils ms.2++B')
    (FE.lists w1 w2 w3 w4 w5' lw md dm dv (pr++[sN ⟨s,k,m,q,0,(sp.1.getD 0 0),(sp.1.getD 1 0),(sp.1.getD 2 0),(sp.1.getD 3 0),ms.1,rl,t,h⟩ w])++[(w,1,dB ms.1)])→K .normal F' H')) :
  aD.wp C (.seq (.seq (.region CQ) (.block 6 (.loop sW))) (.seq (.region CS) (.seq (.region CU) (.seq (.seq (.region CV) (.cond (.tmp 143) (.region CW) .skip)) (.region tB))))) K F H:=by
 obtain⟨f0,f1,f2,f6,f7,f11,f13,f14⟩:=hF
 simp -implicitDefEqProofs only[go_sem,CQ]
 refine aKT (C:=C) Lb T E mc n i a p ha [(E.o7,flB ext w1 w2 w3 w4 w5 .nils),(E.o6,flZ)] _ _ _ rfl rfl _ _ H ⟨by simp -implicitDefEqProofs only[go_sem,reduceCtorEq,f0],by simp -implicitDefEqProofs only[go_sem,γ,f1],by simp -implicitDefEqProofs only[go_sem,γ,f2],by simp -implicitDefEqProofs only[go_sem,γ,f6],by simp -implicitDefEqProofs only[go_sem,γ,f7],by simp -implicitDefEqProofs only[go_sem,γ,f11],by simp -implicitDefEqProofs only[go_sem,γ,f13],by simp -implicitDefEqProofs only[go_sem,γ,f14]⟩ (by simp -implicitDefEqProofs only[go_sem,γ,f15]) rfl hH ?_
 clear f0 f1 f2 f6 f7 f11 f13 f14 f15 hH
 intro F1 H1 hF1 f15 hH1
 obtain⟨f0,f1,f2,f6,f7,f11,f13,f14⟩:=hF1
 obtain⟨as',ls⟩:=abM l ha 4
 have hsp:∃ x1 x2 x3 x4,(nJ l a 4).1=[x1,x2,x3,x4]:=⟨_,_,_,_,rfl⟩
 simp only at hK
 generalize hspg:nJ l a 4=sp at *
 obtain⟨x1,x2,x3,x4,hx⟩:=hsp
 rw[hx] at hK hH1
 replace hH1:aR H1 (E.boxes v ext w1 w2 w3 w4 w5 .nils sp.2++[(p,.rows 17 [sN ⟨s,k,m,q,0,x1,x2,x3,x4,[],rl,t,h⟩ .nils])]) (FE.lists w1 w2 w3 w4 w5 lw md dm dv pr):=hH1
 have nf:=bM l hmc sp.2
 have af:=bC l mc as'
 generalize hf:aC l mc sp.2=f at *
 have ab:=bC l 2 af
 generalize hb:aC l 2 f.2=b at *
 have hpo:¬ p=E.o:=hH1.ne 3 0 rfl rfl (by decide)
 have hp7:¬ p=E.o7:=hH1.ne 3 1 rfl rfl (by decide)
 have h7p:¬ E.o7=p:=fun e=>hp7 e.symm
 have h7o:¬ E.o7=E.o:=hH1.ne 1 0 rfl rfl (by decide)
 simp -implicitDefEqProofs only[go_sem,γ,CS,f0,f11]
 refine cB Lb.topF T (o:=E.o) (n:=mc) (a:=sp.2) (by omega) as' rfl (hH1.at 0 rfl) ?_
 have h2:=hH1.set 0 rfl (aS v f.2)
 rw[hf]
 simp -implicitDefEqProofs only[go_sem,υ,γ,η,θ,ζ,CU]
 refine aP fun o ho=>?_
 have h3:=h2.aLF (s:=1) (rows:=dB [(f.1:Int)]) ho
 have b3:=h3.at 3 rfl
 have ob:¬ p=o:=h3.neL 3 5 rfl rfl rfl
 have o7b:¬ E.o7=o:=h3.neL 1 5 rfl rfl rfl
 have oob:¬ E.o=o:=h3.neL 0 5 rfl rfl rfl
 simp only[aV,if_neg ob,if_neg hpo] at b3
 simp -implicitDefEqProofs only[go_sem,δ,γ,θ,f15,ob,hpo,b3,bgD,bgL,or_false,forall_eq]
 have h4:=h3.set 3 rfl (.rows 17 [sN ⟨s,k,m,q,0,x1,x2,x3,x4,[],rl,t,h⟩ (.osl o 1 0 1)])
 have fin:∀ (w:PV) (ms:List Int) (a':Nat) (F':PF) (H':PH),PAt E mc n i F'→F' 15=some (.ptr p 17 0 0)→(∃ o,w=.osl o 1 0 ms.length) →
   aR H' (E.boxes v ext w1 w2 w3 w4 w5 .nils a'++[(p,.rows 17 [sN ⟨s,k,m,q,0,x1,x2,x3,x4,ms,rl,t,h⟩ w])]) (FE.lists w1 w2 w3 w4 w5 lw md dm dv pr++[(w,1,dB ms)]) →
   (∀ (w5':PV) (F2:PF) (H2:PH),PAt E mc n i F2→aR H2 (E.boxes v ext w1 w2 w3 w4 w5' .nils a'++[(p,.rows 17 [sN ⟨s,k,m,q,0,x1,x2,x3,x4,ms,rl,t,h⟩ w])]) (FE.lists w1 w2 w3 w4 w5' lw md dm dv (pr++[sN ⟨s,k,m,q,0,x1,x2,x3,x4,ms,rl,t,h⟩ w])++[(w,1,dB ms)])→K .normal F2 H2) →
   wpOps C tB (K .normal) F' H':=by
  intro w ms a' F' H' hF' f15 hw hH' hK'
  obtain⟨wo,rfl⟩:=hw
  obtain⟨f0,f1,f2,f6,f7,f11,f13,f14⟩:=hF'
  have c1:=hH'.at 1 rfl
  have c3:=hH'.at 3 rfl
  have h17:(1:Nat)*17≤16777216:=by decide
  simp -implicitDefEqProofs only[go_sem,υ,δ,γ,η,θ,ζ,tB,f7,f15,c1,c3,h17,bgD,bgL,or_false,forall_eq,forall_eq_or_imp]
  refine hH'.append 4 (src:=[sN ⟨s,k,m,q,0,x1,x2,x3,x4,ms,rl,t,h⟩ (.osl wo 1 0 ms.length)]) rfl rfl (by unfold roomFor; simp only[bfZ,maxLen]; omega) fun w5' H2 h5 hw5=>?_
  obtain⟨q5,rfl⟩:=hw5 (by simp)
  have c2:=h5.at 1 rfl
  simp -implicitDefEqProofs only[go_sem,δ,θ,c2,bgD,bgL,or_false,forall_eq]
  exact hK' _ _ _ ⟨by simp -implicitDefEqProofs only[go_sem,reduceCtorEq,f0],by simp -implicitDefEqProofs only[go_sem,γ,f1],by simp -implicitDefEqProofs only[go_sem,γ,f2],by simp -implicitDefEqProofs only[go_sem,γ,f6],by simp -implicitDefEqProofs only[go_sem,γ,f7],by simp -implicitDefEqProofs only[go_sem,γ,f11],by simp -implicitDefEqProofs only[go_sem,γ,f13],by simp -implicitDefEqProofs only[go_sem,γ,f14]⟩ (h5.set 1 rfl (flB ext w1 w2 w3 w4 _ .nils))
 simp -implicitDefEqProofs only[go_sem,γ,CV,f11]
 by_cases c:1<mc
 ·have c':(mc:Int)>1:=by omega
  simp -implicitDefEqProofs only[go_sem,γ,reduceCtorEq,c',f0]
  refine cB Lb.topF T (o:=E.o) (n:=2) (a:=f.2) (by decide) af rfl (h4.at 0 rfl) ?_
  have h5:=h4.set 0 rfl (aS v b.2)
  rw[hb]
  by_cases c2:b.1=0
  ·have c2':((b.1:Nat):Int)=0:=by omega
   rw[if_pos c,if_pos c2] at hK
   have e1:IntKind.i64.wrap (1-(f.1:Int))=1-(f.1:Int):=wrap_i64 (by omega) (by omega)
   have c3:=h5.at 3 rfl
   have h11:(1:Nat)*1≤16777216:=by decide
   simp -implicitDefEqProofs only[go_sem,υ,δ,γ,η,θ,ζ,bP c2',CW,f15,hpo,e1,h11]
   refine h5.append 5 (src:=[[.int .i64 (1-(f.1:Int))]]) rfl rfl (by unfold roomFor; simp only[dB,bfT,bfZ,maxLen]; omega) fun w' H2 h6 hw=>?_
   obtain⟨q2,rfl⟩:=hw (by simp)
   have c4:=h6.at 3 rfl
   simp -implicitDefEqProofs only[go_sem,δ,θ,c4,f15,bgD,bgL,or_false,forall_eq]
   have h7:=h6.set 3 rfl (.rows 17 [sN ⟨s,k,m,q,0,x1,x2,x3,x4,[(f.1:Int),1-(f.1:Int)],rl,t,h⟩ (.osl q2 1 0 2)])
   exact fin (.osl q2 1 0 2) [(f.1:Int),1-(f.1:Int)] b.2 _ _ ⟨by simp -implicitDefEqProofs only[go_sem,reduceCtorEq,f0],by simp -implicitDefEqProofs only[go_sem,γ,f1],by simp -implicitDefEqProofs only[go_sem,γ,f2],by simp -implicitDefEqProofs only[go_sem,γ,f6],by simp -implicitDefEqProofs only[go_sem,γ,f7],by simp -implicitDefEqProofs only[go_sem,γ,f11],by simp -implicitDefEqProofs only[go_sem,γ,f13],by simp -implicitDefEqProofs only[go_sem,γ,f14]⟩ (by simp -implicitDefEqProofs only[go_sem,γ,f15]) ⟨q2,rfl⟩ h7 (fun w5' F2 H2 g1 g2=>hK _ w5' F2 H2 _ g1 ⟨q2,rfl⟩ g2)
  ·have c2':¬ ((b.1:Nat):Int)=0:=by omega
   rw[if_pos c,if_neg c2] at hK
   simp -implicitDefEqProofs only[go_sem,γ,bD c2']
   exact fin (.osl o 1 0 1) [(f.1:Int)] b.2 _ _ ⟨by simp -implicitDefEqProofs only[go_sem,reduceCtorEq,f0],by simp -implicitDefEqProofs only[go_sem,γ,f1],by simp -implicitDefEqProofs only[go_sem,γ,f2],by simp -implicitDefEqProofs only[go_sem,γ,f6],by simp -implicitDefEqProofs only[go_sem,γ,f7],by simp -implicitDefEqProofs only[go_sem,γ,f11],by simp -implicitDefEqProofs only[go_sem,γ,f13],by simp -implicitDefEqProofs only[go_sem,γ,f14]⟩ (by simp -implicitDefEqProofs only[go_sem,γ,f15]) ⟨o,rfl⟩ h5 (fun w5' F2 H2 g1 g2=>hK _ w5' F2 H2 _ g1 ⟨o,rfl⟩ g2)
 ·have c':¬ (mc:Int)>1:=by omega
  rw[if_neg c] at hK
  simp -implicitDefEqProofs only[go_sem,γ,reduceCtorEq,c']
  exact fin (.osl o 1 0 1) [(f.1:Int)] f.2 _ _ ⟨by simp -implicitDefEqProofs only[go_sem,reduceCtorEq,f0],by simp -implicitDefEqProofs only[go_sem,γ,f1],by simp -implicitDefEqProofs only[go_sem,γ,f2],by simp -implicitDefEqProofs only[go_sem,γ,f6],by simp -implicitDefEqProofs only[go_sem,γ,f7],by simp -implicitDefEqProofs only[go_sem,γ,f11],by simp -implicitDefEqProofs only[go_sem,γ,f13],by simp -implicitDefEqProofs only[go_sem,γ,f14]⟩ (by simp -implicitDefEqProofs only[go_sem,γ,f15]) ⟨o,rfl⟩ h4 (fun w5' F2 H2 g1 g2=>hK _ w5' F2 H2 _ g1 ⟨o,rfl⟩ g2)
end Go.PM
namespace Go.PM
open Go Go.Na
abbrev jN (l:List cM):List (List PV):=l.map cM.cells
abbrev lG (l:List fI):List (List PV):=l.map fI.cells
theorem kZ {rows:List (List PV)} (h:∀ r∈rows,∀ c∈r,c.oid=none):Flat rows:=Flat.of fun r hr c hc q s rs=>TV (h r hr c hc) q s rs
theorem aEJ (l:List cL):Flat (fR l):=kZ fun r hr c hc=>by
 obtain⟨x,_,rfl⟩:=bgZ.1 hr
 simp only[cL.cells,bgD,bgL,or_false] at hc
 rcases hc with rfl | rfl | rfl | rfl<;>rfl
theorem aEM (l:List cS):Flat (gN l):=kZ fun r hr c hc=>by
 obtain⟨x,_,rfl⟩:=bgZ.1 hr
 simp only[cS.cells,bgD,bgL,or_false] at hc
 rcases hc with rfl | rfl | rfl | rfl<;>rfl
theorem aBR (l:List cK):Flat (gR l):=kZ fun r hr c hc=>by
 obtain⟨x,_,rfl⟩:=bgZ.1 hr
 simp only[cK.cells,bgD,bgL,or_false] at hc
 rcases hc with rfl | rfl | rfl | rfl | rfl | rfl | rfl<;>rfl
theorem aBT (l:List cO):Flat (jT l):=kZ fun r hr c hc=>by
 obtain⟨x,_,rfl⟩:=bgZ.1 hr
 simp only[cO.cells,bgD,bgL,or_false] at hc
 rcases hc with rfl | rfl | rfl<;>rfl
theorem a2Z (l:List fI):Flat (lG l):=kZ fun r hr c hc=>by
 obtain⟨x,_,rfl⟩:=bgZ.1 hr
 simp only[fI.cells,bgD,bgL,or_false] at hc
 rcases hc with rfl | rfl<;>rfl
theorem aGY (l:List cM):Flat (jN l):=kZ fun r hr c hc=>by
 obtain⟨x,_,rfl⟩:=bgZ.1 hr
 simp only[cM.cells,bgD,bgL,or_false] at hc
 rcases hc with rfl | rfl | rfl | rfl | rfl | rfl | rfl | rfl | rfl | rfl | rfl | rfl | rfl | rfl | rfl | rfl | rfl<;>rfl
theorem aLR (l:List Nat) (mc i:Nat) {a:Nat} (h:a≤l.length):(jR l mc i a).2≤l.length:=by
 have h1:=bC l 9 (AE l (bC l ((aC l 3 (aC l 2 a).2).1+1) (bC l 4 (bC l 3 (bC l 2 h)))) (max (aC l 3 (aC l 2 a).2).1 1))
 have h2:=bC l mc (qG l (qG l (qG l (qG l h1))))
 unfold jR
 simp only
 split
 ·split
  ·exact bC l 2 h2
  ·exact bC l 2 h2
 ·exact h2
theorem qC (l:List Nat) (mc:Nat) {a:Nat} (h:a≤l.length):∀ k,(cT l mc a k).2≤l.length∧(cT l mc a k).1.length=k
 | 0=>⟨h,rfl⟩
 | k+1=>by
  obtain⟨h1,h2⟩:=qC l mc h k
  exact⟨aLR l mc k h1,by simp only[cT,bfW,bfZ,h2]⟩
theorem zM (l:List Nat) (pc:Nat) {a:Nat} (h:a≤l.length):∀ k,(dL l pc a k).2≤l.length∧(dL l pc a k).1.length=k
 | 0=>⟨h,rfl⟩
 | k+1=>by
  obtain⟨h1,h2⟩:=zM l pc h k
  exact⟨bC l pc h1,by simp only[dL,bfW,bfZ,h2]⟩
theorem aqG {C:Ctx} (Lb:kJ C) {l:List Nat} {v:PV} (T:Tp l v) (E:FE) (mc n a:Nat) (hn:n≤10) (hmc:0<mc) (hmc2:mc≤50) (ha:a≤l.length) (x0:Int) (w1 w2 w3 w4:PV) (lw:List cL) (md:List cS) (dm:List cK) (dv:List cO) (K:cC) (F:PF) (H:PH)
  (hF:PAt E mc n 0 F) (hH:aR H (E.boxes v (.int .i64 x0) w1 w2 w3 w4 .nils .nils a) [(w1,4,fR lw),(w2,4,gN md),(w3,7,gR dm),(w4,3,jT dv)])
  (hK:∀ w5 F' H',(eQ E).le F'→aR H' (E.boxes v (.int .i64 x0) w1 w2 w3 w4 w5 .nils (cT l mc a n).2) (FE.lists w1 w2 w3 w4 w5 lw md dm dv (jN (cT l mc a n).1))→K (.exit 4) F' H') :
  aD.wp C (.loop CN) K F H:=by
 refine wp_loop (α:=Nat × PV × PH) (fun t=>aaF E mc n t.1) (fun t=>t.2.2) (fun t=>t.1≤n∧aR t.2.2 (E.boxes v (.int .i64 x0) w1 w2 w3 w4 t.2.1 .nils (cT l mc a t.1).2) (FE.lists w1 w2 w3 w4 t.2.1 lw md dm dv (jN (cT l mc a t.1).1))) (fun t=>n-t.1) (0,.nils,H) ⟨bgE _,hH.qS 17⟩ ?_ PH.le_refl ?_
 ·unfold aaF eQ
  (repeat' (first|exact PF.nil_le|refine PF.aA ?_ ?_))<;>first|(simp -implicitDefEqProofs only[go_sem,hF.f0,hF.f1,hF.f2,hF.f6,hF.f7,hF.f11,hF.f13,hF.f14]<;>rfl)|rfl
 rintro⟨i,w5,H0⟩ ⟨hi,hH⟩
 simp only at hi hH ⊢
 obtain⟨k1,k2⟩:=qC l mc ha i
 have hstep:cT l mc a (i+1)=((cT l mc a i).1++[(jR l mc i (cT l mc a i).2).1],(jR l mc i (cT l mc a i).2).2):=rfl
 simp -implicitDefEqProofs only[go_sem,γ,reduceCtorEq,CN,VH,aaF,eQ]
 by_cases hlt:i<n
 ·have hlt':(i:Int)<(n:Nat):=by omega
  generalize hg:cT l mc a i=g at *
  simp -implicitDefEqProofs only[go_sem,hlt']
  refine aVA (C:=C) Lb T E mc n i g.2 k1 (by omega) (.int .i64 x0) w1 w2 w3 w4 w5 .nils _ _ _ _ H0 ⟨by simp -implicitDefEqProofs only[go_sem,reduceCtorEq],by simp -implicitDefEqProofs only[go_sem,γ,reduceCtorEq],by simp -implicitDefEqProofs only[go_sem,γ,reduceCtorEq],by simp -implicitDefEqProofs only[go_sem,γ,reduceCtorEq],by simp -implicitDefEqProofs only[go_sem,γ,reduceCtorEq],by simp -implicitDefEqProofs only[go_sem,γ,reduceCtorEq],by simp -implicitDefEqProofs only[go_sem,γ,reduceCtorEq],by simp -implicitDefEqProofs only[go_sem,γ,reduceCtorEq]⟩ hH ?_
  intro p F1 H1 hF1 f15 hH1
  simp only at hH1
  have hpT:jR l mc i g.2=_:=rfl
  have hgle:=bC l 9 (AE l (bC l ((aC l 3 (aC l 2 g.2).2).1+1) (bC l 4 (bC l 3 (bC l 2 k1)))) (max (aC l 3 (aC l 2 g.2).2).1 1))
  refine aVB (C:=C) Lb T E mc n i _ hgle hmc hmc2 (.int .i64 x0) w1 w2 w3 w4 w5 lw md dm dv _ (by rw[bfT,k2]; omega) _ _ _ _ (mkT 0 1) _ _ _ p _ F1 H1 hF1 f15 hH1 ?_
  intro sp f b ms w w5' F2 H2 B' hF2 hw hH2
  obtain⟨o,rfl⟩:=hw
  have hP:jR l mc i g.2=(⟨[112]++bO i,(1+(aC l 2 g.2).1:Nat),((aC l 3 (aC l 2 g.2).2).1:Nat),(1+(aC l 2 g.2).1+(aC l ((aC l 3 (aC l 2 g.2).2).1+1) (aC l 4 (aC l 3 (aC l 2 g.2).2).2).2).1:Nat),0,sp.1.getD 0 0,sp.1.getD 1 0,sp.1.getD 2 0,sp.1.getD 3 0,ms.1,(gV l (aC l ((aC l 3 (aC l 2 g.2).2).1+1) (aC l 4 (aC l 3 (aC l 2 g.2).2).2).2).2 (max (aC l 3 (aC l 2 g.2).2).1 1)).1,mkT ((aC l 9 (gV l (aC l ((aC l 3 (aC l 2 g.2).2).1+1) (aC l 4 (aC l 3 (aC l 2 g.2).2).2).2).2 (max (aC l 3 (aC l 2 g.2).2).1 1)).2).1:Nat) 8,mkT ((1+(aC l 4 (aC l 3 (aC l 2 g.2).2).2).1:Nat):Int) 1⟩,ms.2):=rfl
  rw[hP] at hstep
  generalize hPP:(⟨[112]++bO i,(1+(aC l 2 g.2).1:Nat),((aC l 3 (aC l 2 g.2).2).1:Nat),(1+(aC l 2 g.2).1+(aC l ((aC l 3 (aC l 2 g.2).2).1+1) (aC l 4 (aC l 3 (aC l 2 g.2).2).2).2).1:Nat),0,sp.1.getD 0 0,sp.1.getD 1 0,sp.1.getD 2 0,sp.1.getD 3 0,ms.1,(gV l (aC l ((aC l 3 (aC l 2 g.2).2).1+1) (aC l 4 (aC l 3 (aC l 2 g.2).2).2).2).2 (max (aC l 3 (aC l 2 g.2).2).1 1)).1,mkT ((aC l 9 (gV l (aC l ((aC l 3 (aC l 2 g.2).2).1+1) (aC l 4 (aC l 3 (aC l 2 g.2).2).2).2).2 (max (aC l 3 (aC l 2 g.2).2).1 1)).2).1:Nat) 8,mkT ((1+(aC l 4 (aC l 3 (aC l 2 g.2).2).2).1:Nat):Int) 1⟩:cM)=P at *
  have hPm:P.models=ms.1:=by rw[← hPP]
  obtain⟨rs,z1,z2,z3,z4,z5⟩:=hH2.frz 5 rfl
  have y1:=z4 0 _ (by decide) rfl
  have y2:=z4 1 _ (by decide) rfl
  have y3:=z4 2 _ (by decide) rfl
  have y4:=z4 3 _ (by decide) rfl
  have y5:=z4 4 _ (by decide) rfl
  simp only at y1 y2 y3 y4 y5
  have y0:=T.frz o 1 rs
  obtain⟨f0,f1,f2,f6,f7,f11,f13,f14⟩:=hF2
  simp -implicitDefEqProofs only[go_sem,γ,VL,f14,aN (show i<9223372036854775807 by omega)]
  refine HP (i+1,w5',H2.frz o 1 rs) z1 ⟨hlt,?_⟩ (by simp only; omega) ?_ PH.le_refl
  ·rw[hstep]
   have eB:(E.boxes v (.int .i64 x0) w1 w2 w3 w4 w5' .nils ms.2).map (fun b=>(b.1,b.2.frz o 1 rs))=E.boxes v (.int .i64 x0) w1 w2 w3 w4 w5' .nils ms.2:=by
    show [(E.o,bV.rows 2 [[PV.cR o 1 rs v,.int .i64 ms.2]]),(E.o7,bV.rows 7 [[.int .i64 x0,PV.cR o 1 rs w1,PV.cR o 1 rs w2,PV.cR o 1 rs w3,PV.cR o 1 rs w4,PV.cR o 1 rs w5',.nils]]),(E.o6,flZ)]=_
    rw[y0,y1,y2,y3,y4,y5]
   have e5:(jN g.1++[sN P (.osl o 1 0 ms.1.length)]).map (fun r=>r.map (PV.cR o 1 rs))=jN (g.1++[P]):=by
    rw[bhS,aGY]
    have:([sN P (.osl o 1 0 ms.1.length)]:List (List PV)).map (fun r=>r.map (PV.cR o 1 rs))=[P.cells]:=by
     show [[PV.str P.name,.int .i64 P.k,.int .i64 P.m,.int .i64 P.quorum,.int .i64 P.s0,.int .i64 P.s1,.int .i64 P.s2,.int .i64 P.s3,.int .i64 P.s4,PV.cR o 1 rs (.osl o 1 0 ms.1.length),frs P.repair,.bool P.target.neg,aF P.target.num,aF P.target.den,.bool P.horizon.neg,aF P.horizon.num,aF P.horizon.den]]=_
     rw[z2,← hPm]
     rfl
    rw[this]
    simp[jN]
   have eL:(FE.lists w1 w2 w3 w4 w5' lw md dm dv (jN g.1++[sN P (.osl o 1 0 ms.1.length)])).map (fun x=>(x.1,x.2.1,x.2.2.map fun r=>r.map (PV.cR o 1 rs)))=FE.lists w1 w2 w3 w4 w5' lw md dm dv (jN (g.1++[P])):=by
    show [(w1,4,(fR lw).map _),(w2,4,(gN md).map _),(w3,7,(gR dm).map _),(w4,3,(jT dv).map _),(w5',17,(jN g.1++[sN P (.osl o 1 0 ms.1.length)]).map _)]=_
    rw[aEJ,aEM,aBR,aBT,e5]
   rw[← eB,← eL]
   exact z5.sub (by rw[bhS]; exact List.sublist_append_left ..) (bhU.refl _)
  ·(repeat' (first|exact PF.nil_le|refine PF.aA ?_ ?_))<;>first|(simp -implicitDefEqProofs only[go_sem,γ,reduceCtorEq,f0,f1,f2,f6,f7,f11,f13]<;>rfl)|rfl
 ·have hlt':¬ (i:Int)<(n:Nat):=by omega
  have:i=n:=by omega
  subst this
  simp -implicitDefEqProofs only[go_sem,hlt']
  exact hK w5 _ _ (MG (by simp -implicitDefEqProofs only[go_sem,reduceCtorEq]) (by simp -implicitDefEqProofs only[go_sem,γ,reduceCtorEq]) (by simp -implicitDefEqProofs only[go_sem,γ,reduceCtorEq]) (by simp -implicitDefEqProofs only[go_sem,γ,reduceCtorEq]) (by simp -implicitDefEqProofs only[go_sem,γ,reduceCtorEq])) hH
end Go.PM
namespace Go.PM
open Go Go.Na
theorem aAR {C:Ctx} (Lb:kJ C) {l:List Nat} {v:PV} (T:Tp l v) (E:FE) (pc n a:Nat) (hn:n≤60) (hpc:pc≤50) (ha:a≤l.length) (ext w1 w2 w3 w4 w5:PV) (pr:List cM) (hpr:pr.length=pc) (L:List LI) (K:cC) (F:PF) (H:PH)
  (hF:(((eQ E).set 18 (.int .i64 n)).set 19 (.int .i64 0)).le F) (hH:aR H (E.boxes v ext w1 w2 w3 w4 w5 .nils a) ((w5,17,jN pr)::L))
  (hK:∀ w6 F' H',(eQ E).le F'→aR H' (E.boxes v ext w1 w2 w3 w4 w5 w6 (dL l pc a n).2) ((w5,17,jN pr)::L++[(w6,2,lG (dL l pc a n).1)])→K (.exit 8) F' H') :
  aD.wp C (.loop CO) K F H:=by
 refine wp_loop (α:=Nat × PV × PH) (fun t=>((eQ E).set 18 (.int .i64 n)).set 19 (.int .i64 t.1)) (fun t=>t.2.2) (fun t=>t.1≤n∧aR t.2.2 (E.boxes v ext w1 w2 w3 w4 w5 t.2.1 (dL l pc a t.1).2) ((w5,17,jN pr)::L++[(t.2.1,2,lG (dL l pc a t.1).1)])) (fun t=>n-t.1) (0,.nils,H) ⟨bgE _,hH.qS 2⟩ hF PH.le_refl ?_
 rintro⟨i,w6,H0⟩ ⟨hi,hH⟩
 simp only at hi hH ⊢
 obtain⟨k1,k2⟩:=zM l pc ha i
 have hstep:dL l pc a (i+1)=((dL l pc a i).1++[⟨[118]++bO i,((aC l pc (dL l pc a i).2).1:Nat)⟩],(aC l pc (dL l pc a i).2).2):=rfl
 simp -implicitDefEqProofs only[go_sem,γ,reduceCtorEq,CO,VO,eQ]
 by_cases hlt:i<n
 ·have hlt':(i:Int)<(n:Nat):=by omega
  generalize hg:dL l pc a i=g at *
  have h1:=hH.set 0 rfl (aS v (aC l pc g.2).2)
  generalize hz0:aC l pc g.2=z at *
  have b1:=hH.at 1 rfl
  have lw:=(hH.own 0 rfl).sL
  rw[bfT,hpr] at lw
  have hHs:(PH.nil.set E.o7 (flB ext w1 w2 w3 w4 w5 w6)).le H0:=PH.aA PH.nil_le b1
  simp -implicitDefEqProofs only[go_sem,hlt']
  refine cD (PH.nil.set E.o7 (flB ext w1 w2 w3 w4 w5 w6)) (mkS l v) hHs ?_
  simp -implicitDefEqProofs only[go_sem,δ,γ,reduceCtorEq,VP]
  refine AW Lb.topG (s:=[118]) (n:=i) (by decide) (by omega) rfl hHs ?_
  simp -implicitDefEqProofs only[go_sem,δ,γ,θ,reduceCtorEq,lw]
  refine oC Lb.topF T (o:=E.o) (n:=pc) (a:=g.2) (by omega) k1 rfl (hH.at 0 rfl) ?_ ?_
  ·rw[hz0]; exact PH.aA PH.nil_le (h1.at 1 rfl)
  rw[hz0]
  have h12:(1:Nat)*2≤16777216:=by decide
  simp -implicitDefEqProofs only[go_sem,υ,δ,γ,η,θ,ζ,reduceCtorEq,h12,bgD,bgL,or_false,forall_eq,forall_eq_or_imp]
  refine h1.append (v:=w6) (s:=2) (rows:=lG g.1) (L.length+1) (src:=[(⟨[118]++bO i,(z.1:Nat)⟩:fI).cells]) (by simp) rfl (by unfold roomFor; rw[bfT]; simp only[bfZ,maxLen]; omega) fun w' H2 h5 hw=>?_
  obtain⟨q,rfl⟩:=hw (by simp)
  rw[show ((w5,17,jN pr)::L++[(w6,2,lG g.1)])=((w5,17,jN pr)::L)++[(w6,2,lG g.1)] from rfl,biU _ _ (by simp),show L.length+1-((w5,17,jN pr)::L).length=0 by simp] at h5
  have b2:=h5.at 1 rfl
  refine⟨PH.aA PH.nil_le b2,?_⟩
  refine cD .nil dS PH.nil_le ?_
  simp -implicitDefEqProofs only[go_sem,δ,γ,reduceCtorEq,VQ,b2,bgD,bgL,or_false,forall_eq]
  have h6:=h5.set 1 rfl (flB ext w1 w2 w3 w4 w5 (.osl q 2 0 (lG g.1++[(⟨[118]++bO i,(z.1:Nat)⟩:fI).cells]).length))
  refine⟨PH.nil_le,?_⟩
  simp -implicitDefEqProofs only[go_sem,γ,reduceCtorEq,VR,aN (show i<9223372036854775807 by omega)]
  refine aJ (i+1,.osl q 2 0 (lG g.1++[(⟨[118]++bO i,(z.1:Nat)⟩:fI).cells]).length,_) ⟨hlt,?_⟩ (by simp only; omega) ?_ PH.le_refl
  ·rw[hstep]
   have e:lG (g.1++[⟨[118]++bO i,(z.1:Nat)⟩])=lG g.1++[(⟨[118]++bO i,(z.1:Nat)⟩:fI).cells]:=by simp[lG]
   simp only
   rw[e]
   exact h6
  ·(repeat' (first|exact PF.nil_le|refine PF.aA ?_ ?_))<;>first|(simp -implicitDefEqProofs only[go_sem,γ,reduceCtorEq]<;>rfl)|rfl
 ·have hlt':¬ (i:Int)<(n:Nat):=by omega
  have:i=n:=by omega
  subst this
  simp -implicitDefEqProofs only[go_sem,hlt']
  exact hK w6 _ _ (MG rfl rfl rfl rfl rfl) hH
def FW (l:List Nat) (v:PV) (o drives volumes a:Nat) (r:PV) (H:PH):Prop:=Co r (.agg (fC l drives volumes a).1.cells)∧H=PH.nil.set o (aS v (fC l drives volumes a).2)
structure akJ (C:Ctx):Prop extends kJ C where
 grow:∀ (l:List Nat) (v:PV),Tp l v→∀ (mc drives:Nat),0<mc→mc≤1000→drives≤60→ST C l v mc drives 4
theorem aOU {C:Ctx} (Lb:akJ C) {l:List Nat} {v:PV} (T:Tp l v) (o drives volumes a:Nat) (hdr:drives≤60) (hvo:volumes≤50) (ha:a≤l.length) :
  xN.wp C (aX HT.res (FW l v o drives volumes a)) (PF.args [.ptr o 2 0 0,.int .i64 drives,.int .i64 volumes]) (PH.nil.set o (aS v a)):=by
 have hT:fC l drives volumes a=fC l drives volumes a:=rfl
 conv at hT=>rhs; unfold fC
 dsimp only at hT
 have hR:∀ r H,FW l v o drives volumes a r H↔Co r (.agg (fC l drives volumes a).1.cells)∧H=PH.nil.set o (aS v (fC l drives volumes a).2):=fun _ _=>Iff.rfl
 have ne:=bM l (show 0<2 by decide) a
 have ae:=bC l 2 ha
 generalize he:aC l 2 a=e at *
 have nlw:=bM l (show 0<2 by decide) e.2
 have alw:=bC l 2 ae
 generalize hlw:aC l 2 e.2=lw at *
 obtain⟨alaws,llaws⟩:=CA l alw (1+lw.1)
 generalize hlaws:fJ l lw.2 (1+lw.1)=laws at *
 have nmd:=bM l (show 0<2 by decide) laws.2
 have amd:=bC l 2 alaws
 generalize hmd:aC l 2 laws.2=md at *
 obtain⟨amodels,lmodels⟩:=tE l (1+lw.1) amd (1+md.1)
 generalize hmodels:dJ l (1+lw.1) md.2 (1+md.1)=models at *
 have hG0:GOk l drives ⟨[jY],[],models.2⟩:=⟨by simp,bgE _,amodels⟩
 obtain⟨hG,-⟩:=BO (mc:=1+md.1) 4 0 hG0
 generalize hg:dV l (1+md.1) drives 4 0 ⟨[jY],[],models.2⟩=g at *
 have npl:=bM l (show 0<2 by decide) g.a
 have apl:=bC l 2 hG.a
 generalize hpl:aC l 2 g.a=pl at *
 obtain⟨apols,lpols⟩:=qC l (1+md.1) apl (1+pl.1)
 generalize hpols:cT l (1+md.1) pl.2 (1+pl.1)=pols at *
 have nvo:=bM l (show 0<volumes+1 by omega) pols.2
 have avo:=bC l (volumes+1) apols
 generalize hvo':aC l (volumes+1) pols.2=vo at *
 generalize hvols:dL l (1+pl.1) vo.2 vo.1=vols at *
 have ee:IntKind.i64.wrap (1+(e.1:Int))=((1+e.1:Nat):Int):=by rw[wrap_i64 (by omega) (by omega)]; omega
 have elw:IntKind.i64.wrap (1+(lw.1:Int))=((1+lw.1:Nat):Int):=by rw[wrap_i64 (by omega) (by omega)]; omega
 have emd:IntKind.i64.wrap (1+(md.1:Int))=((1+md.1:Nat):Int):=by rw[wrap_i64 (by omega) (by omega)]; omega
 have epl:IntKind.i64.wrap (1+(pl.1:Int))=((1+pl.1:Nat):Int):=by rw[wrap_i64 (by omega) (by omega)]; omega
 have evo:IntKind.i64.wrap ((volumes:Int)+1)=((volumes+1:Nat):Int):=aN (by omega)
 have h0:aR (PH.nil.set o (aS v a)) [(o,aS v a)] []:=aR.nil.new (H:=PH.nil) rfl (aS v a)
 simp -implicitDefEqProofs only[go_sem,δ,xN,adW,HT]
 refine aP fun o6 ho6=>?_
 have h1:=h0.new ho6 flZ
 simp -implicitDefEqProofs only[go_sem,reduceCtorEq,adX]
 refine cB Lb.topF T (o:=o) (n:=2) (a:=a) (by decide) ha rfl (h1.at 0 rfl) ?_
 have h2:=h1.set 0 rfl (aS v e.2)
 rw[he]
 simp -implicitDefEqProofs only[go_sem,δ,γ,θ,ee]
 refine aP fun o7 ho7=>?_
 have h3:=h2.new ho7 (flB (.int .i64 (1+e.1:Nat)) .nils .nils .nils .nils .nils .nils)
 simp -implicitDefEqProofs only[go_sem,δ,γ,reduceCtorEq,adY,bgD,bgL,or_false,forall_eq,forall_eq_or_imp]
 refine cB Lb.topF T (o:=o) (n:=2) (a:=e.2) (by decide) ae rfl (h3.at 0 rfl) ?_
 have h4:=h3.set 0 rfl (aS v lw.2)
 rw[hlw]
 have h5:=h4.perm (B':=FE.boxes ⟨o,o6,o7,drives,volumes⟩ v (.int .i64 (1+e.1:Nat)) .nils .nils .nils .nils .nils .nils lw.2) (L':=[]) (List.Perm.cons _ (List.Perm.swap _ _ _)) (List.Perm.refl _)
 obtain⟨E,hE⟩:∃ E:FE,E=⟨o,o6,o7,drives,volumes⟩:=⟨_,rfl⟩
 rw[← hE] at h5
 simp -implicitDefEqProofs only[go_sem,γ,elw,adZ]
 refine aUZ (C:=C) Lb.tokJ T E (1+lw.1) lw.2 (by omega) alw _ _ _ _ ?_ h5 ?_
 ·rw[hE]
  unfold eQ
  (repeat' (first|exact PF.nil_le|refine PF.aA ?_ ?_))<;>first|(simp -implicitDefEqProofs only[go_sem,γ,reduceCtorEq]<;>rfl)|rfl
 clear h5 h4 h3 h2 h1 h0 ho6 ho7
 intro w1 F1 H1 hF1 h1
 rw[hlaws] at h1
 have f0:F1 0=some (.ptr o 2 0 0):=hF1 0 _ (by rw[hE]; unfold eQ; simp -implicitDefEqProofs only[go_sem,reduceCtorEq])
 have f1:F1 1=some (.int .i64 drives):=hF1 1 _ (by rw[hE]; unfold eQ; simp -implicitDefEqProofs only[go_sem,γ,reduceCtorEq])
 have f2:F1 2=some (.int .i64 volumes):=hF1 2 _ (by rw[hE]; unfold eQ; simp -implicitDefEqProofs only[go_sem,γ,reduceCtorEq])
 have f6:F1 6=some (.ptr o6 7 0 0):=hF1 6 _ (by rw[hE]; unfold eQ; simp -implicitDefEqProofs only[go_sem,γ,reduceCtorEq])
 have f7:F1 7=some (.ptr o7 7 0 0):=hF1 7 _ (by rw[hE]; unfold eQ; simp -implicitDefEqProofs only[go_sem,γ,reduceCtorEq])
 have q0:=h1.at 0 rfl
 rw[hE] at q0
 simp -implicitDefEqProofs only[go_sem,UW,f0]
 refine cB Lb.topF T (o:=o) (n:=2) (a:=laws.2) (by decide) alaws rfl q0 ?_
 have h2:=h1.set 0 rfl (aS v md.2)
 rw[hmd]
 simp -implicitDefEqProofs only[go_sem,γ,emd,UX]
 refine aKS (C:=C) Lb.tokJ T E (1+md.1) md.2 (1+lw.1) (by omega) (by omega) amd (.int .i64 (1+e.1:Nat)) w1 laws.1 llaws _ _ _ ?_ (by rw[hE] at h2 ⊢; exact h2) ?_
 ·rw[hE]
  unfold eQ
  repeat' first|exact PF.nil_le|refine PF.aA ?_ ?_|rfl|assumption
 clear q0 h2 h1 f0 f1 f2 f6 f7 hF1
 intro w2 F2 H2 hF2 f11 h2
 rw[hmodels] at h2
 have f0:F2 0=some (.ptr o 2 0 0):=hF2 0 _ (by rw[hE]; unfold eQ; simp -implicitDefEqProofs only[go_sem,reduceCtorEq])
 have f1:F2 1=some (.int .i64 drives):=hF2 1 _ (by rw[hE]; unfold eQ; simp -implicitDefEqProofs only[go_sem,γ,reduceCtorEq])
 have f2:F2 2=some (.int .i64 volumes):=hF2 2 _ (by rw[hE]; unfold eQ; simp -implicitDefEqProofs only[go_sem,γ,reduceCtorEq])
 have f6:F2 6=some (.ptr o6 7 0 0):=hF2 6 _ (by rw[hE]; unfold eQ; simp -implicitDefEqProofs only[go_sem,γ,reduceCtorEq])
 have f7:F2 7=some (.ptr o7 7 0 0):=hF2 7 _ (by rw[hE]; unfold eQ; simp -implicitDefEqProofs only[go_sem,γ,reduceCtorEq])
 obtain⟨qm,hqm⟩:=(h2.own 1 rfl).one (by rw[bfT]; omega)
 rw[bfT,lmodels] at hqm
 subst hqm
 have h17:(1:Nat)*7≤16777216:=by decide
 simp -implicitDefEqProofs only[go_sem,ο,VC]
 refine aB (Lb.int 0 (by unfold dT; omega)) rfl ?_
 simp -implicitDefEqProofs only[go_sem,ο,υ,δ,γ,η,θ,ζ,bgD,bgL,or_false,forall_eq,forall_eq_or_imp,h17]
 refine aP fun od hod=>?_
 have h3:=h2.aLF (s:=7) (rows:=gR [jY]) hod
 have b7:=h2.at 1 rfl
 rw[hE] at b7
 have n7:¬ o7=od:=by
  have:=h3.neL 1 2 rfl rfl rfl
  rw[hE] at this; exact this
 simp -implicitDefEqProofs only[go_sem,ο,δ,γ,θ,f7,b7,n7,bgD,bgL,or_false,forall_eq]
 have h4:=(h3.set 1 rfl (flB (.int .i64 (1+e.1:Nat)) w1 (.osl qm 4 0 (1+md.1)) (.osl od 7 0 1) .nils .nils .nils)).qS 3
 rw[hE] at h4
 have h5:=h4.perm (B':=(GE.mk o o7 qm (.int .i64 (1+e.1:Nat)) w1 .nils .nils).boxes v (1+md.1) (.osl od 7 0 1) .nils models.2++[(o6,flZ)]) (L':=jM ⟨[jY],[],models.2⟩ (.osl od 7 0 1) .nils++[(w1,4,fR laws.1),(.osl qm 4 0 (1+md.1),4,gN models.1)]) (List.Perm.refl _)
  (List.perm_append_comm (l₁:=[(w1,4,fR laws.1),(.osl qm 4 0 (1+md.1),4,gN models.1)]) (l₂:=jM ⟨[jY],[],models.2⟩ (.osl od 7 0 1) .nils))
 simp -implicitDefEqProofs only[go_sem,ο,γ,reduceCtorEq,VD,f0,f1,f7]
 refine PC h5 (fun H0 hH0=>Lb.grow l v T (1+md.1) drives (by omega) (by omega) hdr (GE.mk o o7 qm (.int .i64 (1+e.1:Nat)) w1 .nils .nils) (.osl od 7 0 1) .nils ⟨[jY],[],models.2⟩ 0 jY hG0 rfl rfl H0 hH0) (by simp -implicitDefEqProofs only[go_sem,ο,γ,f0,f1,f7]; rfl) ?_
 rintro r B' L' H3 ⟨rfl,w3,w4,rfl,rfl⟩ h6
 rw[hg] at h6
 have h7:=h6.perm (B':=E.boxes v (.int .i64 (1+e.1:Nat)) w1 (.osl qm 4 0 (1+md.1)) w3 w4 .nils .nils g.a) (L':=[(w1,4,fR laws.1),(.osl qm 4 0 (1+md.1),4,gN models.1),(w3,7,gR g.doms),(w4,3,jT g.drvs)]) (by rw[hE]; exact List.Perm.refl _)
  (List.perm_append_comm (l₁:=jM g w3 w4) (l₂:=[(w1,4,fR laws.1),(.osl qm 4 0 (1+md.1),4,gN models.1)]))
 have q0:=h7.at 0 rfl
 rw[hE] at q0
 simp -implicitDefEqProofs only[go_sem,ο,reduceCtorEq,VE,f0]
 refine cB Lb.topF T (o:=o) (n:=2) (a:=g.a) (by decide) hG.a rfl q0 ?_
 have h8:=h7.set 0 rfl (aS v pl.2)
 rw[hpl]
 simp -implicitDefEqProofs only[go_sem,ο,γ,epl,VG]
 refine aqG (C:=C) Lb.tokJ T E (1+md.1) (1+pl.1) pl.2 (by omega) (by omega) (by omega) apl ((1+e.1:Nat):Int) w1 (.osl qm 4 0 (1+md.1)) w3 w4 laws.1 models.1 g.doms g.drvs _ _ _ (by rw[hE]; exact⟨by simp -implicitDefEqProofs only[go_sem,ο,reduceCtorEq,f0],by simp -implicitDefEqProofs only[go_sem,ο,γ,f1],by simp -implicitDefEqProofs only[go_sem,ο,γ,f2],by simp -implicitDefEqProofs only[go_sem,ο,γ,f6],by simp -implicitDefEqProofs only[go_sem,ο,γ,f7],by simp -implicitDefEqProofs only[go_sem,ο,γ,f11],by simp -implicitDefEqProofs only[go_sem,ο,γ],by simp -implicitDefEqProofs only[go_sem,ο,γ]; rfl⟩) (by rw[hE] at h8 ⊢; exact h8) ?_
 clear h8 h7 h6 h5 h4 h3 h2 q0 b7 f0 f1 f2 f6 f7 hF2
 intro w5 F4 H4 hF4 h1
 rw[hpols] at h1
 have f0:F4 0=some (.ptr o 2 0 0):=hF4 0 _ (by rw[hE]; unfold eQ; simp -implicitDefEqProofs only[go_sem,reduceCtorEq])
 have f1:F4 1=some (.int .i64 drives):=hF4 1 _ (by rw[hE]; unfold eQ; simp -implicitDefEqProofs only[go_sem,γ,reduceCtorEq])
 have f2:F4 2=some (.int .i64 volumes):=hF4 2 _ (by rw[hE]; unfold eQ; simp -implicitDefEqProofs only[go_sem,γ,reduceCtorEq])
 have f6:F4 6=some (.ptr o6 7 0 0):=hF4 6 _ (by rw[hE]; unfold eQ; simp -implicitDefEqProofs only[go_sem,γ,reduceCtorEq])
 have f7:F4 7=some (.ptr o7 7 0 0):=hF4 7 _ (by rw[hE]; unfold eQ; simp -implicitDefEqProofs only[go_sem,γ,reduceCtorEq])
 have q0:=h1.at 0 rfl
 rw[hE] at q0
 simp -implicitDefEqProofs only[go_sem,γ,VM,f0,f2,evo]
 refine cB Lb.topF T (o:=o) (n:=volumes+1) (a:=pols.2) (by omega) apols rfl q0 ?_
 have h2:=h1.set 0 rfl (aS v vo.2)
 rw[hvo']
 have h3:=h2.perm (B':=E.boxes v (.int .i64 (1+e.1:Nat)) w1 (.osl qm 4 0 (1+md.1)) w3 w4 w5 .nils vo.2) (L':=(w5,17,jN pols.1)::[(w1,4,fR laws.1),(.osl qm 4 0 (1+md.1),4,gN models.1),(w3,7,gR g.doms),(w4,3,jT g.drvs)]) (List.Perm.refl _)
  (List.perm_append_comm (l₁:=[(w1,4,fR laws.1),(.osl qm 4 0 (1+md.1),4,gN models.1),(w3,7,gR g.doms),(w4,3,jT g.drvs)]) (l₂:=[(w5,17,jN pols.1)]))
 simp -implicitDefEqProofs only[go_sem,γ,VN]
 refine aAR (C:=C) Lb.tokJ T E (1+pl.1) vo.1 vo.2 (by omega) (by omega) avo _ _ _ _ _ w5 pols.1 lpols _ _ _ _ ?_ (by rw[hE] at h3 ⊢; exact h3) ?_
 ·rw[hE]
  unfold eQ
  repeat' first|exact PF.nil_le|refine PF.aA ?_ ?_|rfl|assumption
 clear h3 h2 h1 q0 f0 f1 f2 f6 f7 hF4
 intro w6 F5 H5 hF5 h1
 rw[hvols] at h1
 have f6:F5 6=some (.ptr o6 7 0 0):=hF5 6 _ (by rw[hE]; unfold eQ; simp -implicitDefEqProofs only[go_sem,γ,reduceCtorEq])
 have f7:F5 7=some (.ptr o7 7 0 0):=hF5 7 _ (by rw[hE]; unfold eQ; simp -implicitDefEqProofs only[go_sem,γ,reduceCtorEq])
 rw[hE] at h1
 have b7:=h1.at 1 rfl
 have b6:=h1.at 2 rfl
 have one:∀ (x:PV),x∈[w1,w3,w4,w5,w6]→(∃ q s n,x=.osl q s 0 n)∨x=.nils:=by
  intro x hx
  have key:∀ {s:Nat} {rows:List (List PV)},bB H5 s x rows→(∃ q s n,x=.osl q s 0 n)∨x=.nils:=by
   rintro s rows (⟨_,h⟩ | ⟨q,rs,h,_⟩)
   ·exact .inr h
   ·exact .inl ⟨q,s,_,h⟩
  simp only[bgD,bgL,or_false] at hx
  rcases hx with rfl | rfl | rfl | rfl | rfl
  ·exact key (h1.own 1 rfl)
  ·exact key (h1.own 3 rfl)
  ·exact key (h1.own 4 rfl)
  ·exact key (h1.own 0 rfl)
  ·exact key (h1.own 5 rfl)
 have one':∀ (x:PV),x∈[w1,w3,w4,w5,w6]→PV.one x=true:=fun x hx=>by
  rcases one x hx with ⟨q,s,n,rfl⟩ | rfl<;>rfl
 have o1:=one' w1 (by simp)
 have o3:=one' w3 (by simp)
 have o4:=one' w4 (by simp)
 have o5:=one' w5 (by simp)
 have o6':=one' w6 (by simp)
 simp only[PV.one] at o1 o3 o4 o5 o6'
 simp -implicitDefEqProofs only[go_sem,δ,γ,VS,f6,f7,b7,b6,bgD,bgL,or_false,forall_eq,forall_eq_or_imp,o1,o3,o4,o5,o6']
 have h2:=h1.set 2 rfl (flB (.int .i64 (1+e.1:Nat)) w1 (.osl qm 4 0 (1+md.1)) w3 w4 w5 w6)
 have h3:=h2.sub (B':=[(o,aS v vols.2)]) (bhU.cons_cons _ (List.nil_sublist _)) (bhU.refl _)
 obtain⟨φ,H6,k1,k2,k3,k4⟩:=aR.giveUp _ h3 (fun x hx=>by
  simp only[List.cons_append,biR,bgD,bgL,or_false] at hx
  rcases hx with rfl | rfl | rfl | rfl | rfl | rfl
  ·exact aGY _
  ·exact aEJ _
  ·exact aEM _
  ·exact aBR _
  ·exact aBT _
  ·exact a2Z _) (fun b hb q s rs=>by
  simp only[bgD,bgL,or_false] at hb
  subst hb
  simp only[bV.frz,bhA,bhV,T.frz]
  rfl)
 refine AG (vs:=[.agg [.int .i64 (1+e.1:Nat),w1,.osl qm 4 0 (1+md.1),w3,w4,w5,w6]]) (.inr rfl) (by simp -implicitDefEqProofs only[go_sem,δ,γ,f6]) (k4 _ _ (.done (H2:=PH.nil.set o (aS v vols.2)) ?_ (PH.aA PH.nil_le (k3.at 0 rfl))))
 rw[hR,hT]
 refine⟨CoL.agg ?_,rfl⟩
 have s5:=k1 (w5,17,jN pols.1) (by simp)
 have s1:=k1 (w1,4,fR laws.1) (by simp)
 have s2:=k1 (.osl qm 4 0 (1+md.1),4,gN models.1) (by simp)
 have s3:=k1 (w3,7,gR g.doms) (by simp)
 have s4:=k1 (w4,3,jT g.drvs) (by simp)
 have s6:=k1 (w6,2,lG vols.1) (by simp)
 have s0:φ (.int .i64 (1+e.1:Nat))=.int .i64 (1+e.1:Nat):=k2 _ rfl
 show CoL [φ (.int .i64 (1+e.1:Nat)),φ w1,φ (.osl qm 4 0 (1+md.1)),φ w3,φ w4,φ w5,φ w6] _
 rw[s0]
 exact CoL.cons (.refl _) (CoL.cons s1.co (CoL.cons s2.co (CoL.cons s3.co (CoL.cons s4.co (CoL.cons s5.co (CoL.cons s6.co .nil))))))
end Go.PM
namespace Go.PM
open Go Go.Na
structure aNA (C:Ctx):Prop extends akJ C where
 new:∀ (l:List Nat),(∀ x∈l,x<256)→l.length≤9223372036854775807→aI C 28 [.sl 1 (gP l)] .nil (akL l)
 fleet:∀ (l:List Nat) (v:PV),Tp l v→∀ (o drives volumes a:Nat),drives≤60→volumes≤50→a≤l.length →
  aI C 0 [.ptr o 2 0 0,.int .i64 drives,.int .i64 volumes] (PH.nil.set o (aS v a)) (fun r H=>r=.agg (fC l drives volumes a).1.cells∧H=PH.nil.set o (aS v (fC l drives volumes a).2))
theorem FW.exact {C:Ctx} {name:Nat} {args:List PV} {H:PH} {l:List Nat} {v:PV} {o drives volumes a:Nat} (h:aI C name args H (FW l v o drives volumes a)):aI C name args H (fun r H=>r=.agg (fC l drives volumes a).1.cells∧H=PH.nil.set o (aS v (fC l drives volumes a).2)) :=
 h.post fun r H' hr=>⟨_,hr.1,rfl,hr.2⟩
theorem aOR {C:Ctx} (Lb:aNA C) (l:List Nat) (hb:∀ x∈l,x<256) (hl:l.length≤9223372036854775807) (drives volumes:Nat) (hdr:drives≤60) (hvo:volumes≤50) :
  xL.wp C (aX HR.res (bY (.agg (fC (l.take 400) drives volumes 0).1.cells))) (PF.args [.sl 1 (gP l),.int .i64 drives,.int .i64 volumes]) .nil:=by
 simp -implicitDefEqProofs only[go_sem,δ,xL,adR,HR]
 refine aP fun o6 ho6=>?_
 simp -implicitDefEqProofs only[go_sem,reduceCtorEq,adS]
 refine lE (Lb.new l hb hl) rfl PH.nil_le ?_
 rintro r H' ⟨o,v,rfl,T,rfl⟩ ha
 have hne:¬ o6=o:=by
  intro e
  subst e
  have:=ha o6 (aS v 0) (by rw[aV,if_pos rfl]) rfl
  rw[aV,if_pos rfl] at this
  cases this
 rw[PH.kP]
 simp -implicitDefEqProofs only[go_sem,γ]
 refine fS (Lb.fleet _ v T o drives volumes 0 hdr hvo (bgE _)) (by rw[aV,if_pos rfl]) rfl ?_
 simp -implicitDefEqProofs only[go_sem,δ,γ,hne]
 exact aW (vs:=[.agg (fC (l.take 400) drives volumes 0).1.cells]) (.inr rfl) .nil (by simp -implicitDefEqProofs only[go_sem,δ,γ]) PH.nil_le ⟨.refl _,rfl⟩
end Go.PM
namespace Go.PM
open Go Go.Na
theorem CoL.aLG:CoL [] []:=⟨rfl,fun j p q h=>by simp at h⟩
theorem CoL.kF {p q:PV} {ps qs:List PV} (h:Co p q) (hs:CoL ps qs):CoL (p::ps) (q::qs):=by
 refine⟨by simp[hs.len],fun j x y a b=>?_⟩
 cases j with
 | zero =>
  simp only[List.getElem?_cons_zero,biA.injEq] at a b
  subst a; subst b; exact h
 | succ j=>exact hs.at_ j x y (by simpa using a) (by simpa using b)
theorem aI.BZ {C:Ctx} {name:Nat} {R:PV→PH→Prop} {x y:PV} {s:Nat} (h:aI C name [x,y,.sl s []] .nil R):aI C name [x,y,.nils] .nil R :=
 h.args (.kF (.refl _) (.kF (.refl _) (.kF (.nil s) .aLG)))
theorem aI.seen {C:Ctx} {name:Nat} {args:List PV} {H:PH} {v:PV} (h:aI C name args H (bY v)):aI C name args H (aL v) :=
 h.post fun r H' hr=>⟨v,hr.1,rfl,hr.2⟩
structure SU (C:Ctx):Prop where
 at_:∀ f:aH,f.Ok→∀ d level:Int,aI C 147 [.agg f.cells,.int .i64 d,.int .i64 level] .nil (aL (.int .i64 (atP f d level)))
 child:∀ f:aH,f.Ok→∀ d:Int,aI C 148 [.agg f.cells,.int .i64 d] .nil (aL (ints (alD f d)))
 drives:∀ f:aH,f.Ok→∀ d:Int,aI C 149 [.agg f.cells,.int .i64 d] .nil (aL (ints (zS f d)))
 holds:∀ (f:aH) (l:List (List Int)) (room:List Int),f.Ok→iK l→aI C 150 [.agg f.cells,lay l,ints room] .nil (aL (.bool (zX f l room)))
 loads:∀ (f:aH) (l:List (List Int)),f.Ok→iK l→aI C 151 [.agg f.cells,lay l] .nil (aL (ints (apU f l)))
 room:∀ (f:aH) (room:List Int),f.Ok→aI C 152 [.agg f.cells,ints room] .nil (aL (ints (MN f room)))
 shaped:∀ (f:aH) (l:List (List Int)),f.Ok→iK l→aI C 153 [.agg f.cells,lay l] .nil (aL (.bool (abK f l)))
 viol:∀ (f:aH) (l:List (List Int)) (room:List Int),f.Ok→iK l→aI C 154 [.agg f.cells,lay l,ints room] .nil (aL (zL (fU f l room)))
 fleet:∀ (l:List Nat),(∀ x∈l,x<256)→l.length≤9223372036854775807→∀ drives volumes:Nat,drives≤60→volumes≤50 →
  aI C 27 [.sl 1 (gP l),.int .i64 drives,.int .i64 volumes] .nil (aL (.agg (fC (l.take 400) drives volumes 0).1.cells))
theorem ZQ {f:aH} {vs:List fI} (h:dE f=true) (hl:vs.length≤12) (hv:vs.all (lN f)=true) (hd:distinct (vs.map fI.name)=true):dE { f with volumes:=vs }=true:=by
 unfold dE at h ⊢
 simp only[bgP] at h ⊢
 obtain⟨⟨⟨h1,h2⟩,⟨⟨⟨h3,h4⟩,h5⟩,h6⟩,h7⟩,⟨⟨⟨h8,h9⟩,h10⟩,h11⟩,h12⟩:=h
 refine⟨⟨⟨?_,h2⟩,⟨⟨⟨h3,h4⟩,h5⟩,h6⟩,hv⟩,⟨⟨⟨h8,h9⟩,h10⟩,h11⟩,hd⟩
 unfold mK at h1 ⊢
 simp only[bgP] at h1 ⊢
 exact⟨h1.1,decide_eq_true hl⟩
theorem aAV {f:aH} {vs:List fI} (h:f.Ok) (hl:vs.length≤12) (hv:∀ x∈vs,dT x.policy):({ f with volumes:=vs }:aH).Ok :=
 ⟨h.laws,h.models,h.domains,h.drives,h.policies,show vs.length≤_ by omega,h.law,h.dom,h.drive,h.policy,hv⟩
noncomputable def kA:aH:={ (fC [] 1 0 0).1 with volumes:=[⟨[118,48],0⟩] }
theorem qF:dE kA=true:=ZQ (mG [] 1 0 0 (by decide) (by decide)).1 (by decide) (by decide +kernel) (by decide +kernel)
theorem wF:kA.Ok:=aAV (mG [] 1 0 0 (by decide) (by decide)).2 (by decide) (fun x hx=>by
 rw[List.mem_singleton] at hx
 subst hx
 unfold dT
 decide)
theorem aOP {C:Ctx} (L:SU C):xK.wp C (aX HQ.res (aL (.agg kA.cells))) (PF.args []) .nil:=by
 simp -implicitDefEqProofs only[go_sem,δ,xK,adN,HQ]
 refine aP fun o0 h0=>?_
 simp -implicitDefEqProofs only[go_sem,adO]
 have h:=L.fleet [] (fun x hx=>by cases hx) (by decide) 1 0 (by decide) (by decide)
 refine aB (h.args (.kF (.nil 1) (.kF (.refl _) (.kF (.refl _) .aLG)))) rfl ?_
 simp -implicitDefEqProofs only[go_sem,δ]
 refine aP fun o1 h1=>?_
 have n1:¬ o0=o1:=by
  intro e
  subst e
  rw[aV,if_pos rfl] at h1
  cases h1
 have n2:¬ o1=o0:=fun e=>n1 e.symm
 simp -implicitDefEqProofs only[go_sem,δ,γ,reduceCtorEq,n1,n2]
 have h12:(1:Nat)*2≤16777216:=by decide
 simp -implicitDefEqProofs only[go_sem,υ,δ,γ,η,θ,ζ,reduceCtorEq,adP,h12,n1,n2,bgD,bgL,or_false,forall_eq,adQ]
 refine bZ (.inr rfl) (vs:=[.agg kA.cells]) ?_ rfl
 simp -implicitDefEqProofs only[go_sem,δ,reduceCtorEq,n1,n2]
 rfl
theorem aWK:atP kA 0 4=4:=by
 unfold atP
 rw[if_pos ⟨qF,by decide,by decide +kernel,by decide,by decide⟩]
 decide +kernel
theorem auX:zS kA 0=[0]:=by
 unfold zS
 rw[if_pos ⟨qF,by decide,by decide +kernel⟩]
 decide +kernel
theorem aMB:(fU kA [[-1]] []).map eN.cells=[[.int .i64 2,.int .i64 0,.int .i64 0]]:=by
 unfold fU
 rw[if_pos qF,if_pos (by decide +kernel)]
 rfl
theorem aBA:zX kA [[0]] []=true:=by
 unfold zX fU
 rw[qF,if_pos rfl,if_pos (by decide +kernel)]
 decide +kernel
def AD:aH:=⟨0,[],[],[],[],[],[]⟩
theorem aLN:AD.Ok:=⟨by decide,by decide,by decide,by decide,by decide,by decide,(fun _ h=>by cases h),(fun _ h=>by cases h),(fun _ h=>by cases h),(fun _ h=>by cases h),(fun _ h=>by cases h)⟩
theorem ajM:zX AD [] []=false:=rfl
theorem aLM:Co (.agg [.int .i64 0,.nils,.nils,.nils,.nils,.nils,.nils]) (.agg AD.cells):=by
 have:CoL [.int .i64 0,.nils,.nils,.nils,.nils,.nils,.nils] AD.cells :=
  .kF (.refl _) (.kF (.nil _) (.kF (.nil _) (.kF (.nil _) (.kF (.nil _) (.kF (.nil _) (.kF (.nil _) .aLG))))))
 exact .agg this.len this.at_
theorem xG {l:List (List Int)} (h:l.length≤16777216) (h2:l.flatten.length≤16777216):iK l:=⟨h,h2⟩
theorem aOF {C:Ctx} (L:SU C) (hs:aI C 23 [] .nil (aL (.agg kA.cells))):xF.wp C (aX HL.res (aL (.bool true))) (PF.args []) .nil:=by
 simp -implicitDefEqProofs only[go_sem,xF,acV,acW,HL]
 refine aB hs rfl ?_
 simp -implicitDefEqProofs only[go_sem,δ]
 refine aP fun o1 h1=>?_
 have h12:(1:Nat)*1≤16777216:=by decide
 have hv:=L.viol kA [[-1]] [] wF (xG (by decide) (by decide))
 have hh:=L.holds kA [[0]] [] wF (xG (by decide) (by decide))
 have hn:=L.holds AD [] [] aLN (xG (by decide) (by decide))
 rw[aBA] at hh
 rw[ajM] at hn
 rw[show zL (fU kA [[-1]] [])=.sl 3 [[.int .i64 2,.int .i64 0,.int .i64 0]] from by unfold zL; rw[aMB]] at hv
 simp -implicitDefEqProofs only[go_sem,ο,υ,δ,γ,η,ζ,reduceCtorEq,acX,h12]
 refine aB hv.BZ rfl ?_
 have c1:(((1:Nat):Int)==1)=true:=rfl
 have ha:=L.at_ kA wF 0 4
 rw[aWK] at ha
 have hd:=L.drives kA wF 0
 rw[auX] at hd
 simp -implicitDefEqProofs only[go_sem,ο,δ,γ,reduceCtorEq,acY]
 refine aB ha rfl ?_
 simp -implicitDefEqProofs only[go_sem,ρ,ο,δ,γ,reduceCtorEq]
 refine aB hd rfl ?_
 simp -implicitDefEqProofs only[go_sem,ρ,ο,ν,υ,δ,γ,η,θ,ζ,reduceCtorEq,h12,c1]
 refine aB hh.BZ rfl ?_
 simp -implicitDefEqProofs only[go_sem,ο,γ,reduceCtorEq]
 refine aB (hn.args (.kF aLM (.kF (.nil 1) (.kF (.nil 1) .aLG)))) rfl ?_
 simp -implicitDefEqProofs only[go_sem,ο,γ,reduceCtorEq]
 refine bZ (.inr rfl) rfl ?_
 rfl
end Go.PM
namespace Go.PM
open Go
def aiO:Rg:=[iA 4 (.mv (.const .nils))]
def aiP:Rg:=[iA 5 (.mv (.const .nils))]
def aiQ:Rg:=[iA 6 (.mv (.const (.int .u64 0)))]
def aiR:Rg:=[iI 7 0]
def aiS:Rg:=[iM 10 7,iM 11 0,iN 12 11,iB 13 .lss 10 12]
def aiT:Rg:=[iM 16 6,iM 8 16]
def aiU:Rg:=[iM 17 7,iM 18 1,iN 19 18,iB 20 .lss 17 19]
def aiV:Rg:=[iM 21 8,iM 22 1,iM 23 7,iX 24 1 22 23,iL 25 24,iA 26 (.conv .u64 (Tm 25)),iB 27 .add 21 26,iM 8 27]
def KU:Rg:=[iM 28 0,iM 29 7,iX 30 1 28 29,iL 31 30,iA 32 (.conv .u64 (Tm 31)),iM 9 32]
def KV:Rg:=[iA 6 (.mv (.const (.int .u64 0)))]
def ER:Rg:=[iM 33 9,iM 34 8,iB 35 .lss 33 34]
def ES:Rg:=[iM 36 9,iA 37 (.bin .add (Tm 36) (.const (.int .u64 4294967296))),iM 9 37]
def ET:Rg:=[iA 6 (.mv (.const (.int .u64 1)))]
def tL:Rg:=[iM 38 5,iM 39 9,iM 40 8,iB 41 .sub 39 40,iA 42 (.conv .u32 (Tm 41)),iA 43 (.bslice true 1 1 [(.int .u32 0)] [(0,(Tm 42))]),iA 44 (.append 1 4 (Tm 38) (Tm 43)),iM 5 44]
def tM:Rg:=[iM 14 7,iC 15 .add 14 1,iM 7 15]
def YO:aD:=(.seq (.seq (.region aiS) (.cond (Tm 13) .skip (.exit 0))) (.seq (.block 1 (.seq (.region aiT) (.seq (.seq (.region aiU) (.cond (Tm 20) (.region aiV) .skip)) (.seq (.region KU) (.seq (.region KV) (.seq (.seq (.region ER) (.cond (Tm 35) (.seq (.region ES) (.region ET)) .skip)) (.region tL))))))) (.region tM)))
def YP:Rg:=[iM 45 5,iA 46 (.call 38 [(Tm 45)]),iM 4 46]
def zJ:aD:=(.seq (.region aiO) (.seq (.region aiP) (.seq (.region aiQ) (.seq (.seq (.region aiR) (.block 0 (.loop YO))) (.seq (.region YP) .ret)))))
def aSB:List Nat:=[43]
def KT:bG:=⟨2,47,zJ,[.tmp 4]⟩
def axQ:Rg:=[iA 4 (.mv (.const .nils))]
def axR:Rg:=[iA 5 (.mv (.const .nils))]
def axS:Rg:=[iA 6 (.mv (.const (.int .u64 0)))]
def axT:Rg:=[iI 7 0]
def axU:Rg:=[iM 9 7,iM 10 0,iN 11 10,iB 12 .lss 9 11,iM 13 12,iG 14 (.mv (Tm 7)) 13 false,iG 15 (.mv (Tm 1)) 13 false,iG 16 (.len (Tm 15)) 13 false,iG 17 (.bin .lss (Tm 14) (Tm 16)) 13 false,iA 18 (.pick (Tm 13) (.const (.bool true)) (Tm 17)),iM 19 18,iG 20 (.mv (Tm 6)) 19 false,iG 21 (.bin .gtr (Tm 20) (.const (.int .u64 0))) 19 false,iA 22 (.pick (Tm 19) (.const (.bool true)) (Tm 21))]
def SK:Rg:=[iM 25 6,iM 8 25]
def SL:Rg:=[iM 26 7,iM 27 0,iN 28 27,iB 29 .lss 26 28]
def SM:Rg:=[iM 30 8,iM 31 0,iM 32 7,iX 33 1 31 32,iL 34 33,iA 35 (.conv .u64 (Tm 34)),iB 36 .add 30 35,iM 8 36]
def EV:Rg:=[iM 37 7,iM 38 1,iN 39 38,iB 40 .lss 37 39]
def EW:Rg:=[iM 41 8,iM 42 1,iM 43 7,iX 44 1 42 43,iL 45 44,iA 46 (.conv .u64 (Tm 45)),iB 47 .add 41 46,iM 8 47]
def wS:Rg:=[iM 48 5,iM 49 8,iA 50 (.conv .u32 (Tm 49)),iA 51 (.bslice true 1 1 [(.int .u32 0)] [(0,(Tm 50))]),iA 52 (.append 1 4 (Tm 48) (Tm 51)),iM 5 52]
def wT:Rg:=[iM 53 8,iA 54 (.bin .shr (Tm 53) (.const (.int .u64 32))),iM 6 54]
def wU:Rg:=[iM 23 7,iC 24 .add 23 1,iM 7 24]
def aiW:aD:=(.seq (.seq (.region axU) (.cond (Tm 22) .skip (.exit 0))) (.seq (.block 1 (.seq (.region SK) (.seq (.seq (.region SL) (.cond (Tm 29) (.region SM) .skip)) (.seq (.seq (.region EV) (.cond (Tm 40) (.region EW) .skip)) (.seq (.region wS) (.region wT)))))) (.region wU)))
def KX:Rg:=[iM 55 5,iA 56 (.call 38 [(Tm 55)]),iM 4 56]
def EU:aD:=(.seq (.region axQ) (.seq (.region axR) (.seq (.region axS) (.seq (.seq (.region axT) (.block 0 (.loop aiW))) (.seq (.region KX) .ret)))))
def aXN:List Nat:=[51]
def YS:bG:=⟨2,57,EU,[.tmp 4]⟩
def aiX:Rg:=[iA 4 (.mv (.const .nils))]
def aiY:Rg:=[iM 10 0,iN 11 10,iM 12 1,iN 13 12,iB 14 .add 11 13,iA 15 (.mkslice 1 4 [(.int .u32 0)] (Tm 14) (Tm 14)),iM 5 15]
def aiZ:Rg:=[iI 6 0]
def ajA:Rg:=[iM 16 6,iM 17 0,iN 18 17,iB 19 .lss 16 18]
def LC:Rg:=[iA 7 (.mv (.const (.int .u64 0)))]
def LD:Rg:=[iI 8 0]
def ajB:Rg:=[iM 22 8,iM 23 1,iN 24 23,iB 25 .lss 22 24]
def ajC:Rd:=[(iM 28 0,false),(iM 29 6,false),(iX 30 1 28 29,false),(iL 31 30,false),(iA 32 (.conv .u64 (Tm 31)),false),(iM 33 1,false),(iM 34 8,false),(iX 35 1 33 34,false),(iL 36 35,false),(iA 37 (.conv .u64 (Tm 36)),false),(iB 38 .mul 32 37,false),(iM 39 5,false),(iM 40 6,false),(iM 41 8,false),(iB 42 .add 40 41,false),(iX 43 1 39 42,false),(iL 44 43,false),(iA 45 (.conv .u64 (Tm 44)),false),(iB 46 .add 38 45,false),(iM 47 7,false),(iB 48 .add 46 47,false),(iM 9 48,false)]
def ajD:Rg:=[iM 49 5,iM 50 6,iM 51 8,iB 52 .add 50 51,iM 53 9,iA 54 (.conv .u32 (Tm 53)),iX 55 1 49 52,iS 1 55 54]
def ajE:Rg:=[iM 56 9,iA 57 (.bin .shr (Tm 56) (.const (.int .u64 32))),iM 7 57]
def YU:Rg:=[iM 26 8,iC 27 .add 26 1,iM 8 27]
def EX:aD:=(.seq (.seq (.region ajB) (.cond (Tm 25) .skip (.exit 2))) (.seq (.block 3 (.seq (.draw ajC) (.seq (.region ajD) (.region ajE)))) (.region YU)))
def EY:Rg:=[iM 58 5,iM 59 6,iM 60 1,iN 61 60,iB 62 .add 59 61,iM 63 7,iA 64 (.conv .u32 (Tm 63)),iX 65 1 58 62,iS 1 65 64]
def YV:Rg:=[iM 20 6,iC 21 .add 20 1,iM 6 21]
def YT:aD:=(.seq (.seq (.region ajA) (.cond (Tm 19) .skip (.exit 0))) (.seq (.block 1 (.seq (.region LC) (.seq (.seq (.region LD) (.block 2 (.loop EX))) (.region EY)))) (.region YV)))
def YW:Rg:=[iM 66 5,iA 67 (.call 38 [(Tm 66)]),iM 4 67]
def zK:aD:=(.seq (.region aiX) (.seq (.region aiY) (.seq (.seq (.region aiZ) (.block 0 (.loop YT))) (.seq (.region YW) .ret))))
def aSF:List Nat:=[]
def KZ:bG:=⟨2,68,zK,[.tmp 4]⟩
def a1S:Rg:=[iA 4 (.mv (.const .nils)),iI 5 0]
def a1T:Rg:=[iM 7 0,iA 8 (.call 41 [(Tm 7)]),iM 9 8,iG 10 (.mv (Tm 1)) 9 false,iG 11 (.call 41 [(Tm 10)]) 9 false,iA 12 (.pick (Tm 9) (.const (.bool true)) (Tm 11))]
def a1U:Rg:=[iA 4 (.mv (.const .nils)),iI 5 2]
def a1V:Rg:=[iM 13 0,iA 14 (.call 38 [(Tm 13)]),iM 15 1,iA 16 (.call 38 [(Tm 15)]),iA 17 (.call 43 [(Tm 14),(Tm 16)]),iM 6 17]
def a1W:Rg:=[iM 18 6,iA 19 (.call 41 [(Tm 18)])]
def a1X:Rg:=[iA 4 (.mv (.const .nils)),iI 5 2]
def a1Y:Rg:=[iM 20 6,iM 4 20,iI 5 0]
def aRV:aD:=(.seq (.region a1S) (.seq (.seq (.region a1T) (.cond (Tm 12) (.seq (.region a1U) .ret) .skip)) (.seq (.region a1V) (.seq (.seq (.region a1W) (.cond (Tm 19) (.seq (.region a1X) .ret) .skip)) (.seq (.region a1Y) .ret)))))
def a1Z:List Nat:=[]
def aWY:bG:=⟨2,21,aRV,[.tmp 4,.tmp 5]⟩
def a2Q:Rg:=[iA 4 (.mv (.const .nils)),iI 5 0]
def a2R:Rg:=[iM 6 0,iA 7 (.call 41 [(Tm 6)]),iM 8 7,iG 9 (.mv (Tm 1)) 8 false,iG 10 (.call 41 [(Tm 9)]) 8 false,iA 11 (.pick (Tm 8) (.const (.bool true)) (Tm 10))]
def a2S:Rg:=[iA 4 (.mv (.const .nils)),iI 5 2]
def a2T:Rg:=[iM 12 0,iM 13 1,iA 14 (.call 32 [(Tm 12),(Tm 13)]),iC 15 .lss 14 0]
def a2U:Rg:=[iA 4 (.mv (.const .nils)),iI 5 4]
def a2V:Rg:=[iM 16 0,iA 17 (.call 38 [(Tm 16)]),iM 18 1,iA 19 (.call 38 [(Tm 18)]),iA 20 (.call 42 [(Tm 17),(Tm 19)]),iM 4 20,iI 5 0]
def aSD:aD:=(.seq (.region a2Q) (.seq (.seq (.region a2R) (.cond (Tm 11) (.seq (.region a2S) .ret) .skip)) (.seq (.seq (.region a2T) (.cond (Tm 15) (.seq (.region a2U) .ret) .skip)) (.seq (.region a2V) .ret))))
def a2W:List Nat:=[]
def aXP:bG:=⟨2,21,aSD,[.tmp 4,.tmp 5]⟩
def a2G:Rg:=[iA 4 (.mv (.const .nils)),iI 5 0]
def a2H:Rg:=[iM 7 0,iA 8 (.call 41 [(Tm 7)]),iM 9 8,iG 10 (.mv (Tm 1)) 9 false,iG 11 (.call 41 [(Tm 10)]) 9 false,iA 12 (.pick (Tm 9) (.const (.bool true)) (Tm 11))]
def a2I:Rg:=[iA 4 (.mv (.const .nils)),iI 5 2]
def a2J:Rg:=[iM 13 0,iA 14 (.call 38 [(Tm 13)]),iM 15 1,iA 16 (.call 38 [(Tm 15)]),iA 17 (.call 44 [(Tm 14),(Tm 16)]),iM 6 17]
def a2K:Rg:=[iM 18 6,iA 19 (.call 41 [(Tm 18)])]
def a2L:Rg:=[iA 4 (.mv (.const .nils)),iI 5 2]
def a2M:Rg:=[iM 20 6,iM 4 20,iI 5 0]
def aSC:aD:=(.seq (.region a2G) (.seq (.seq (.region a2H) (.cond (Tm 12) (.seq (.region a2I) .ret) .skip)) (.seq (.region a2J) (.seq (.seq (.region a2K) (.cond (Tm 19) (.seq (.region a2L) .ret) .skip)) (.seq (.region a2M) .ret)))))
def a2N:List Nat:=[]
def aXH:bG:=⟨2,21,aSC,[.tmp 4,.tmp 5]⟩
def awO:Rg:=[iI 2 0]
def awP:Rg:=[iM 5 0,iA 6 (.call 38 [(Tm 5)]),iM 0 6]
def awQ:Rg:=[iM 7 0,iN 8 7,iC 9 .eql 8 0]
def awR:Rg:=[iI 2 0]
def awS:Rg:=[iM 10 0,iN 11 10,iC 12 .sub 11 1,iA 13 (.bin .mul (Ci 32) (Tm 12)),iM 3 13]
def awT:Rg:=[iM 14 0,iM 15 0,iN 16 15,iC 17 .sub 16 1,iX 18 1 14 17,iL 19 18,iM 4 19]
def awU:Rg:=[iM 20 4,iA 21 (.bin .gtr (Tm 20) (.const (.int .u32 0)))]
def awV:Rg:=[iM 24 3,iC 25 .add 24 1,iM 3 25]
def awW:Rg:=[iM 22 4,iA 23 (.bin .quo (Tm 22) (.const (.int .u32 2))),iM 4 23]
def awN:aD:=(.seq (.seq (.region awU) (.cond (Tm 21) .skip (.exit 0))) (.seq (.block 1 (.region awV)) (.region awW)))
def aiJ:Rg:=[iM 26 3,iM 2 26]
def EL:aD:=(.seq (.region awO) (.seq (.region awP) (.seq (.seq (.region awQ) (.cond (Tm 9) (.seq (.region awR) .ret) .skip)) (.seq (.region awS) (.seq (.seq (.region awT) (.block 0 (.loop awN))) (.seq (.region aiJ) .ret))))))
def aXA:List Nat:=[]
def YE:bG:=⟨1,27,EL,[.tmp 2]⟩
def aSG:Rg:=[iA 4 (.mv (.const .nils))]
def aSH:Rg:=[iM 9 0,iN 10 9,iC 11 .eql 10 0]
def aSI:Rg:=[iA 4 (.mv (.const .nils))]
def aSJ:Rg:=[iM 12 1,iC 13 .quo 12 32,iA 14 (.mkslice 1 4 [(.int .u32 0)] (Tm 13) (Tm 13)),iM 5 14]
def aSK:Rg:=[iA 6 (.mv (.const (.int .u64 0)))]
def aSL:Rg:=[iI 7 0]
def aSM:Rg:=[iM 15 7,iM 16 0,iN 17 16,iB 18 .lss 15 17]
def aSN:Rg:=[iM 21 0,iM 22 7,iX 23 1 21 22,iL 24 23,iA 25 (.conv .u64 (Tm 24)),iM 26 1,iC 27 .rem 26 32,iA 28 (.conv .u64 (Tm 27)),iB 29 .shl 25 28,iM 30 6,iB 31 .or 29 30,iM 8 31]
def aSO:Rg:=[iM 32 5,iM 33 8,iA 34 (.conv .u32 (Tm 33)),iA 35 (.bslice true 1 1 [(.int .u32 0)] [(0,(Tm 34))]),iA 36 (.append 1 4 (Tm 32) (Tm 35)),iM 5 36]
def aSP:Rg:=[iM 37 8,iA 38 (.bin .shr (Tm 37) (.const (.int .u64 32))),iM 6 38]
def aID:Rg:=[iM 19 7,iC 20 .add 19 1,iM 7 20]
def aIC:aD:=(.seq (.seq (.region aSM) (.cond (Tm 18) .skip (.exit 0))) (.seq (.block 1 (.seq (.region aSN) (.seq (.region aSO) (.region aSP)))) (.region aID)))
def aIE:Rg:=[iM 39 5,iM 40 6,iA 41 (.conv .u32 (Tm 40)),iA 42 (.bslice true 1 1 [(.int .u32 0)] [(0,(Tm 41))]),iA 43 (.append 1 4 (Tm 39) (Tm 42)),iA 44 (.call 38 [(Tm 43)]),iM 4 44]
def SO:aD:=(.seq (.region aSG) (.seq (.seq (.region aSH) (.cond (Tm 11) (.seq (.region aSI) .ret) .skip)) (.seq (.region aSJ) (.seq (.region aSK) (.seq (.seq (.region aSL) (.block 0 (.loop aIC))) (.seq (.region aIE) .ret))))))
def a4V:List Nat:=[35,42]
def uup:bG:=⟨2,45,SO,[.tmp 4]⟩
def axD:Rg:=[iA 4 (.mv (.const .nils))]
def axE:Rg:=[iM 8 1,iC 9 .quo 8 32,iM 10 0,iN 11 10,iB 12 .geq 9 11]
def axF:Rg:=[iA 4 (.mv (.const .nils))]
def axG:Rg:=[iA 5 (.mv (.const .nils))]
def axH:Rg:=[iM 13 1,iC 14 .quo 13 32,iM 6 14]
def axI:Rg:=[iM 15 6,iM 16 0,iN 17 16,iB 18 .lss 15 17]
def axJ:Rg:=[iM 21 0,iM 22 6,iX 23 1 21 22,iL 24 23,iA 25 (.conv .u64 (Tm 24)),iM 7 25]
def axK:Rg:=[iM 26 6,iC 27 .add 26 1,iM 28 0,iN 29 28,iB 30 .lss 27 29]
def axL:Rg:=[iM 31 7,iM 32 0,iM 33 6,iC 34 .add 33 1,iX 35 1 32 34,iL 36 35,iA 37 (.conv .u64 (Tm 36)),iA 38 (.bin .shl (Tm 37) (.const (.int .u64 32))),iB 39 .or 31 38,iM 7 39]
def SJ:Rg:=[iM 40 5,iM 41 7,iM 42 1,iC 43 .rem 42 32,iA 44 (.conv .u64 (Tm 43)),iB 45 .shr 41 44,iA 46 (.conv .u32 (Tm 45)),iA 47 (.bslice true 1 1 [(.int .u32 0)] [(0,(Tm 46))]),iA 48 (.append 1 4 (Tm 40) (Tm 47)),iM 5 48]
def KP:Rg:=[iM 19 6,iC 20 .add 19 1,iM 6 20]
def aiK:aD:=(.seq (.seq (.region axI) (.cond (Tm 18) .skip (.exit 0))) (.seq (.block 1 (.seq (.region axJ) (.seq (.seq (.region axK) (.cond (Tm 30) (.region axL) .skip)) (.region SJ)))) (.region KP)))
def aiL:Rg:=[iM 49 5,iA 50 (.call 38 [(Tm 49)]),iM 4 50]
def EP:aD:=(.seq (.region axD) (.seq (.seq (.region axE) (.cond (Tm 12) (.seq (.region axF) .ret) .skip)) (.seq (.region axG) (.seq (.seq (.region axH) (.block 0 (.loop aiK))) (.seq (.region aiL) .ret)))))
def aXE:List Nat:=[47]
def YM:bG:=⟨2,51,EP,[.tmp 4]⟩
end Go.PM
