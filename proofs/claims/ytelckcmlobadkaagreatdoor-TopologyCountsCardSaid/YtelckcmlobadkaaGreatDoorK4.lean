/-
  Texts of ours, joined: ToW2 ToW3 ToW4 ToW5 ToW6 ToW7 ToW8 ToW9 ToW10 MkCode MkW1 Pm35 Pm36 MkW2 MkW3 MkW4 MkW5 MkW6 MkW7 MkW8 MkW9 MkW10 MkW11 MkW12 MkW13 MkW14 MkW15 MkW16 L11W1 R2Code. No condition.
-/
import Derived.Test.YtelckcmlobadkaaGreatDoorK1
import Derived.Test.YtelckcmlobadkaaGreatDoorK2
import Derived.Test.YtelckcmlobadkaaGreatDoorK3

set_option linter.unusedSimpArgs false
set_option linter.unusedVariables false
open Nat renaming reduceEqDiff → γ, reduceAdd → δ, reduceSub → ε, reduceMul → ζ, reduceLT → η, reduceLeDiff → θ, reduceBEq → τ
open Int renaming reduceLT → ι, reduceLE → κ, reduceEq → μ, reduceToNat → ν, reduceAdd → ξ, reduceNeg → ο, reduceBEq → ρ, reduceBNe → σ
open List renaming reduceReplicate → υ
open List renaming length_map → bgT, replicate → bgV, length_append → bgW, getElem_mem → bgY, length_singleton → bhA, range → bhB, mem_cons → bhF, getElem?_eq_getElem → bhH, take_of_length_le → bhI, length_take → bhJ, not_mem_nil → bhM, getD_eq_getElem?_getD → bhQ, drop_zero → bhV, all_eq_true → bhW, append_assoc → bhY, take_length → bhZ, mem_map → biA, map_cons → biC, getElem?_eq_none → biE, getElem?_eq_some_iff → biG, getElem?_map → biH, getElem_map → biI, getElem_of_mem → biL, mem_range → biM, append_nil → biN, mem_append → biO, drop_eq_getElem_cons → biQ, length_drop → biR, map_append → biS, Sublist → biU, map_nil → biV, take_succ_eq_append_getElem → biZ, length_nil → bjB, length_set → bjC, take_append_drop → bjE, ext_getElem → bjH, mem_of_getElem? → bjI, length_cons → bjJ, nodup_append → bjK, getElem?_take → bjO, getElem?_append_left → bjQ, set_append_right → bjR, getElem?_append_right → bjU, drop_of_length_le → bkA
open Nat renaming gcd → bgU, le_refl → bgX, mul_add → bhD, zero_le → bhE, lt_or_ge → bhK, mul_assoc → bhL, mul_comm → bhR, zero_add → bhS, add_mul → bhT, mul_le_mul_right → bhU, mod_eq_of_lt → bhX, mod_lt → biB, pow_succ → biJ, add_zero → biP, min_eq_left → biT, add_assoc → biW, mul_le_mul_left → biX, eq_zero_or_pos → bjA, pos_of_ne_zero → bjF, pow_pos → bjG, div_lt_iff_lt_mul → bjL, le_trans → bjM, div_le_self → bjS, div_add_mod → bjV, div_eq_of_lt → bjW
open Option renaming map_eq_some_iff → bgZ, map_some → biD, some → biY, getD_some → bjP, bind_eq_some_iff → bjX, bind_some → bkB
open Bool renaming not_true → bhC, false_and → bhG, not_false → bhN, and_eq_true → bhO, true_and → bhP, and_false → biF, and_true → bjD, false_eq_true → bjZ
open Array renaming replicate → biK, length_toList → bjN, getElem?_eq_getElem → bjY, getElem?_eq_some_iff → bkC
open Int renaming toNat_natCast → bjT
namespace Go.PM
open Go Go.Na
def pick (n:Nat) (p:Nat→Bool):List Int:=((bhB n).filter p).map fun (i:Nat)=>(i:Int)
theorem agS (n:Nat) (p:Nat→Bool):pick (n+1) p=if p n then pick n p++[(n:Int)] else pick n p:=by
 unfold pick
 rw[List.range_succ,List.filter_append,biS]
 by_cases h:p n
 ·rw[if_pos h]; simp[h]
 ·rw[if_neg h]; simp[h]
theorem avN (n:Nat) (p:Nat→Bool):(pick n p).length≤n:=by
 unfold pick
 rw[bgT]
 exact bjM (List.length_filter_le _ _) (by simp)
theorem WB (l:List Int) (x:Int):cL l++[[.int .i64 x]]=cL (l++[x]):=by unfold cL; rw[biS]; rfl
theorem eD (l:List Int):(cL l).length=l.length:=by unfold cL; rw[bgT]
theorem BJ {t:Nat} {H:PH} {v:PV} {l:List Int} {F:PF} (h:bB H 1 v (cL l)) (ht:F t=some v):aY [.tmp t] (bY (ints l)) .ret F H:=nF (.inr rfl) h ht
theorem kV {t:Nat} {H:PH} {F:PF} (ht:F t=some .nils):aY [.tmp t] (bY (ints [])) .ret F H:=nF (rows:=[]) (.inr rfl) .nil ht
def AU (f:aG) (dom:Int):List Int :=
 if cU f∧0≤dom∧dom<f.domains.length then pick f.drives.length fun d=>decide ((fO f d (lvl f dom.toNat):Nat)=dom.toNat) else []
def tdF (f:aG) (dom:Nat) (v:PV) (k:Nat):PF:=(((((PF.nil.set 1 (.int .i64 dom)).set 2 (.rptr f.cells)).set 5 (v)).set 24 (.int .i64 (f.drives.length:Nat))).set 25 (.int .i64 k))
def toS (f:aG):Spec:=fun name vs=>match name,vs with
 | 155,[_,.int _ d,.int _ l]=>some ([],fun _=>aL (.int .i64 (fO f d.toNat l:Nat)))
 | 156,[_,.int _ v]=>some ([],fun _=>aL (.int .i64 (fR f v.toNat)))
 | _,_=>none
theorem aSB (f:aG) (d:Nat) (l:Int):toS f 155 [.agg f.cells,.int .i64 d,.int .i64 l]=some ([],fun _=>aL (.int .i64 (fO f d l:Nat))):=rfl
theorem aXE (f:aG) (v:Nat):toS f 156 [.agg f.cells,.int .i64 v]=some ([],fun _=>aL (.int .i64 (fR f v))):=rfl
theorem aMJ {C:Ctx} (L:MI C) (f:aG) (hf:f.Ok) (dom:Int) :
  wB.wp C (aY BP.res (bY (ints (AU f dom)))) (PF.args [.agg f.cells,.int .i64 dom]) .nil:=by
 simp -implicitDefEqProofs only[go_sem,δ,γ,wB,ZH,ZI,ZJ,BP]
 refine aB (L.valid f hf) rfl ?_
 unfold AU
 cases hv:cU f with
 | false =>
  simp -implicitDefEqProofs only[go_sem,γ,reduceCtorEq,bhN,uA,]
  rw[if_neg (by simp)]
  exact kV rfl
 | true =>
  have hV:=VF.of hv
  by_cases c1:dom<0
  ·simp -implicitDefEqProofs only[go_sem,γ,reduceCtorEq,bhC,c1,uA]
   rw[if_neg (by omega)]
   exact kV rfl
  ·by_cases c2:dom≥(f.domains.length:Nat)
   ·simp -implicitDefEqProofs only[go_sem,δ,γ,θ,reduceCtorEq,bhC,c1,bgT,c2,uA]
    rw[if_neg (by omega)]
    exact kV rfl
   ·obtain⟨n,rfl⟩:∃ n:Nat,dom=n:=⟨dom.toNat,by omega⟩
    have hn:n<f.domains.length:=by omega
    have hd24:=hV.small.drives
    simp -implicitDefEqProofs only[go_sem,δ,γ,θ,reduceCtorEq,bhC,c1,bgT,c2,ZK]
    rw[if_pos (by omega)]
    generalize hp:(fun d=>decide ((fO f d (lvl f n):Nat)=n))=p
    refine wp_loop (α:=Nat × PV × PH) (fun t=>tdF f n t.2.1 t.1) (fun t=>t.2.2) (fun t=>t.1≤f.drives.length∧bB t.2.2 1 t.2.1 (cL (pick t.1 p))) (fun t=>f.drives.length-t.1) (0,.nils,.nil) ⟨bhE _,.nil⟩ ?_ PH.nil_le ?_
    ·unfold tdF
     (repeat' (first|exact PF.nil_le|refine PF.aA ?_ ?_))<;>first|(simp -implicitDefEqProofs only[go_sem,γ,bgT]<;>rfl)|rfl
    rintro⟨k,v,H0⟩ ⟨hk,hO⟩
    simp only at hk hO ⊢
    simp -implicitDefEqProofs only[go_sem,γ,QF,ZL,tdF]
    by_cases hlt:k<f.drives.length
    ·have hlt':(k:Int)<(f.drives.length:Nat):=by omega
     have hl04:0≤lvl f n∧lvl f n≤4:=by
      rcases bjA n with e | e
      ·rw[e,hV.root.2.1]; decide
      ·have:=hV.dom n e hn; omega
     simp -implicitDefEqProofs only[go_sem,γ,hlt',ZM]
     refine cA .nil (toS f) PH.nil_le ?_
     simp -implicitDefEqProofs only[go_sem,δ,γ,θ,ZN,mV hn,arL hn]
     refine cO (aSB f k (lvl f n)) (L.lY f k (lvl f n) hV hlt hl04.1 hl04.2) rfl PH.nil_le ?_
     have hpk:p k=decide ((fO f k (lvl f n):Nat)=n):=by rw[← hp]
     have hsucc:=agS k p
     by_cases c:fO f k (lvl f n)=n
     ·rw[if_pos (by rw[hpk]; simp[c])] at hsucc
      have c':(((fO f k (lvl f n):Nat):Int)==(n:Int))=true:=bS (by omega)
      simp -implicitDefEqProofs only[go_sem,υ,γ,η,θ,ζ,c',ZO]
      refine fC (src:=[[.int .i64 k]]) hO rfl (by unfold roomFor; have:=avN k p; rw[eD]; simp only[bhA,maxLen]; omega) fun v' H' hO' _=>?_
      rw[WB,← hsucc] at hO'
      simp -implicitDefEqProofs only[go_sem,γ,FC,aK (show k<9223372036854775807 by omega)]
      refine aI (k+1,v',H') ⟨hlt,hO'⟩ (by simp only; omega) ?_ PH.le_refl
      (repeat' (first|exact PF.nil_le|refine PF.aA ?_ ?_))<;>first|(simp -implicitDefEqProofs only[go_sem,γ]<;>rfl)|rfl
     ·rw[if_neg (by rw[hpk]; simp[c])] at hsucc
      have c':(((fO f k (lvl f n):Nat):Int)==(n:Int))=false:=bF (by omega)
      simp -implicitDefEqProofs only[go_sem,γ,c',FC,aK (show k<9223372036854775807 by omega)]
      rw[← hsucc] at hO
      refine aI (k+1,v,H0) ⟨hlt,hO⟩ (by simp only; omega) ?_ PH.le_refl
      (repeat' (first|exact PF.nil_le|refine PF.aA ?_ ?_))<;>first|(simp -implicitDefEqProofs only[go_sem,γ]<;>rfl)|rfl
    ·have hlt':¬ (k:Int)<(f.drives.length:Nat):=by omega
     have:k=f.drives.length:=by omega
     subst this
     simp -implicitDefEqProofs only[go_sem,γ,hlt',QG]
     exact BJ hO rfl
def amO (f:aG) (dom:Int):List Int :=
 if cU f∧0≤dom then pick f.domains.length fun i=>decide (par f i=dom) else []
def tcF (f:aG) (dom:Int) (v:PV) (k:Nat):PF:=((((((PF.nil.set 1 (.int .i64 dom)).set 2 (.rptr f.cells)).set 5 (v)).set 17 (.sl 7 (f.domains.map cK.cells))).set 18 (.int .i64 (f.domains.length:Nat))).set 19 (.int .i64 k))
theorem aRQ {C:Ctx} (L:MI C) (f:aG) (hf:f.Ok) (dom:Int) :
  zS.wp C (aY KM.res (bY (ints (amO f dom)))) (PF.args [.agg f.cells,.int .i64 dom]) .nil:=by
 simp -implicitDefEqProofs only[go_sem,δ,γ,zS,ahK,ahL,ahM,KM]
 refine aB (L.valid f hf) rfl ?_
 unfold amO
 cases hv:cU f with
 | false =>
  simp -implicitDefEqProofs only[go_sem,γ,reduceCtorEq,bhN,KN]
  rw[if_neg (by simp)]
  exact kV rfl
 | true =>
  have hV:=VF.of hv
  by_cases c1:dom<0
  ·simp -implicitDefEqProofs only[go_sem,γ,reduceCtorEq,bhC,c1,KN]
   rw[if_neg (by omega)]
   exact kV rfl
  ·have hd40:=hV.small.domains
   simp -implicitDefEqProofs only[go_sem,δ,γ,θ,reduceCtorEq,bhC,c1,bgT,ahN]
   rw[if_pos (by omega)]
   generalize hp:(fun i=>decide (par f i=dom))=p
   refine wp_loop (α:=Nat × PV × PH) (fun t=>tcF f dom t.2.1 t.1) (fun t=>t.2.2) (fun t=>t.1≤f.domains.length∧bB t.2.2 1 t.2.1 (cL (pick t.1 p))) (fun t=>f.domains.length-t.1) (0,.nils,.nil) ⟨bhE _,.nil⟩ ?_ PH.nil_le ?_
   ·unfold tcF
    (repeat' (first|exact PF.nil_le|refine PF.aA ?_ ?_))<;>first|(simp -implicitDefEqProofs only[go_sem,γ,bgT]<;>rfl)|rfl
   rintro⟨k,v,H0⟩ ⟨hk,hO⟩
   simp only at hk hO ⊢
   simp -implicitDefEqProofs only[go_sem,γ,ZF,ahO,tcF]
   by_cases hlt:k<f.domains.length
   ·have hlt':(k:Int)<(f.domains.length:Nat):=by omega
    simp -implicitDefEqProofs only[go_sem,δ,γ,hlt',ahP,mV hlt]
    refine aQ fun o ho=>?_
    have hpk:p k=decide (par f k=dom):=by rw[← hp]
    have hsucc:=agS k p
    by_cases c:par f k=dom
    ·rw[if_pos (by rw[hpk]; simp[c])] at hsucc
     simp -implicitDefEqProofs only[go_sem,υ,δ,γ,η,θ,ζ,KO,YO hlt,bS c,ahQ]
     refine fC (src:=[[.int .i64 k]]) (hO.fresh ho _).1 rfl (by unfold roomFor; have:=avN k p; rw[eD]; simp only[bhA,maxLen]; omega) fun v' H' hO' _=>?_
     rw[WB,← hsucc] at hO'
     simp -implicitDefEqProofs only[go_sem,γ,KP,aK (show k<9223372036854775807 by omega)]
     refine aI (k+1,v',H') ⟨hlt,hO'⟩ (by simp only; omega) ?_ PH.le_refl
     (repeat' (first|exact PF.nil_le|refine PF.aA ?_ ?_))<;>first|(simp -implicitDefEqProofs only[go_sem,γ]<;>rfl)|rfl
    ·rw[if_neg (by rw[hpk]; simp[c])] at hsucc
     simp -implicitDefEqProofs only[go_sem,δ,γ,θ,KO,YO hlt,bF c,KP,aK (show k<9223372036854775807 by omega)]
     rw[← hsucc] at hO
     refine aI (k+1,v,H0) ⟨hlt,hO⟩ (by simp only; omega) ?_ (PH.IK _ ho)
     (repeat' (first|exact PF.nil_le|refine PF.aA ?_ ?_))<;>first|(simp -implicitDefEqProofs only[go_sem,γ]<;>rfl)|rfl
   ·have hlt':¬ (k:Int)<(f.domains.length:Nat):=by omega
    have:k=f.domains.length:=by omega
    subst this
    simp -implicitDefEqProofs only[go_sem,γ,hlt',ZG]
    exact BJ hO rfl
end Go.PM
namespace Go.PM
open Go Go.Na
def kT (A:List Int) (k:Nat):List Int:=A.take k++bgV (A.length-k) 0
theorem aAC (A:List Int):kT A 0=bgV A.length 0:=by simp[kT]
theorem aJA (A:List Int):kT A A.length=A:=by simp[kT]
theorem akS (A:List Int) {k:Nat} (h:k≤A.length):(kT A k).length=A.length:=by simp[kT]; omega
theorem aJB (A:List Int) {k:Nat} (h:k<A.length):(kT A k).set k A[k]=kT A (k+1):=by
 unfold kT
 rw[bjR _ _ (by simp; omega),bhJ,biT (by omega),Nat.sub_self,show A.length-k=(A.length-(k+1))+1 by omega,List.replicate_succ,List.set_cons_zero,
  biZ h,bhY]
 rfl
theorem mK (l:List Int) (i:Nat) (x:Int):(cL l).set i [.int .i64 x]=cL (l.set i x):=by unfold cL; rw[List.map_set]
theorem rO (n:Nat):bgV n [PV.int .i64 0]=cL (bgV n 0):=by simp[cL]
theorem oO {l:List Int} {i:Nat} (h:i<l.length):(cL l)[i]?=some [.int .i64 l[i]]:=by simp[cL,h]
theorem aJX (l:List Int):ints l=.sl 1 (cL l):=rfl
def vX (f:aG) (room:List Int) (d:Nat):Int:=if room.length=f.drives.length then min (max (room.getD d 0) 0) (ext f d) else ext f d
def fM (f:aG) (room:List Int):List Int:=(bhB f.drives.length).map (vX f room)
def wV (f:aG) (room:List Int):List Int:=if cU f then fM f room else []
theorem sW (f:aG) (room:List Int):(fM f room).length=f.drives.length:=by simp[fM]
theorem avV (f:aG) (room:List Int) {d:Nat} (h:d<(fM f room).length):(fM f room)[d]=vX f room d:=by simp[fM]
theorem VF.aNP {f:aG} (h:VF f) {d:Nat} (hd:d<f.drives.length):∃ hm:mdl f d<f.models.length,(f.models[mdl f d]).extents=ext f d:=by
 have hm:=(h.drive d hd).2.1
 exact⟨hm,by rw[ext,getD_at hm]⟩
def trF (f:aG) (room:List Int) (o k:Nat):PF:=(((((PF.nil.set 1 (ints room)).set 2 (.rptr f.cells)).set 5 (.osl o 1 0 f.drives.length)).set 15 (.int .i64 (f.drives.length:Nat))).set 16 (.int .i64 k))
theorem a1F (a b:Int):(if b<a then b else a)=min a b:=by
 rw[Int.min_def]
 by_cases h:b<a
 ·rw[if_pos h,if_neg (by omega)]
 ·rw[if_neg h,if_pos (by omega)]
theorem awR {C:Ctx} (L:MI C) (f:aG) (hf:f.Ok) (room:List Int) :
  FH.wp C (aY uC.res (gO 1 (cL (wV f room)))) (PF.args [.agg f.cells,ints room]) .nil:=by
 simp -implicitDefEqProofs only[go_sem,δ,γ,FH,awS,awT,uC]
 refine aB (L.valid f hf) rfl ?_
 unfold wV
 cases hv:cU f with
 | false =>
  simp -implicitDefEqProofs only[go_sem,γ,reduceCtorEq,bhN,awU]
  exact BH (.inr rfl) rfl
 | true =>
  have hV:=VF.of hv
  have hd24:=hV.small.drives
  have hb1:((f.drives.length:Nat):Int)*((8:Nat):Int)≤140737488355328:=by omega
  have hb2:((f.drives.length:Nat):Int)≤9223372036854775807:=by omega
  simp -implicitDefEqProofs only[go_sem,δ,γ,θ,bhC,awV,bgT,hb1,hb2]
  refine aQ fun o ho=>?_
  simp -implicitDefEqProofs only[go_sem,γ,awW]
  have hAl:=sW f room
  have hAt:=fun d h=>avV f room (d:=d) h
  generalize hA:fM f room=A at *
  refine wp_loop (α:=Nat) (fun k=>trF f room o k) (fun k=>PH.nil.set o (.rows 1 (cL (kT A k)))) (fun k=>k≤f.drives.length) (fun k=>f.drives.length-k) 0 (bhE _) ?_ ?_ ?_
  ·unfold trF
   (repeat' (first|exact PF.nil_le|refine PF.aA ?_ ?_))<;>first|(simp -implicitDefEqProofs only[go_sem,γ]<;>rfl)|rfl
  ·refine PH.aA PH.nil_le ?_
   simp -implicitDefEqProofs only[go_sem]
   rw[aAC,hAl,rO]
  intro k hk
  simp -implicitDefEqProofs only[go_sem,γ,aiB,awX,trF]
  by_cases hlt:k<f.drives.length
  ·have hlt':(k:Int)<(f.drives.length:Nat):=by omega
   obtain⟨hm,he⟩:=hV.aNP hlt
   have hfl:=akS A (k:=k) (by omega)
   have hkA:k<A.length:=by omega
   have hx:=oO (l:=kT A k) (i:=k) (by omega)
   have hstep:=aJB A hkA
   rw[hAt k hkA] at hstep
   simp -implicitDefEqProofs only[go_sem,γ,hlt',awY]
   refine cA .nil dU PH.nil_le ?_
   simp -implicitDefEqProofs only[go_sem,δ,γ,θ,awZ,oW hlt,hV.WP hlt,aPR hm,he,hlt',bhS,hx]
   refine⟨PH.nil_le,?_⟩
   simp -implicitDefEqProofs only[go_sem,γ,axA,bgT]
   by_cases c:room.length=f.drives.length
   ·have c':(((room.length:Nat):Int)==((f.drives.length:Nat):Int))=true:=bS (by omega)
    have hrk:k<room.length:=by omega
    have hrr:(room.map fun n=>[PV.int .i64 n])[k]?=some [.int .i64 room[k]]:=by simp[hrk]
    simp -implicitDefEqProofs only[go_sem,c']
    refine cA .nil dU PH.nil_le ?_
    have hx2:(cL ((kT A k).set k (ext f k)))[k]?=some [.int .i64 (ext f k)]:=by
     rw[← mK,List.getElem?_set_self (by rw[eD]; omega)]
    simp -implicitDefEqProofs only[go_sem,γ,reduceCtorEq,axB,hrr,hlt',bhS,hx2,max_eq,a1F,List.set_set,mK]
    refine⟨PH.nil_le,?_⟩
    simp -implicitDefEqProofs only[go_sem,γ,KT,aK (show k<9223372036854775807 by omega)]
    refine aI (k+1) hlt (by omega) ?_ ?_
    ·(repeat' (first|exact PF.nil_le|refine PF.aA ?_ ?_))<;>first|(simp -implicitDefEqProofs only[go_sem,γ]<;>rfl)|rfl
    ·refine PH.aA PH.nil_le ?_
     rw[← hstep,vX,if_pos c,bhQ,bhH hrk,bjP]
     simp -implicitDefEqProofs only[go_sem]
   ·have c':(((room.length:Nat):Int)==((f.drives.length:Nat):Int))=false:=bF (by omega)
    simp -implicitDefEqProofs only[go_sem,γ,c',KT,aK (show k<9223372036854775807 by omega),mK]
    refine aI (k+1) hlt (by omega) ?_ ?_
    ·(repeat' (first|exact PF.nil_le|refine PF.aA ?_ ?_))<;>first|(simp -implicitDefEqProofs only[go_sem,γ]<;>rfl)|rfl
    ·refine PH.aA PH.nil_le ?_
     rw[← hstep,vX,if_neg c]
     simp -implicitDefEqProofs only[go_sem]
  ·have hlt':¬ (k:Int)<(f.drives.length:Nat):=by omega
   have:k=f.drives.length:=by omega
   subst this
   simp -implicitDefEqProofs only[go_sem,γ,hlt',aiC]
   have hAA:kT A f.drives.length=A:=by rw[← hAl,aJA]
   rw[hAA]
   exact ER (.inr rfl) (v:=.osl o 1 0 f.drives.length) (.inr ⟨o,cL A,by rw[eD,hAl],by simp -implicitDefEqProofs only[go_sem],bgX _,bhI (bgX _)⟩) rfl
end Go.PM
namespace Go.PM
open Go Go.Na
abbrev lay (l:List (List Int)):PV:=.sl 1 (l.map fun r=>[ints r])
def dW (n:Nat) (xs:List Int):List Int:=(bhB n).map fun (d:Nat)=>((xs.count (d:Int):Nat):Int)
theorem iD (n:Nat) (xs:List Int):(dW n xs).length=n:=by simp[dW]
theorem amP (n:Nat):dW n []=bgV n 0:=by
 refine bjH (by simp[dW]) fun i h1 h2=>by simp[dW]
theorem aBG {n:Nat} (xs:List Int) {d:Nat} (h:d<n):(dW n xs)[d]'(by rw[iD]; exact h)=((xs.count (d:Int):Nat):Int):=by simp[dW]
theorem aBH {n:Nat} (xs:List Int) {d:Nat} (h:d<n):(dW n xs).set d (((xs.count (d:Int):Nat):Int)+1)=dW n (xs++[(d:Int)]):=by
 refine bjH (by simp[dW]) fun i h1 h2=>?_
 simp only[dW,List.getElem_set,biI,List.getElem_range,List.count_append]
 by_cases e:d=i
 ·subst e; simp
 ·have:((d:Nat):Int)≠(i:Int):=by omega
  rw[if_neg e]
  simp[List.count_cons,this]
theorem QZ {n:Nat} (xs:List Int) {x:Int} (h:¬ (0≤x∧x<n)):dW n (xs++[x])=dW n xs:=by
 refine bjH (by simp[dW]) fun i h1 h2=>?_
 simp only[dW,biI,List.getElem_range,List.count_append]
 have hi:i<n:=by simpa [dW] using h2
 have:x≠(i:Int):=by omega
 simp[List.count_cons,this]
def gW (f:aG) (l:List (List Int)):List Int:=dW f.drives.length l.flatten
structure jP (l:List (List Int)):Prop where
 rows:l.length≤16777216
 all:l.flatten.length≤16777216
theorem sN (l:List (List Int)) {i:Nat} (h:i<l.length):(l.take (i+1)).flatten=(l.take i).flatten++l[i]:=by
 rw[biZ h,List.flatten_append]
 simp only[List.flatten_cons,List.flatten_nil,biN]
theorem RG (l:List (List Int)) (i:Nat):(l.take i).flatten.length≤l.flatten.length:=by
 have:l.flatten=(l.take i).flatten++(l.drop i).flatten:=by rw[← List.flatten_append,bjE]
 rw[this,bgW]; omega
def arF (l:List (List Int)) (n o i:Nat):PF:=((((PF.nil.set 5 (.osl o 1 0 n)).set 14 (lay l)).set 15 (.int .i64 (l.length:Nat))).set 16 (.int .i64 i))
def abV (l:List (List Int)) (n o i:Nat) (row:List Int) (k:Nat):PF:=(((((((PF.nil.set 5 (.osl o 1 0 n)).set 14 (lay l)).set 15 (.int .i64 (l.length:Nat))).set 16 (.int .i64 i)).set 20 (ints row)).set 21 (.int .i64 (row.length:Nat))).set 22 (.int .i64 k))
theorem aRV {C:Ctx} (f:aG) (hd:f.drives.length≤24) (l:List (List Int)) (hl:jP l) :
  zU.wp C (aY KR.res (bY (ints (gW f l)))) (PF.args [.agg f.cells,lay l]) .nil:=by
 have hb1:((f.drives.length:Nat):Int)*((8:Nat):Int)≤140737488355328:=by omega
 have hb2:((f.drives.length:Nat):Int)≤9223372036854775807:=by omega
 obtain⟨hl1,hl2⟩:=hl
 simp -implicitDefEqProofs only[go_sem,δ,γ,θ,zU,ahT,ahU,KR,bgT,hb1,hb2]
 refine aQ fun o ho=>?_
 simp -implicitDefEqProofs only[go_sem,γ,ahV]
 generalize hn:f.drives.length=n at *
 refine wp_loop (α:=Nat) (fun i=>arF l n o i) (fun i=>PH.nil.set o (.rows 1 (cL (dW n (l.take i).flatten)))) (fun i=>i≤l.length) (fun i=>l.length-i) 0 (bhE _) ?_ ?_ ?_
 ·unfold arF
  (repeat' (first|exact PF.nil_le|refine PF.aA ?_ ?_))<;>first|(simp -implicitDefEqProofs only[go_sem,γ,bgT]<;>rfl)|rfl
 ·refine PH.aA PH.nil_le ?_
  simp -implicitDefEqProofs only[go_sem,List.take_zero,List.flatten_nil]
  rw[amP,rO]
 intro i hi
 simp -implicitDefEqProofs only[go_sem,γ,ZR,ahW,arF]
 by_cases hlt:i<l.length
 ·have hlt':(i:Int)<(l.length:Nat):=by omega
  have hr:(l.map fun r=>[ints r])[i]?=some [ints l[i]]:=by simp[hlt]
  have hft:=sN l hlt
  have hfl:=RG l (i+1)
  rw[hft,bgW] at hfl
  generalize hrow:l[i]=row at *
  simp -implicitDefEqProofs only[go_sem,γ,hlt',ahX,hr,ahY,bgT]
  refine wp_loop (α:=Nat) (fun k=>abV l n o i row k) (fun k=>PH.nil.set o (.rows 1 (cL (dW n ((l.take i).flatten++row.take k))))) (fun k=>k≤row.length) (fun k=>row.length-k) 0 (bhE _) ?_ ?_ ?_
  ·unfold abV
   (repeat' (first|exact PF.nil_le|refine PF.aA ?_ ?_))<;>first|(simp -implicitDefEqProofs only[go_sem,γ,bgT]<;>rfl)|rfl
  ·rw[List.take_zero,biN]
   exact PH.le_refl
  intro k hk
  simp -implicitDefEqProofs only[go_sem,γ,ZQ,ahZ,abV]
  by_cases hkt:k<row.length
  ·have hkt':(k:Int)<(row.length:Nat):=by omega
   have hrk:(row.map fun n=>[PV.int .i64 n])[k]?=some [.int .i64 row[k]]:=by simp[hkt]
   have htk:(l.take i).flatten++row.take (k+1)=((l.take i).flatten++row.take k)++[row[k]]:=by
    rw[biZ hkt,bhY]
   have fin:∀ (F:PF),(abV l n o i row (k+1)).le F→∀ H:PH,H o=some (.rows 1 (cL (dW n ((l.take i).flatten++row.take (k+1))))) →
     eZ (fun k=>abV l n o i row k) (fun k=>PH.nil.set o (.rows 1 (cL (dW n ((l.take i).flatten++row.take k))))) (fun k=>k≤row.length) (fun k=>row.length-k) (row.length-k)
      (dY 2 (dY 1 (iZ C (aD.wp C (.region FF)) (eZ (fun i=>arF l n o i) (fun i=>PH.nil.set o (.rows 1 (cL (dW n (l.take i).flatten)))) (fun i=>i≤l.length) (fun i=>l.length-i) (l.length-i) (dY 0 (iZ C (aD.wp C (.seq (.region FG) .ret)) (aY [.tmp 4] (bY (ints (gW f l)))))))))) .normal F H:=by
    intro F hF H hH
    exact aI (k+1) hkt (by omega) hF (PH.aA PH.nil_le hH)
   unfold abV arF at fin
   generalize hx:row[k]=x at *
   by_cases c1:x≥0
   ·by_cases c2:x<(n:Nat)
    ·obtain⟨d,rfl⟩:∃ d:Nat,x=d:=⟨x.toNat,by omega⟩
     have hdn:d<n:=by omega
     have hat:=oO (l:=dW n ((l.take i).flatten++row.take k)) (i:=d) (by rw[iD]; exact hdn)
     rw[aBG _ hdn] at hat
     have hcl:((l.take i).flatten++row.take k).count (d:Int)≤16777216:=by
      refine bjM (List.count_le_length ..) ?_
      rw[bgW,bhJ]; omega
     have hin:=aBH ((l.take i).flatten++row.take k) hdn
     rw[← htk] at hin
     have hw:IntKind.i64.wrap (((((l.take i).flatten++row.take k).count (d:Int):Nat):Int)+1)=((((l.take i).flatten++row.take k).count (d:Int):Nat):Int)+1:=wrap_i64 (by omega) (by omega)
     simp -implicitDefEqProofs only[go_sem,γ,hkt',wZ,hrk,xA,c1,c2,aiA,bhS,hat,hw,uB,mK,hin,aK (show k<9223372036854775807 by omega)]
     exact fin _ (by (repeat' (first|exact PF.nil_le|refine PF.aA ?_ ?_))<;>first|(simp -implicitDefEqProofs only[go_sem,γ]<;>rfl)|rfl) _ (by simp -implicitDefEqProofs only[go_sem])
    ·have hout:=QZ (n:=n) ((l.take i).flatten++row.take k) (x:=x) (by omega)
     simp -implicitDefEqProofs only[go_sem,γ,hkt',wZ,hrk,xA,c1,c2,uB,aK (show k<9223372036854775807 by omega)]
     exact fin _ (by (repeat' (first|exact PF.nil_le|refine PF.aA ?_ ?_))<;>first|(simp -implicitDefEqProofs only[go_sem,γ]<;>rfl)|rfl) _ (by rw[htk,hout]; simp -implicitDefEqProofs only[go_sem])
   ·have hout:=QZ (n:=n) ((l.take i).flatten++row.take k) (x:=x) (by omega)
    simp -implicitDefEqProofs only[go_sem,γ,reduceCtorEq,hkt',wZ,hrk,xA,c1,uB,aK (show k<9223372036854775807 by omega)]
    exact fin _ (by (repeat' (first|exact PF.nil_le|refine PF.aA ?_ ?_))<;>first|(simp -implicitDefEqProofs only[go_sem,γ]<;>rfl)|rfl) _ (by rw[htk,hout]; simp -implicitDefEqProofs only[go_sem])
  ·have hkt':¬ (k:Int)<(row.length:Nat):=by omega
   have:k=row.length:=by omega
   subst this
   simp -implicitDefEqProofs only[go_sem,γ,reduceCtorEq,hkt',FF,aK (show i<9223372036854775807 by omega),bhZ]
   refine aI (i+1) hlt (by omega) ?_ ?_
   ·(repeat' (first|exact PF.nil_le|refine PF.aA ?_ ?_))<;>first|(simp -implicitDefEqProofs only[go_sem,γ]<;>rfl)|rfl
   ·refine PH.aA PH.nil_le ?_
    rw[hft]
    simp -implicitDefEqProofs only[go_sem]
 ·have hlt':¬ (i:Int)<(l.length:Nat):=by omega
  have:i=l.length:=by omega
  subst this
  simp -implicitDefEqProofs only[go_sem,γ,hlt',FG,bhZ]
  refine avU (.inr rfl) (o:=o) (s:=1) (k:=n) (rs:=cL (dW n l.flatten)) rfl (by simp -implicitDefEqProofs only[go_sem]) (by rw[eD,iD]; omega) ⟨?_,rfl⟩
  rw[aJX,bhI (by rw[eD,iD]; omega),gW,hn]
  exact .refl _
structure UP (C:Ctx):Prop extends MI C where
 room:∀ (f:aG) (room:List Int),f.Ok→aJ C 152 [.agg f.cells,ints room] .nil (aL (ints (wV f room)))
 loads:∀ (f:aG) (l:List (List Int)),f.drives.length≤24→jP l→aJ C 157 [.agg f.cells,lay l] .nil (aL (ints (gW f l)))
def arG (f:aG) (l:List (List Int)):List Int:=if cU f then gW f l else []
theorem aRJ {C:Ctx} (L:UP C) (f:aG) (hf:f.Ok) (l:List (List Int)) (hl:jP l) :
  zQ.wp C (aY KK.res (bY (ints (arG f l)))) (PF.args [.agg f.cells,lay l]) .nil:=by
 simp -implicitDefEqProofs only[go_sem,δ,γ,zQ,ahA,ahB,KK]
 refine aB (L.valid f hf) rfl ?_
 unfold arG
 cases hv:cU f with
 | false =>
  simp -implicitDefEqProofs only[go_sem,γ,reduceCtorEq,bhN,ahC]
  exact kV rfl
 | true =>
  have hV:=VF.of hv
  simp -implicitDefEqProofs only[go_sem,δ,γ,bhC,ahD]
  refine aB (L.loads f l hV.small.drives hl) rfl ?_
  simp -implicitDefEqProofs only[go_sem,γ]
  exact aW (.inr rfl) .nil rfl PH.nil_le ⟨.refl _,rfl⟩
end Go.PM
namespace Go.PM
open Go Go.Na
structure gT where
 kind:Int
 vol:Int
 wher:Int
abbrev gT.cells (x:gT):List PV:=[.int .i64 x.kind,.int .i64 x.vol,.int .i64 x.wher]
abbrev UF (l:List gT):PV:=.sl 3 (l.map gT.cells)
def iE (p:Int→Bool):List Int→Nat→Option Nat
 | [],_=>none
 | x::t,i=>if p x then some i else iE p t (i+1)
def pS (f:aG) (d:Int):Bool:=decide (d < -1)||decide (d≥(f.drives.length:Nat))
def kX (f:aG) (l:List (List Int)) (v:Nat):Option gT :=
 if ((l.getD v []).length:Int)=fR f v then (iE (pS f) (l.getD v []) 0).map fun (i:Nat)=>⟨1,v,i⟩ else some ⟨1,v,((l.getD v []).length:Nat)⟩
def shV:Option gT→PV
 | some x=>.tup [.agg x.cells,.bool true]
 | none=>.tup [.agg [.int .i64 0,.int .i64 0,.int .i64 0],.bool false]
def aXG (f:aG) (o:Nat) (v:Nat) (row:List Int) (k:Nat):PF:=((((((PF.nil.set 2 (.int .i64 v)).set 3 (.rptr f.cells)).set 6 (.ptr o 3 0 0)).set 29 (ints row)).set 30 (.int .i64 (row.length:Nat))).set 31 (.int .i64 k))
theorem aSC {C:Ctx} (L:UP C) (f:aG) (hV:VF f) (l:List (List Int)) (hl:jP l) (v:Nat) (hv:v<l.length) (hvf:v<f.volumes.length) :
  zV.wp C (aY wC.res (bY (shV (kX f l v)))) (PF.args [.agg f.cells,lay l,.int .i64 v]) .nil:=by
 have hr:(l.map fun r=>[ints r])[v]?=some [ints l[v]]:=by simp[hv]
 have hg:l.getD v []=l[v]:=by simp[bhQ,hv]
 have hrl:(l[v]).length≤16777216:=by
  have h1:=RG l (v+1)
  have:=hl.all
  rw[sN l hv,bgW] at h1
  omega
 unfold kX
 rw[hg]
 simp -implicitDefEqProofs only[go_sem,δ,zV,aiE]
 refine aQ fun o ho=>?_
 simp -implicitDefEqProofs only[go_sem]
 refine cA .nil (toS f) PH.nil_le ?_
 generalize l[v]=row at *
 have fin:∀ (x:gT) (F:PF) (H:PH),F 6=some (.ptr o 3 0 0)→F 7=some (.bool true)→H o=some (.rows 3 [x.cells])→aY wC.res (bY (shV (some x))) .ret F H:=by
  intro x F H h6 h7 hH
  refine aW (.inr rfl) .nil (vs:=[.agg x.cells,.bool true]) ?_ PH.nil_le ⟨.refl _,rfl⟩
  simp -implicitDefEqProofs only[go_sem,δ,wC,h6,h7,hH]
 simp -implicitDefEqProofs only[go_sem,δ,γ,aiF,hr,bgT]
 refine cO (aXE f v) (L.frag f v hV hvf) rfl PH.nil_le ?_
 by_cases c:((row.length:Nat):Int)=fR f v
 ·rw[if_pos c]
  simp -implicitDefEqProofs only[go_sem,γ,cP c,aiH,hr,bgT]
  refine wp_loop (α:=Nat) (fun k=>aXG f o v row k) (fun k=>PH.nil.set o (.rows 3 [[.int .i64 0,.int .i64 0,.int .i64 0]])) (fun k=>k≤row.length∧iE (pS f) row 0=iE (pS f) (row.drop k) k) (fun k=>row.length-k) 0 ⟨bhE _,rfl⟩ ?_ PH.le_refl ?_
  ·unfold aXG
   (repeat' (first|exact PF.nil_le|refine PF.aA ?_ ?_))<;>first|(simp -implicitDefEqProofs only[go_sem,γ,bgT]<;>rfl)|rfl
  rintro k ⟨hk,hb⟩
  simp -implicitDefEqProofs only[go_sem,γ,aiD,aiI,aXG]
  by_cases hlt:k<row.length
  ·have hlt':(k:Int)<(row.length:Nat):=by omega
   have hrk:(row.map fun n=>[PV.int .i64 n])[k]?=some [.int .i64 row[k]]:=by simp[hlt]
   have hdr:iE (pS f) (row.drop k) k=if pS f row[k] then some k else iE (pS f) (row.drop (k+1)) (k+1):=by
    rw[biQ hlt,iE]
   rw[hdr] at hb
   by_cases c1:row[k] < -1
   ·have hbd:pS f row[k]=true:=by simp[pS,c1]
    rw[hbd] at hb
    simp -implicitDefEqProofs only[go_sem,ο,δ,γ,θ,hlt',xB,hrk,xC,c1,KU]
    rw[hb]
    exact fin ⟨1,v,k⟩ _ _ rfl rfl (by simp -implicitDefEqProofs only[go_sem])
   ·by_cases c2:row[k]≥(f.drives.length:Nat)
    ·have hbd:pS f row[k]=true:=by simp[pS,c2]
     rw[hbd] at hb
     simp -implicitDefEqProofs only[go_sem,ο,δ,γ,θ,reduceCtorEq,hlt',xB,hrk,xC,c1,bgT,c2,KU]
     rw[hb]
     exact fin ⟨1,v,k⟩ _ _ rfl rfl (by simp -implicitDefEqProofs only[go_sem])
    ·have hbd:pS f row[k]=false:=by simp[pS]; omega
     rw[hbd] at hb
     simp -implicitDefEqProofs only[go_sem,ο,δ,γ,θ,reduceCtorEq,hlt',xB,hrk,xC,c1,bgT,c2,aiJ,aK (show k<9223372036854775807 by omega)]
     refine aI (k+1) ⟨hlt,hb⟩ (by omega) ?_ PH.le_refl
     (repeat' (first|exact PF.nil_le|refine PF.aA ?_ ?_))<;>first|(simp -implicitDefEqProofs only[go_sem,γ]<;>rfl)|rfl
  ·have hlt':¬ (k:Int)<(row.length:Nat):=by omega
   have:k=row.length:=by omega
   subst this
   rw[List.drop_length,iE] at hb
   simp -implicitDefEqProofs only[go_sem,δ,γ,hlt',ZU]
   rw[hb]
   refine aW (.inr rfl) .nil (vs:=[.agg [.int .i64 0,.int .i64 0,.int .i64 0],.bool false]) ?_ PH.nil_le ⟨.refl _,rfl⟩
   simp -implicitDefEqProofs only[go_sem,δ,γ,wC]
 ·rw[if_neg c]
  simp -implicitDefEqProofs only[go_sem,δ,γ,θ,eC c,aiG,hr,bgT]
  exact fin ⟨1,v,(row.length:Nat)⟩ _ _ rfl rfl (by simp -implicitDefEqProofs only[go_sem])
structure amA (C:Ctx):Prop extends UP C where
 shape:∀ (f:aG) (l:List (List Int)) (v:Nat),VF f→jP l→v<l.length→v<f.volumes.length→aJ C 160 [.agg f.cells,lay l,.int .i64 v] .nil (aL (shV (kX f l v)))
def adB (f:aG) (l:List (List Int)):Bool:=cU f&&decide (l.length=f.volumes.length)&&(bhB l.length).all fun v=>(kX f l v).isNone
def tSF (f:aG) (l:List (List Int)) (k:Nat):PF:=((((PF.nil.set 1 (lay l)).set 2 (.rptr f.cells)).set 20 (.int .i64 (l.length:Nat))).set 21 (.int .i64 k))
theorem aMH {C:Ctx} (L:amA C) (f:aG) (hf:f.Ok) (l:List (List Int)) (hl:jP l) :
  wA.wp C (aY BN.res (bY (.bool (adB f l)))) (PF.args [.agg f.cells,lay l]) .nil:=by
 simp -implicitDefEqProofs only[go_sem,δ,γ,wA,YW,YX,BN]
 refine aB (L.valid f hf) rfl ?_
 unfold adB
 have hlr:=hl.rows
 cases hv:cU f with
 | false =>
  simp -implicitDefEqProofs only[go_sem,γ,bhN,EZ]
  exact aU rfl (by simp only[bhG])
 | true =>
  have hV:=VF.of hv
  by_cases c:l.length=f.volumes.length
  ·have c':(((l.length:Nat):Int) != ((f.volumes.length:Nat):Int))=false:=cP (by omega)
   rw[decide_eq_true c]
   simp -implicitDefEqProofs only[go_sem,γ,reduceCtorEq,bhC,bgT,c',YY]
   generalize hq:(fun v=>(kX f l v).isNone)=q
   refine wp_loop (α:=Nat) (fun k=>tSF f l k) (fun _=>.nil) (fun k=>k≤l.length∧mS q k) (fun k=>l.length-k) 0 ⟨bhE _,.zero⟩ ?_ PH.nil_le ?_
   ·unfold tSF
    (repeat' (first|exact PF.nil_le|refine PF.aA ?_ ?_))<;>first|(simp -implicitDefEqProofs only[go_sem,γ,bgT]<;>rfl)|rfl
   rintro k ⟨hk,ha⟩
   simp -implicitDefEqProofs only[go_sem,γ,QD,YZ,tSF]
   by_cases hlt:k<l.length
   ·have hlt':(k:Int)<(l.length:Nat):=by omega
    have hqk:q k=(kX f l k).isNone:=by rw[← hq]
    simp -implicitDefEqProofs only[go_sem,δ,γ,hlt',ZA,ZB]
    refine aB (L.shape f l k hV hl hlt (by omega)) rfl ?_
    cases hs:kX f l k with
    | some x =>
     rw[hs] at hqk
     simp -implicitDefEqProofs only[go_sem,δ,γ,shV]
     refine aQ fun o ho=>?_
     simp -implicitDefEqProofs only[go_sem,δ,γ,FA,ZC]
     exact aU (b:=false) rfl (by rw[show (bhB l.length).all q=false from dO hlt hqk])
    | none =>
     rw[hs] at hqk
     simp -implicitDefEqProofs only[go_sem,δ,γ,shV]
     refine aQ fun o ho=>?_
     simp -implicitDefEqProofs only[go_sem,δ,γ,FA,ZD,aK (show k<9223372036854775807 by omega)]
     refine aI (k+1) ⟨hlt,ha.step hqk⟩ (by omega) ?_ PH.nil_le
     (repeat' (first|exact PF.nil_le|refine PF.aA ?_ ?_))<;>first|(simp -implicitDefEqProofs only[go_sem,γ]<;>rfl)|rfl
   ·have hlt':¬ (k:Int)<(l.length:Nat):=by omega
    have:k=l.length:=by omega
    subst this
    simp -implicitDefEqProofs only[go_sem,hlt',QE]
    exact aU (b:=true) rfl (by rw[show (bhB l.length).all q=true from ha])
  ·have c':(((l.length:Nat):Int) != ((f.volumes.length:Nat):Int))=true:=eC (by omega)
   simp -implicitDefEqProofs only[go_sem,γ,reduceCtorEq,bhC,bgT,c',EZ]
   exact aU rfl (by rw[decide_eq_false c]; simp only[bhG])
end Go.PM
namespace Go.PM
open Go Go.Na
section
variable {C:Ctx} {F:PF} {H:PH}
theorem uH {name:Nat} {vs cs:List PV} {r:PV} {H0:PH} {args:List aN} {d:Option Nat} {K:PF→PH→Prop} (h:aJ C name (vs++cs) H0 (fun r' H'=>r'=r∧H'=H0)) (ha:aN.evs F args=some vs) (hle:H0.le H)
  (hk:K (F.put d r) H):gC C name args cs d K F H:=by
 refine .inl ⟨vs++cs,H0,_,by rw[ha]; rfl,hle,h,?_⟩
 rintro r' H' ⟨rfl,rfl⟩ -
 rw[PH.over_self _ hle]
 exact hk
theorem bB.ne {s s':Nat} {v:PV} {rows:List (List PV)} {o:Nat} {y:List (List PV)} (h:bB H s v rows) (ho:H o=some (.rows s' y)) (hs:s≠s'):∀ l,v≠.osl o s 0 l:=by
 intro l e
 rcases h with ⟨_,h2⟩ | ⟨q,rs,h1,h2,_⟩
 ·rw[h2] at e; cases e
 ·rw[h1] at e
  injection e with e1
  subst e1
  rw[ho] at h2
  injection h2 with h2
  injection h2 with h2
  exact hs h2.symm
theorem bB.set {s s':Nat} {v:PV} {rows:List (List PV)} {o:Nat} {y:List (List PV)} {x:bV} (h:bB H s v rows) (ho:H o=some (.rows s' y)) (hs:s≠s'):bB (H.set o x) s v rows:=by
 have hne:=h.ne ho hs
 rcases h with ⟨h1,h2⟩ | ⟨q,rs,h1,h2,h3,h4⟩
 ·exact .inl ⟨h1,h2⟩
 ·refine .inr ⟨q,rs,h1,?_,h3,h4⟩
  have:q≠o:=by rintro rfl; exact hne _ h1
  simp only[aV,if_neg this,h2]
def Dis (s:Nat) (v u:PV):Prop:=∀ q l q' l',v=.osl q s 0 l→u=.osl q' s 0 l'→q≠q'
theorem Dis.nil {s:Nat}:Dis s .nils .nils:=fun _ _ _ _ h=>by cases h
theorem Dis.symm {s:Nat} {v u:PV} (h:Dis s v u):Dis s u v:=fun q l q' l' h1 h2=>(h q' l' q l h2 h1).symm
theorem jX {s b:Nat} {v u y:PV} {rows rows' src:List (List PV)} {K:PV→PH→Prop} (h:bB H s v rows) (h':bB H s u rows') (hd:Dis s v u) (hy:dK H s y=some src) (hr:roomFor rows.length src.length b)
  (hk:∀ v' H',bB H' s v' (rows++src)→bB H' s u rows'→Dis s v' u→(∀ o s' z,s≠s'→H o=some (.rows s' z)→H' o=some (.rows s' z))→K v' H'):mQ H s b v y K:=by
 have other:∀ {H':PH} {t:PV} {r:List (List PV)},bB H s t r→(∀ o x,H o=some x→(∀ l,t=.osl o s 0 l→False)∨H' o=some x)→bB H' s t r:=by
  intro H' t r ht hp
  rcases ht with ⟨a,b⟩ | ⟨q,rs,a,b,c,d⟩
  ·exact .inl ⟨a,b⟩
  ·refine .inr ⟨q,rs,a,?_,c,d⟩
   rcases hp q _ b with e | e
   ·exact (e _ a).elim
   ·exact e
 have gone:∀ {o:Nat} {x:bV},H o=none→H o=some x→False:=fun a b=>by rw[a] at b; cases b
 have hud:∀ {o:Nat} {l:Nat},u=.osl o s 0 l→∃ x,H o=some x:=by
  intro o l e
  rcases h' with ⟨a,b⟩ | ⟨q,rs,a,b,c,d⟩
  ·rw[b] at e; cases e
  ·rw[a] at e; injection e with e; subst e; exact⟨_,b⟩
 rcases h with ⟨rfl,rfl⟩ | ⟨q,rs,rfl,h1,h2,h3⟩
 ·refine⟨src,hy,hr,fun e=>?_,fun e o ho=>?_⟩
  ·subst e
   exact hk _ _ (.inl ⟨rfl,rfl⟩) h' hd fun o s' z _ hz=>hz
  ·refine hk _ _ (.inr ⟨o,src,rfl,by simp only[aV,if_true],bgX _,by simp⟩) (other h' fun o' x hx=>.inr ?_) ?_ fun o' s' z _ hz=>?_
   ·have:o'≠o:=by rintro rfl; exact gone ho hx
    simp only[aV,if_neg this,hx]
   ·intro q l q' l' e1 e2
    injection e1 with e1
    subst e1
    rintro rfl
    obtain⟨x,hx⟩:=hud e2
    exact gone ho hx
   ·have:o'≠o:=by rintro rfl; exact gone ho hz
    simp only[aV,if_neg this,hz]
 ·have hlen:(rows++src).length=rows.length+src.length:=bgW
  refine⟨src,hy,rfl,rfl,hr,rs,h1,h2,?_,fun o ho=>?_⟩
  ·rw[h3]
   refine hk _ _ (.inr ⟨q,rows++src,by rw[hlen],by simp only[aV,if_true],bgX _,bhZ⟩) (other h' fun o' x hx=>?_) ?_ fun o' s' z hs hz=>?_
   ·by_cases e:o'=q
    ·exact .inl fun l el=>hd q _ o' l rfl el e.symm
    ·exact .inr (by simp only[aV,if_neg e,hx])
   ·intro q1 l q' l' e1 e2
    injection e1 with e1
    subst e1
    exact hd _ _ _ _ rfl e2
   ·have:o'≠q:=by
     rintro rfl
     rw[h1] at hz
     injection hz with hz
     injection hz with hz
     exact hs hz
    simp only[aV,if_neg this,hz]
  ·rw[h3]
   refine hk _ _ (.inr ⟨o,rows++src,by rw[hlen],by simp only[aV,if_true],bgX _,bhZ⟩) (other h' fun o' x hx=>?_) ?_ fun o' s' z hs hz=>?_
   ·by_cases e:o'=q
    ·exact .inl fun l el=>hd q _ o' l rfl el e.symm
    ·have e2:o'≠o:=by rintro rfl; exact gone ho hx
     exact .inr (by simp only[aV,if_neg e,if_neg e2,hx])
   ·intro q1 l q' l' e1 e2
    injection e1 with e1
    subst e1
    rintro rfl
    obtain⟨x,hx⟩:=hud e2
    exact gone ho hx
   ·have e1:o'≠q:=by
     rintro rfl
     rw[h1] at hz
     injection hz with hz
     injection hz with hz
     exact hs hz
    have e2:o'≠o:=by rintro rfl; exact gone ho hz
    simp only[aV,if_neg e1,if_neg e2,hz]
end
abbrev dR (l:List gT):List (List PV):=l.map gT.cells
def cF (kind v:Int) (n:Nat) (p:Nat→Bool):List gT:=((bhB n).filter p).map fun (i:Nat)=>⟨kind,v,i⟩
theorem mP (kind v:Int) (n:Nat) (p:Nat→Bool):cF kind v (n+1) p=if p n then cF kind v n p++[⟨kind,v,n⟩] else cF kind v n p:=by
 unfold cF
 rw[List.range_succ,List.filter_append,biS]
 by_cases h:p n
 ·rw[if_pos h]; simp[h]
 ·rw[if_neg h]; simp[h]
theorem fJ (kind v:Int) (n:Nat) (p:Nat→Bool):(cF kind v n p).length≤n:=by
 unfold cF
 rw[bgT]
 exact bjM (List.length_filter_le _ _) (by simp)
theorem jD (l:List gT):(dR l).length=l.length:=by simp[dR]
theorem nK (l:List gT) (x:gT):dR l++[x.cells]=dR (l++[x]):=by simp[dR]
def avF (o5:Nat) (v:Nat):PH:=PH.nil.set o5 (.rows 1 [[.int .i64 v]])
theorem aSG {C:Ctx} (o5 v:Nat) (k w:Int):zX.wp C (aY LC.res (fun r H'=>r=.agg [.int .i64 k,.int .i64 v,.int .i64 w]∧H'=avF o5 v)) (PF.args [.int .i64 k,.int .i64 w,.ptr o5 1 0 0]) (avF o5 v):=by
 simp -implicitDefEqProofs only[go_sem,δ,zX,aiW,avF]
 refine aQ fun o ho=>?_
 have hne:o5≠o:=by rintro rfl; simp only[aV,if_true] at ho; cases ho
 simp -implicitDefEqProofs only[go_sem,δ,γ,θ,reduceCtorEq,aiX,hne]
 refine aW (.inr rfl) (PH.nil.set o5 (.rows 1 [[.int .i64 v]])) (vs:=[.agg [.int .i64 k,.int .i64 v,.int .i64 w]]) ?_ (PH.aA PH.nil_le ?_) ⟨rfl,rfl⟩
 ·simp -implicitDefEqProofs only[go_sem,δ,γ,LC]
 ·simp -implicitDefEqProofs only[go_sem,hne]
def qD (f:aG) (i:Nat) (d:Int):Bool:=decide (0≤d)&&decide (fO f d.toNat (lvl f i)=i)
def kR (f:aG) (xs:List Int) (i:Nat):Int:=if i=0 then 0 else ((xs.countP (qD f i):Nat):Int)
def dQ (f:aG) (xs:List Int):List Int:=(bhB f.domains.length).map (kR f xs)
def oK (f:aG) (xs:List Int) (d:Nat) (k:Nat):List Int:=(bhB f.domains.length).map fun i=>if 4-(k:Int)<lvl f i then kR f (xs++[(d:Int)]) i else kR f xs i
theorem sM (f:aG) (xs:List Int):(dQ f xs).length=f.domains.length:=by simp[dQ]
theorem VF.pA {f:aG} (h:VF f) {i:Nat} (hi:i<f.domains.length):0≤lvl f i∧lvl f i≤4∧(lvl f i=0↔i=0):=by
 rcases bjA i with e | e
 ·subst e; rw[h.root.2.1]; simp
 ·have:=h.dom i e hi
  omega
theorem aNK {f:aG} (h:VF f) (xs:List Int) (d:Nat):oK f xs d 0=dQ f xs:=by
 refine bjH (by simp[oK,dQ]) fun i h1 h2=>?_
 simp only[oK,dQ,biI,List.getElem_range]
 have hi:i<f.domains.length:=by simpa [dQ] using h2
 have:=h.pA hi
 rw[if_neg (by omega)]
theorem aNJ {f:aG} (h:VF f) (xs:List Int) (d:Nat):oK f xs d 4=dQ f (xs++[(d:Int)]):=by
 refine bjH (by simp[oK,dQ]) fun i h1 h2=>?_
 simp only[oK,dQ,biI,List.getElem_range]
 have hi:i<f.domains.length:=by simpa [dQ] using h2
 have:=h.pA hi
 by_cases e:i=0
 ·subst e
  rw[if_neg (by omega)]
  simp[kR]
 ·rw[if_pos (by omega)]
theorem adL (f:aG) (xs:List Int) (d:Nat) {i:Nat} (hi:i≠0):kR f (xs++[(d:Int)]) i=kR f xs i+if fO f d (lvl f i)=i then 1 else 0:=by
 unfold kR
 rw[if_neg hi,if_neg hi,List.countP_append]
 by_cases h:fO f d (lvl f i)=i
 ·rw[if_pos h]; simp[qD,h]
 ·rw[if_neg h]; simp[qD,h]
theorem aZM {f:aG} (h:VF f) (xs:List Int) {d:Nat} (hd:d<f.drives.length) {k:Nat} (hk:k<4) :
  (oK f xs d k)[upN f k (fG f d)]?=some (kR f xs (upN f k (fG f d))) ∧
  (oK f xs d k).set (upN f k (fG f d)) (kR f xs (upN f k (fG f d))+1)=oK f xs d (k+1):=by
 obtain⟨u1,u2⟩:=LZ h hd (k:=k) (by omega)
 constructor
 ·simp only[oK,biH,List.getElem?_range u1,biD]
  rw[if_neg (by omega)]
 ·refine bjH (by simp[oK]) fun i h1 h2=>?_
  have hi:i<f.domains.length:=by simpa [oK] using h2
  simp only[oK,List.getElem_set,biI,List.getElem_range]
  have hr:=h.pA hi
  by_cases e:upN f k (fG f d)=i
  ·rw[if_pos e]
   subst e
   rw[if_pos (by omega)]
   have hne:upN f k (fG f d)≠0:=by intro e; rw[e,h.root.2.1] at u2; omega
   rw[adL f xs d hne,fO,u2]
   have:4-(4-(k:Int)).toNat=k:=by omega
   rw[this,if_pos rfl]
  ·rw[if_neg e]
   by_cases c:4-(k:Int)<lvl f i
   ·rw[if_pos c,if_pos (by omega)]
   ·rw[if_neg c]
    by_cases c2:4-((k+1:Nat):Int)<lvl f i
    ·rw[if_pos c2]
     have hl:lvl f i=4-(k:Int):=by omega
     have hne:i≠0:=by intro e; subst e; rw[h.root.2.1] at hl; omega
     rw[adL f xs d hne,fO,hl]
     have:4-(4-(k:Int)).toNat=k:=by omega
     rw[this,if_neg e]; simp
    ·rw[if_neg c2]
theorem aZL (f:aG) (xs:List Int) (i:Nat):0≤kR f xs i∧kR f xs i≤xs.length:=by
 unfold kR
 have:=List.countP_le_length (p:=qD f i) (l:=xs)
 split<;>omega
end Go.PM
namespace Go.PM
open Go Go.Na
structure AQ (C:Ctx):Prop extends amA C where
 bad:∀ (o5 v:Nat) (k w:Int),aJ C 159 [.int .i64 k,.int .i64 w,.ptr o5 1 0 0] (avF o5 v) (fun r H'=>r=.agg [.int .i64 k,.int .i64 v,.int .i64 w]∧H'=avF o5 v)
structure Obs where
 o5:Nat
 o7:Nat
 o8:Nat
 oD:Nat
 oB:Nat
structure Obs.Ne (o:Obs):Prop where
 a1:o.o5≠o.oD
 a2:o.o5≠o.oB
 a3:o.o7≠o.oD
 a4:o.o7≠o.oB
 a5:o.o8≠o.oD
 a6:o.o8≠o.oB
 a7:o.oD≠o.oB
structure hQ (H:PH) (o:Obs) (v:Nat) (p:cG) (A:List Bool) (D B:List Int):Prop where
 h5:H o.o5=some (.rows 1 [[.int .i64 v]])
 h7:H o.o7=some (.rows 17 [p.cells])
 h8:H o.o8=some (.rows 1 (eU A))
 hD:H o.oD=some (.rows 1 (cL D))
 hB:H o.oB=some (.rows 1 (cL B))
theorem hQ.keep {H H':PH} {o:Obs} {v:Nat} {p:cG} {A:List Bool} {D B:List Int} (h:hQ H o v p A D B) (hk:∀ q s' z,3≠s'→H q=some (.rows s' z)→H' q=some (.rows s' z)):hQ H' o v p A D B :=
 ⟨hk _ _ _ (by decide) h.h5,hk _ _ _ (by decide) h.h7,hk _ _ _ (by decide) h.h8,hk _ _ _ (by decide) h.hD,hk _ _ _ (by decide) h.hB⟩
theorem hQ.bfH {H:PH} {o:Obs} {v:Nat} {p:cG} {A:List Bool} {D B:List Int} (h:hQ H o v p A D B) (hn:o.Ne) (B':List Int):hQ (H.set o.oB (.rows 1 (cL B'))) o v p A D B' :=
 ⟨by simp only[aV,if_neg hn.a2,h.h5],by simp only[aV,if_neg hn.a4,h.h7],by simp only[aV,if_neg hn.a6,h.h8],by simp only[aV,if_neg hn.a7,h.hD],by simp only[aV,if_true]⟩
theorem hQ.bfI {H:PH} {o:Obs} {v:Nat} {p:cG} {A:List Bool} {D B:List Int} (h:hQ H o v p A D B) (hn:o.Ne) (D':List Int):hQ (H.set o.oD (.rows 1 (cL D'))) o v p A D' B :=
 ⟨by simp only[aV,if_neg hn.a1,h.h5],by simp only[aV,if_neg hn.a3,h.h7],by simp only[aV,if_neg hn.a5,h.h8],by simp only[aV,if_true],by simp only[aV,if_neg (Ne.symm hn.a7),h.hB]⟩
def iY (f:aG) (o:Obs) (v12 v13:PV) (row:List Int) (k:Nat):PF :=
 ((((((((((((PF.nil.set 3 (.rptr f.cells)).set 5 (.ptr o.o5 1 0 0)).set 7 (.ptr o.o7 17 0 0)).set 8 (.osl o.o8 1 0 f.models.length)).set 11 (.fn 159 [.ptr o.o5 1 0 0])).set 12 (v12)).set 13 (v13)).set 14 (.osl o.oD 1 0 f.drives.length)).set 15 (.osl o.oB 1 0 f.domains.length)).set 62 (ints row)).set 63 (.int .i64 (row.length:Nat))).set 64 (.int .i64 k))
def aLY (f:aG) (o:Obs) (v12 v13:PV) (row:List Int) (k:Nat) (at_:Nat):PF :=
 (((((((((((((PF.nil.set 3 (.rptr f.cells)).set 5 (.ptr o.o5 1 0 0)).set 7 (.ptr o.o7 17 0 0)).set 8 (.osl o.o8 1 0 f.models.length)).set 11 (.fn 159 [.ptr o.o5 1 0 0])).set 12 (v12)).set 13 (v13)).set 14 (.osl o.oD 1 0 f.drives.length)).set 15 (.osl o.oB 1 0 f.domains.length)).set 62 (ints row)).set 63 (.int .i64 (row.length:Nat))).set 64 (.int .i64 k)).set 18 (.int .i64 at_))
theorem a5J {C:Ctx} (f:aG) (hV:VF f) (o:Obs) (hn:o.Ne) (v:Nat) (p:cG) (A:List Bool) (D:List Int) (v12 v13:PV) (R12 R13:List (List PV)) (row:List Int) (k:Nat) (xs:List Int) (hxs:xs.length≤16777216) (d:Nat) (hd:d<f.drives.length) (K:bZ) (F:PF) (H:PH)
  (hF:(aLY f o v12 v13 row k (fG f d)).le F) (hH:hQ H o v p A D (dQ f xs)) (h12:bB H 3 v12 R12) (h13:bB H 3 v13 R13)
  (hK:∀ F' H',(iY f o v12 v13 row k).le F'→hQ H' o v p A D (dQ f (xs++[(d:Int)]))→bB H' 3 v12 R12→bB H' 3 v13 R13→K .normal F' H') :
  aD.wp C (.block 4 (.loop xD)) K F H:=by
 simp -implicitDefEqProofs only[go_sem]
 refine wp_loop (α:=Nat × PH) (fun t=>aLY f o v12 v13 row k (upN f t.1 (fG f d))) (fun t=>t.2) (fun t=>t.1≤4∧hQ t.2 o v p A D (oK f xs d t.1)∧bB t.2 3 v12 R12∧bB t.2 3 v13 R13) (fun t=>4-t.1) (0,H) ⟨bhE _,by rw[aNK hV]; exact hH,h12,h13⟩ (by rw[upN]; exact hF) PH.le_refl ?_
 rintro⟨j,H0⟩ ⟨hj,hR,g12,g13⟩
 simp only at hj hR g12 g13 ⊢
 obtain⟨u1,u2⟩:=LZ hV hd (k:=j) hj
 simp -implicitDefEqProofs only[go_sem,γ,xD,ajD,aLY]
 by_cases hlt:j<4
 ·have hne:0<upN f j (fG f d):=by
   rcases bjA (upN f j (fG f d)) with e | e
   ·rw[e,hV.root.2.1] at u2; omega
   ·exact e
  have hc:((upN f j (fG f d):Nat):Int)>0:=by omega
  obtain⟨b1,b2⟩:=aZM hV xs hd hlt
  have hat:(cL (oK f xs d j))[upN f j (fG f d)]?=some [.int .i64 (kR f xs (upN f j (fG f d)))]:=by
   unfold cL; rw[biH,b1]; rfl
  have hdl:=aZL f xs (upN f j (fG f d))
  have hw:IntKind.i64.wrap (kR f xs (upN f j (fG f d))+1)=kR f xs (upN f j (fG f d))+1:=wrap_i64 (by omega) (by omega)
  have hlN:((upN f j (fG f d):Nat):Int)<(f.domains.length:Nat):=by omega
  simp -implicitDefEqProofs only[go_sem,δ,γ,θ,hc,ajE,hlN,bhS,hR.hB,hat,hw,mK,b2,ajF,mV u1,YO u1,hV.aGQ hne u1]
  refine aI (j+1,_) ⟨hlt,hR.bfH hn _,g12.set hR.hB (by decide),g13.set hR.hB (by decide)⟩ (by simp only; omega) ?_ PH.le_refl
  (repeat' (first|exact PF.nil_le|refine PF.aA ?_ ?_))<;>first|(simp -implicitDefEqProofs only[go_sem,γ,upN]<;>rfl)|rfl
 ·have:j=4:=by omega
  subst this
  have h0:upN f 4 (fG f d)=0:=by
   have:=hV.pA u1
   omega
  have hc:¬ ((upN f 4 (fG f d):Nat):Int)>0:=by omega
  simp -implicitDefEqProofs only[go_sem,ε,hc]
  rw[aNJ hV] at hR
  refine hK _ _ ?_ hR g12 g13
  unfold iY
  (repeat' (first|exact PF.nil_le|refine PF.aA ?_ ?_))<;>first|(simp -implicitDefEqProofs only[go_sem,γ]<;>rfl)|rfl
structure alH (f:aG) (row:List Int):Prop where
 len:row.length≤16777216
 at_:∀ x∈row,-1≤x∧x<(f.drives.length:Nat)
def home (row:List Int) (i:Nat):Bool:=decide (row.getD i 0<0)
def dT (f:aG) (p:cG) (row:List Int) (i:Nat):Bool:=decide (0≤row.getD i 0)&&!p.models.contains ((mdl f (row.getD i 0).toNat:Nat):Int)
theorem aNI (f:aG) (xs:List Int) {x:Int} (h:x<0):dQ f (xs++[x])=dQ f xs:=by
 refine bjH (by simp[dQ]) fun i h1 h2=>?_
 simp only[dQ,biI,List.getElem_range,kR,List.countP_append]
 have:qD f i x=false:=by simp[qD]; omega
 simp[this]
theorem aWR {C:Ctx} (L:AQ C) (f:aG) (hV:VF f) (o:Obs) (hn:o.Ne) (v:Nat) (p:cG) (hp:∀ m∈p.models,0≤m∧m<f.models.length) (row:List Int) (hr:alH f row) (K:bZ) (F:PF) (H:PH)
  (hF:(iY f o .nils .nils row 0).le F) (hH:hQ H o v p (marks f.models.length p.models) (dW f.drives.length []) (dQ f []))
  (hK:∀ v12 v13 F' H',(iY f o v12 v13 row row.length).le F'→hQ H' o v p (marks f.models.length p.models) (dW f.drives.length row) (dQ f row)→bB H' 3 v12 (dR (cF 2 v row.length (home row)))→bB H' 3 v13 (dR (cF 4 v row.length (dT f p row)))→Dis 3 v12 v13→K (.exit 2) F' H') :
  aD.wp C (.loop pH) K F H:=by
 obtain⟨hr1,hr2⟩:=hr
 refine wp_loop (α:=Nat × PV × PV × PH) (fun t=>iY f o t.2.1 t.2.2.1 row t.1) (fun t=>t.2.2.2)
  (fun t=>t.1≤row.length∧hQ t.2.2.2 o v p (marks f.models.length p.models) (dW f.drives.length (row.take t.1)) (dQ f (row.take t.1))∧bB t.2.2.2 3 t.2.1 (dR (cF 2 v t.1 (home row)))∧bB t.2.2.2 3 t.2.2.1 (dR (cF 4 v t.1 (dT f p row)))∧Dis 3 t.2.1 t.2.2.1)
  (fun t=>row.length-t.1) (0,.nils,.nils,H) ⟨bhE _,by rw[List.take_zero]; exact hH,.nil,.nil,.nil⟩ hF PH.le_refl ?_
 rintro⟨k,v12,v13,H0⟩ ⟨hk,hR,h12,h13,hd⟩
 simp only at hk hR h12 h13 hd ⊢
 by_cases hlt:k<row.length
 ·have hlt':(k:Int)<(row.length:Nat):=by omega
  have hrk:(row.map fun n=>[PV.int .i64 n])[k]?=some [.int .i64 row[k]]:=by simp[hlt]
  have hg:row.getD k 0=row[k]:=by simp[bhQ,hlt]
  have htk:row.take (k+1)=row.take k++[row[k]]:=biZ hlt
  have hx:=hr2 row[k] (bgY hlt)
  have e2:=mP 2 v k (home row)
  have e4:=mP 4 v k (dT f p row)
  have hh:home row k=decide (row[k]<0):=by rw[home,hg]
  have ha:dT f p row k=(decide (0≤row[k])&&!p.models.contains ((mdl f (row[k]).toNat:Nat):Int)):=by rw[dT,hg]
  have l2:=fJ 2 v k (home row)
  have l4:=fJ 4 v k (dT f p row)
  have fin:∀ v12' v13' (F:PF) (H1:PH),(iY f o v12' v13' row (k+1)).le F→hQ H1 o v p (marks f.models.length p.models) (dW f.drives.length (row.take (k+1))) (dQ f (row.take (k+1)))→bB H1 3 v12' (dR (cF 2 v (k+1) (home row)))→bB H1 3 v13' (dR (cF 4 v (k+1) (dT f p row)))→Dis 3 v12' v13' →
    eZ (fun (t:Nat × PV × PV × PH)=>iY f o t.2.1 t.2.2.1 row t.1) (fun t=>t.2.2.2)
     (fun t=>t.1≤row.length∧hQ t.2.2.2 o v p (marks f.models.length p.models) (dW f.drives.length (row.take t.1)) (dQ f (row.take t.1))∧bB t.2.2.2 3 t.2.1 (dR (cF 2 v t.1 (home row)))∧bB t.2.2.2 3 t.2.2.1 (dR (cF 4 v t.1 (dT f p row)))∧Dis 3 t.2.1 t.2.2.1)
     (fun t=>row.length-t.1) (row.length-k) K .normal F H1 :=
   fun v12' v13' F H1 hF hR h1 h2 h3=>aI (α:=Nat × PV × PV × PH) (k+1,v12',v13',H1) ⟨hlt,hR,h1,h2,h3⟩ (by simp only; omega) hF PH.le_refl
  generalize hxe:row[k]=x at *
  by_cases c:x<0
  ·have o1:=QZ (n:=f.drives.length) (row.take k) (x:=x) (by omega)
   have o2:=aNI f (row.take k) c
   rw[htk,o1,o2] at fin
   rw[if_pos (by rw[hh]; simp[c])] at e2
   rw[if_neg (by rw[ha]; simp; omega)] at e4
   rw[e2,e4] at fin
   simp -implicitDefEqProofs only[go_sem,γ,pH,sY,iY,hlt',xE,hrk,xF,c,ajB]
   refine⟨159,[.ptr o.o5 1 0 0],rfl,?_⟩
   refine uH (vs:=[.int .i64 2,.int .i64 k]) (L.bad o.o5 v 2 k) rfl (PH.aA PH.nil_le hR.h5) ?_
   have hone:(1:Nat)*3≤16777216:=by decide
   simp -implicitDefEqProofs only[go_sem,υ,δ,γ,η,ζ,hone]
   refine jX (src:=[(⟨2,v,k⟩:gT).cells]) h12 h13 hd rfl (by unfold roomFor; rw[jD]; simp only[bhA,maxLen]; omega) fun v' H' g1 g2 g3 g4=>?_
   rw[nK] at g1
   unfold iY at fin
   simp -implicitDefEqProofs only[go_sem,γ,xG,aK (show k<9223372036854775807 by omega)]
   exact fin v' v13 _ H' (by (repeat' (first|exact PF.nil_le|refine PF.aA ?_ ?_))<;>first|(simp -implicitDefEqProofs only[go_sem,γ]<;>rfl)|rfl) (hR.keep g4) g1 g2 g3
  ·obtain⟨d,rfl⟩:∃ d:Nat,x=d:=⟨x.toNat,by omega⟩
   have hdl:d<f.drives.length:=by omega
   have hdl':(d:Int)<(f.drives.length:Nat):=by omega
   obtain⟨w1,w2,w3,w4,w5⟩:=hV.drive d hdl
   have c0:(0:Int)≤(d:Int):=by omega
   rw[if_neg (by rw[hh]; simp)] at e2
   rw[decide_eq_true c0,bhP,bjT] at ha
   have hcnt:(row.take k).count (d:Int)≤16777216:=bjM (List.count_le_length ..) (by rw[bhJ]; omega)
   have hw:IntKind.i64.wrap ((((row.take k).count (d:Int):Nat):Int)+1)=(((row.take k).count (d:Int):Nat):Int)+1:=wrap_i64 (by omega) (by omega)
   have hcat:=oO (l:=dW f.drives.length (row.take k)) (i:=d) (by rw[iD]; exact hdl)
   rw[aBG _ hdl] at hcat
   have hcin:=aBH (row.take k) hdl
   have hxl:(row.take k).length≤16777216:=by rw[bhJ]; omega
   rw[e2,htk] at fin
   have tail:∀ v13' (F:PF) (H1:PH),(iY f o v12 v13' row k).le F→F 17=some (.int .i64 d)→hQ H1 o v p (marks f.models.length p.models) (dW f.drives.length (row.take k)) (dQ f (row.take k))→bB H1 3 v12 (dR (cF 2 v k (home row)))→bB H1 3 v13' (dR (cF 4 v (k+1) (dT f p row)))→Dis 3 v12 v13' →
     aD.wp C (.seq (.region LG) (.seq (.region LH) (.block 4 (.loop xD)))) (dY 3 (iZ C (aD.wp C (.region xG)) (eZ (fun (t:Nat × PV × PV × PH)=>iY f o t.2.1 t.2.2.1 row t.1) (fun t=>t.2.2.2)
     (fun t=>t.1≤row.length∧hQ t.2.2.2 o v p (marks f.models.length p.models) (dW f.drives.length (row.take t.1)) (dQ f (row.take t.1))∧bB t.2.2.2 3 t.2.1 (dR (cF 2 v t.1 (home row)))∧bB t.2.2.2 3 t.2.2.1 (dR (cF 4 v t.1 (dT f p row)))∧Dis 3 t.2.1 t.2.2.1)
     (fun t=>row.length-t.1) (row.length-k) K))) F H1:=by
    intro v13' F H1 hF f17 hR1 g12 g13 gd
    have f3:F 3=some (.rptr f.cells):=hF 3 _ (by unfold iY; simp -implicitDefEqProofs only[go_sem,γ])
    have f14:F 14=some (.osl o.oD 1 0 f.drives.length):=hF 14 _ (by unfold iY; simp -implicitDefEqProofs only[go_sem,γ])
    simp -implicitDefEqProofs only[go_sem,δ,γ,θ,LG,f14,f17,hdl',bhS,hR1.hD,hcat,hw,mK,hcin,LH,f3,oW hdl,hV.aED hdl]
    have up:=a5J (C:=C) f hV o hn v p (marks f.models.length p.models) (dW f.drives.length (row.take k++[(d:Int)])) v12 v13' (dR (cF 2 v k (home row))) (dR (cF 4 v (k+1) (dT f p row))) row k (row.take k) hxl d hdl
    simp only[aD.wp,go_sem] at up
    refine up _ _ _ ?_ (hR1.bfI hn _) (g12.set hR1.hD (by decide)) (g13.set hR1.hD (by decide)) ?_
    ·have g:=fun (q:Nat) u h=>hF q u h
     unfold iY at g
     unfold aLY
     refine PF.aA (PF.aA (PF.aA (PF.aA (PF.aA (PF.aA (PF.aA (PF.aA (PF.aA (PF.aA (PF.aA (PF.aA (PF.aA PF.nil_le ?_) ?_) ?_) ?_) ?_) ?_) ?_) ?_) ?_) ?_) ?_) ?_) ?_
     ·simp -implicitDefEqProofs only[go_sem,γ]; exact g 3 _ rfl
     ·simp -implicitDefEqProofs only[go_sem,γ]; exact g 5 _ rfl
     ·simp -implicitDefEqProofs only[go_sem,γ]; exact g 7 _ rfl
     ·simp -implicitDefEqProofs only[go_sem,γ]; exact g 8 _ rfl
     ·simp -implicitDefEqProofs only[go_sem,γ]; exact g 11 _ rfl
     ·simp -implicitDefEqProofs only[go_sem,γ]; exact g 12 _ rfl
     ·simp -implicitDefEqProofs only[go_sem,γ]; exact g 13 _ rfl
     ·simp -implicitDefEqProofs only[go_sem,γ]; exact g 14 _ rfl
     ·simp -implicitDefEqProofs only[go_sem,γ]; exact g 15 _ rfl
     ·simp -implicitDefEqProofs only[go_sem,γ]; exact g 62 _ rfl
     ·simp -implicitDefEqProofs only[go_sem,γ]; exact g 63 _ rfl
     ·simp -implicitDefEqProofs only[go_sem,γ]; exact g 64 _ rfl
     ·simp -implicitDefEqProofs only[go_sem,γ]
    ·intro F' H' hF' hR' g12' g13'
     have g:=fun (q:Nat) u h=>hF' q u h
     unfold iY at g
     have f64:F' 64=some (.int .i64 k):=g 64 _ rfl
     simp -implicitDefEqProofs only[go_sem,xG,f64,aK (show k<9223372036854775807 by omega)]
     refine fin v12 v13' _ H' ?_ hR' g12' g13' gd
     unfold iY
     refine PF.aA (PF.aA (PF.aA (PF.aA (PF.aA (PF.aA (PF.aA (PF.aA (PF.aA (PF.aA (PF.aA (PF.aA PF.nil_le ?_) ?_) ?_) ?_) ?_) ?_) ?_) ?_) ?_) ?_) ?_) ?_
     ·simp -implicitDefEqProofs only[go_sem,γ]; exact g 3 _ rfl
     ·simp -implicitDefEqProofs only[go_sem,γ]; exact g 5 _ rfl
     ·simp -implicitDefEqProofs only[go_sem,γ]; exact g 7 _ rfl
     ·simp -implicitDefEqProofs only[go_sem,γ]; exact g 8 _ rfl
     ·simp -implicitDefEqProofs only[go_sem,γ]; exact g 11 _ rfl
     ·simp -implicitDefEqProofs only[go_sem,γ]; exact g 12 _ rfl
     ·simp -implicitDefEqProofs only[go_sem,γ]; exact g 13 _ rfl
     ·simp -implicitDefEqProofs only[go_sem,γ]; exact g 14 _ rfl
     ·simp -implicitDefEqProofs only[go_sem,γ]; exact g 15 _ rfl
     ·simp -implicitDefEqProofs only[go_sem,γ]; exact g 62 _ rfl
     ·simp -implicitDefEqProofs only[go_sem,γ]; exact g 63 _ rfl
     ·simp -implicitDefEqProofs only[go_sem,γ]
   simp only[aD.wp,go_sem] at tail
   have hml:((mdl f d:Nat):Int)<(f.models.length:Nat):=by omega
   have hmk:(eU (marks f.models.length p.models))[mdl f d]?=some [.bool (p.models.contains ((mdl f d:Nat):Int))]:=by
    have:=SG (n:=f.models.length) (l:=p.models) (m:=((mdl f d:Nat):Int)) (by omega) hml
    rw[bjT] at this
    unfold eU
    rw[biH,this]; rfl
   cases hb:p.models.contains ((mdl f d:Nat):Int) with
   | true =>
    rw[hb] at hmk ha
    rw[if_neg (by rw[ha]; simp)] at e4
    rw[e4] at tail
    simp -implicitDefEqProofs only[go_sem,δ,γ,θ,pH,sY,iY,hlt',xE,hrk,xF,c,LF,oW hdl,hV.WP hdl,hml,bhS,hR.h8,hmk,bhC]
    exact tail v13 _ H0 (by unfold iY; (repeat' (first|exact PF.nil_le|refine PF.aA ?_ ?_))<;>first|(simp -implicitDefEqProofs only[go_sem,γ]<;>rfl)|rfl) rfl hR h12 h13 hd
   | false =>
    rw[hb] at hmk ha
    rw[if_pos (by rw[ha]; simp)] at e4
    rw[e4] at tail
    simp -implicitDefEqProofs only[go_sem,δ,γ,θ,pH,sY,iY,hlt',xE,hrk,xF,c,LF,oW hdl,hV.WP hdl,hml,bhS,hR.h8,hmk,bhN,ajC]
    refine⟨159,[.ptr o.o5 1 0 0],rfl,?_⟩
    refine uH (vs:=[.int .i64 4,.int .i64 k]) (L.bad o.o5 v 4 k) rfl (PH.aA PH.nil_le hR.h5) ?_
    have hone:(1:Nat)*3≤16777216:=by decide
    simp -implicitDefEqProofs only[go_sem,υ,δ,γ,η,ζ,hone]
    refine jX (src:=[(⟨4,v,k⟩:gT).cells]) h13 h12 hd.symm rfl (by unfold roomFor; rw[jD]; simp only[bhA,maxLen]; omega) fun v' H' g1 g2 g3 g4=>?_
    rw[nK] at g1
    exact tail v' _ H' (by unfold iY; (repeat' (first|exact PF.nil_le|refine PF.aA ?_ ?_))<;>first|(simp -implicitDefEqProofs only[go_sem,γ]<;>rfl)|rfl) rfl (hR.keep g4) g2 g1 g3.symm
 ·have hlt':¬ (k:Int)<(row.length:Nat):=by omega
  have:k=row.length:=by omega
  subst this
  rw[bhZ] at hR
  simp -implicitDefEqProofs only[go_sem,γ,pH,sY,iY,hlt']
  exact hK v12 v13 _ _ (by unfold iY; (repeat' (first|exact PF.nil_le|refine PF.aA ?_ ?_))<;>first|(simp -implicitDefEqProofs only[go_sem,γ]<;>rfl)|rfl) hR h12 h13 hd
end Go.PM
namespace Go.PM
open Go Go.Na
def mD (f:aG) (row:List Int) (d:Nat):Bool:=decide ((dW f.drives.length row).getD d 0>1)
def dN (f:aG) (p:cG) (i:Nat):Int:=p.spread (lvl f i).toNat
def pT (f:aG) (p:cG) (row:List Int) (i:Nat):Bool:=decide (dN f p i>0)&&decide ((dQ f row).getD i 0>dN f p i)
def oC (f:aG) (p:cG) (v:Nat) (row:List Int):List gT :=
 cF 2 v row.length (home row)++cF 3 v f.drives.length (mD f row)++cF 4 v row.length (dT f p row)++cF 5 v f.domains.length (pT f p row)
def ES (f:aG) (o:Obs) (v13 v19:PV) (k:Nat):PF :=
 ((((((((((PF.nil.set 3 (.rptr f.cells)).set 5 (.ptr o.o5 1 0 0)).set 7 (.ptr o.o7 17 0 0)).set 11 (.fn 159 [.ptr o.o5 1 0 0])).set 13 (v13)).set 15 (.osl o.oB 1 0 f.domains.length)).set 19 (v19)).set 121 (.osl o.oD 1 0 f.drives.length)).set 122 (.int .i64 (f.drives.length:Nat))).set 123 (.int .i64 k))
def alI (f:aG) (o:Obs) (v19:PV) (k:Nat):PF :=
 ((((((((PF.nil.set 3 (.rptr f.cells)).set 5 (.ptr o.o5 1 0 0)).set 7 (.ptr o.o7 17 0 0)).set 11 (.fn 159 [.ptr o.o5 1 0 0])).set 19 (v19)).set 140 (.osl o.oB 1 0 f.domains.length)).set 141 (.int .i64 (f.domains.length:Nat))).set 142 (.int .i64 k))
theorem aRB {C:Ctx} (L:AQ C) (f:aG) (hV:VF f) (o:Obs) (v:Nat) (p:cG) (A:List Bool) (B:List Int) (row:List Int) (l0:List gT) (hl0:l0.length≤16777216) (v13 v19:PV) (R13:List (List PV)) (K:bZ) (F:PF) (H:PH)
  (hF:(ES f o v13 v19 0).le F) (hH:hQ H o v p A (dW f.drives.length row) B) (h19:bB H 3 v19 (dR l0)) (h13:bB H 3 v13 R13) (hd:Dis 3 v19 v13)
  (hK:∀ v' F' H',(ES f o v13 v' f.drives.length).le F'→hQ H' o v p A (dW f.drives.length row) B→bB H' 3 v' (dR (l0++cF 3 v f.drives.length (mD f row)))→bB H' 3 v13 R13→Dis 3 v' v13→K (.exit 6) F' H') :
  aD.wp C (.loop LD) K F H:=by
 have hs:=hV.small.drives
 refine wp_loop (α:=Nat × PV × PH) (fun t=>ES f o v13 t.2.1 t.1) (fun t=>t.2.2) (fun t=>t.1≤f.drives.length∧hQ t.2.2 o v p A (dW f.drives.length row) B∧bB t.2.2 3 t.2.1 (dR (l0++cF 3 v t.1 (mD f row)))∧bB t.2.2 3 v13 R13∧Dis 3 t.2.1 v13) (fun t=>f.drives.length-t.1) (0,v19,H)
  ⟨bhE _,hH,by rw[show cF 3 v 0 (mD f row)=[] from rfl,biN]; exact h19,h13,hd⟩ hF PH.le_refl ?_
 rintro⟨k,v',H0⟩ ⟨hk,hR,g19,g13,gd⟩
 simp only at hk hR g19 g13 gd ⊢
 simp -implicitDefEqProofs only[go_sem,γ,LD,ajI,ES]
 by_cases hlt:k<f.drives.length
 ·have hlt':(k:Int)<(f.drives.length:Nat):=by omega
  have hat:=oO (l:=dW f.drives.length row) (i:=k) (by rw[iD]; exact hlt)
  have hgk:(dW f.drives.length row).getD k 0=(dW f.drives.length row)[k]'(by rw[iD]; exact hlt):=by
   rw[bhQ,bhH (by rw[iD]; exact hlt)]; rfl
  have e3:=mP 3 v k (mD f row)
  have ht:mD f row k=decide ((dW f.drives.length row)[k]'(by rw[iD]; exact hlt)>1):=by rw[mD,hgk]
  have hl3:=fJ 3 v k (mD f row)
  simp -implicitDefEqProofs only[go_sem,γ,hlt',ajJ,bhS,hR.hD,hat,ajK]
  by_cases c:(dW f.drives.length row)[k]'(by rw[iD]; exact hlt)>1
  ·rw[if_pos (by rw[ht]; simp[c])] at e3
   simp -implicitDefEqProofs only[go_sem,γ,c,ajL]
   refine⟨159,[.ptr o.o5 1 0 0],rfl,?_⟩
   refine uH (vs:=[.int .i64 3,.int .i64 k]) (L.bad o.o5 v 3 k) rfl (PH.aA PH.nil_le hR.h5) ?_
   have hone:(1:Nat)*3≤16777216:=by decide
   simp -implicitDefEqProofs only[go_sem,υ,δ,γ,η,ζ,hone]
   refine jX (src:=[(⟨3,v,k⟩:gT).cells]) g19 g13 gd rfl (by unfold roomFor; rw[jD,bgW]; simp only[bhA,maxLen]; omega) fun v' H' k1 k2 k3 k4=>?_
   rw[nK,bhY,← e3] at k1
   simp -implicitDefEqProofs only[go_sem,γ,LJ,aK (show k<9223372036854775807 by omega)]
   refine aI (k+1,v',H') ⟨hlt,hR.keep k4,k1,k2,k3⟩ (by simp only; omega) ?_ PH.le_refl
   (repeat' (first|exact PF.nil_le|refine PF.aA ?_ ?_))<;>first|(simp -implicitDefEqProofs only[go_sem,γ]<;>rfl)|rfl
  ·rw[if_neg (by rw[ht]; simp; omega)] at e3
   rw[← e3] at g19
   simp -implicitDefEqProofs only[go_sem,γ,c,LJ,aK (show k<9223372036854775807 by omega)]
   refine aI (k+1,v',H0) ⟨hlt,hR,g19,g13,gd⟩ (by simp only; omega) ?_ PH.le_refl
   (repeat' (first|exact PF.nil_le|refine PF.aA ?_ ?_))<;>first|(simp -implicitDefEqProofs only[go_sem,γ]<;>rfl)|rfl
 ·have hlt':¬ (k:Int)<(f.drives.length:Nat):=by omega
  have:k=f.drives.length:=by omega
  subst this
  simp -implicitDefEqProofs only[go_sem,hlt']
  exact hK v' _ _ (by unfold ES; (repeat' (first|exact PF.nil_le|refine PF.aA ?_ ?_))<;>first|(simp -implicitDefEqProofs only[go_sem,γ]<;>rfl)|rfl) hR g19 g13 gd
theorem aLZ {C:Ctx} (f:aG) (hV:VF f) (o:Obs) (v:Nat) (p:cG) (A:List Bool) (D B:List Int) (i:Nat) (hi:i<f.domains.length) (K:PF→PH→Prop) (F:PF) (H:PH)
  (hH:hQ H o v p A D B) (f3:F 3=some (.rptr f.cells)) (f7:F 7=some (.ptr o.o7 17 0 0)) (f22:F 22=some (.int .i64 i))
  (hK:∀ F':PF,F' 24=some (.int .i64 (dN f p i))→(∀ j,j<147→j≠24→F' j=F j)→K F' H):wpOps C LK K F H:=by
 obtain⟨l0,l4,-⟩:=hV.pA hi
 have h5:((lvl f i)<((5:Nat):Int)):=by omega
 unfold dN at hK
 simp -implicitDefEqProofs only[go_sem,δ,γ,θ,LK,f3,f7,f22,mV hi,arL hi,l0,h5,Nat.mul_one]
 have hc:lvl f i=0∨lvl f i=1∨lvl f i=2∨lvl f i=3∨lvl f i=4:=by omega
 have fin:∀ (F':PF),F' 24=some (.int .i64 (p.spread (lvl f i).toNat))→(∀ j,j<147→j≠24→F' j=F j)→K F' H:=hK
 have low:∀ (j:Nat),j<147→j≠147∧j≠148∧j≠149∧j≠150∧j≠151∧j≠152∧j≠153∧j≠154∧j≠155:=by omega
 rcases hc with h | h | h | h | h
 all_goals
  rw[h] at fin ⊢
  simp -implicitDefEqProofs only[go_sem,ν,δ,γ,θ,hH.h7]
  refine fin _ rfl fun j hj hj2=>?_
  obtain⟨n1,n2,n3,n4,n5,n6,n7,n8,n9⟩:=low j hj
  simp -implicitDefEqProofs only[go_sem,hj2,n1,n2,n3,n4,n5,n6,n7,n8,n9]
theorem aRA {C:Ctx} (L:AQ C) (f:aG) (hV:VF f) (o:Obs) (v:Nat) (p:cG) (A:List Bool) (D:List Int) (row:List Int) (l0:List gT) (hl0:l0.length≤100000000) (v19:PV) (K:bZ) (F:PF) (H:PH)
  (hF:(alI f o v19 0).le F) (hH:hQ H o v p A D (dQ f row)) (h19:bB H 3 v19 (dR l0))
  (hK:∀ v' F' H',F' 19=some v'→bB H' 3 v' (dR (l0++cF 5 v f.domains.length (pT f p row)))→K (.exit 8) F' H') :
  aD.wp C (.loop LE) K F H:=by
 have hs:=hV.small.domains
 refine wp_loop (α:=Nat × PV × PH) (fun t=>alI f o t.2.1 t.1) (fun t=>t.2.2) (fun t=>t.1≤f.domains.length∧hQ t.2.2 o v p A D (dQ f row)∧bB t.2.2 3 t.2.1 (dR (l0++cF 5 v t.1 (pT f p row)))) (fun t=>f.domains.length-t.1) (0,v19,H)
  ⟨bhE _,hH,by rw[show cF 5 v 0 (pT f p row)=[] from rfl,biN]; exact h19⟩ hF PH.le_refl ?_
 rintro⟨k,v',H0⟩ ⟨hk,hR,g19⟩
 simp only at hk hR g19 ⊢
 simp -implicitDefEqProofs only[go_sem,γ,LE,ajO,alI]
 by_cases hlt:k<f.domains.length
 ·have hlt':(k:Int)<(f.domains.length:Nat):=by omega
  have hat:=oO (l:=dQ f row) (i:=k) (by rw[sM]; exact hlt)
  have hgk:(dQ f row).getD k 0=(dQ f row)[k]'(by rw[sM]; exact hlt):=by
   rw[bhQ,bhH (by rw[sM]; exact hlt)]; rfl
  have e5:=mP 5 v k (pT f p row)
  have hl5:=fJ 5 v k (pT f p row)
  have ht:pT f p row k=(decide (dN f p k>0)&&decide ((dQ f row)[k]'(by rw[sM]; exact hlt)>dN f p k)):=by rw[pT,hgk]
  generalize (dQ f row)[k]'(by rw[sM]; exact hlt)=cnt at *
  simp -implicitDefEqProofs only[go_sem,γ,hlt',ajP,bhS,hR.hB,hat]
  refine aLZ f hV o v p A D (dQ f row) k hlt _ _ _ hR rfl rfl rfl fun F' h24 hlow=>?_
  have g:=fun (q:Nat) (h1:q<147) (h2:q≠24)=>hlow q h1 h2
  have q3:=g 3 (by decide) (by decide)
  have q5:=g 5 (by decide) (by decide)
  have q7:=g 7 (by decide) (by decide)
  have q11:=g 11 (by decide) (by decide)
  have q19:=g 19 (by decide) (by decide)
  have aWN:=g 140 (by decide) (by decide)
  have aWO:=g 141 (by decide) (by decide)
  have acW:=g 142 (by decide) (by decide)
  have q22:=g 22 (by decide) (by decide)
  have q23:=g 23 (by decide) (by decide)
  simp -implicitDefEqProofs only [go_sem,Nat.reduceEqDiff,reduceIte] at q3 q5 q7 q11 q19 aWN aWO acW q22 q23
  by_cases c1:dN f p k>0
  ·by_cases c2:cnt>dN f p k
   ·rw[if_pos (by rw[ht]; simp[c1,c2])] at e5
    simp -implicitDefEqProofs only[go_sem,γ,xH,h24,q23,c1,c2,ajQ,q19,q11,q22]
    refine⟨159,[.ptr o.o5 1 0 0],rfl,?_⟩
    refine uH (vs:=[.int .i64 5,.int .i64 k]) (L.bad o.o5 v 5 k) rfl (PH.aA PH.nil_le hR.h5) ?_
    have hone:(1:Nat)*3≤16777216:=by decide
    simp -implicitDefEqProofs only[go_sem,υ,δ,γ,η,ζ,hone]
    refine jX (rows':=[]) (u:=.nils) (src:=[(⟨5,v,k⟩:gT).cells]) g19 .nil (fun _ _ _ _ _ h=>by cases h) rfl (by unfold roomFor; rw[jD,bgW]; simp only[bhA,maxLen]; omega) fun v' H' k1 k2 k3 k4=>?_
    rw[nK,bhY,← e5] at k1
    simp -implicitDefEqProofs only[go_sem,γ,xI,acW,aK (show k<9223372036854775807 by omega)]
    refine aI (k+1,v',H') ⟨hlt,hR.keep k4,k1⟩ (by simp only; omega) ?_ PH.le_refl
    repeat' first|exact PF.nil_le|refine PF.aA ?_ ?_|rfl|assumption
   ·rw[if_neg (by rw[ht]; simp; omega)] at e5
    rw[← e5] at g19
    simp -implicitDefEqProofs only[go_sem,γ,xH,h24,q23,c1,c2,xI,acW,aK (show k<9223372036854775807 by omega)]
    refine aI (k+1,v',H0) ⟨hlt,hR,g19⟩ (by simp only; omega) ?_ PH.le_refl
    repeat' first|exact PF.nil_le|refine PF.aA ?_ ?_|rfl|assumption
  ·rw[if_neg (by rw[ht]; simp; omega)] at e5
   rw[← e5] at g19
   simp -implicitDefEqProofs only[go_sem,γ,reduceCtorEq,xH,h24,q23,c1,xI,acW,aK (show k<9223372036854775807 by omega)]
   refine aI (k+1,v',H0) ⟨hlt,hR,g19⟩ (by simp only; omega) ?_ PH.le_refl
   repeat' first|exact PF.nil_le|refine PF.aA ?_ ?_|rfl|assumption
 ·have hlt':¬ (k:Int)<(f.domains.length:Nat):=by omega
  have:k=f.domains.length:=by omega
  subst this
  simp -implicitDefEqProofs only[go_sem,hlt']
  exact hK v' _ _ rfl g19
end Go.PM
namespace Go.PM
open Go Go.Na
theorem amM (n:Nat):bgV n [PV.bool false]=eU (marks n []):=by rw[afE]; simp[eU]
theorem aMZ (n:Nat):bgV n [PV.int .i64 0]=cL (dW n []):=by rw[amP,rO]
theorem aTG (f:aG):bgV f.domains.length [PV.int .i64 0]=cL (dQ f []):=by
 have:dQ f []=bgV f.domains.length 0:=by
  refine bjH (by simp[dQ]) fun i h1 h2=>?_
  simp[dQ,kR]
 rw[this,rO]
def aLX (f:aG) (l:List (List Int)) (o5 o7 o8:Nat) (ms:List Int) (k:Nat):PF :=
 ((((((((PF.nil.set 1 (lay l)).set 3 (.rptr f.cells)).set 5 (.ptr o5 1 0 0)).set 7 (.ptr o7 17 0 0)).set 8 (.osl o8 1 0 f.models.length)).set 40 (ints ms)).set 41 (.int .i64 (ms.length:Nat))).set 42 (.int .i64 k))
theorem aXJ {C:Ctx} (L:AQ C) (f:aG) (hV:VF f) (hfit:∀ p∈f.policies,Fits p.models) (l:List (List Int)) (v:Nat) (hv:v<l.length) (hvf:v<f.volumes.length) (hr:alH f l[v]) :
  FJ.wp C (aY alJ.res (bY (UF (oC f (eJ f v) v l[v])))) (PF.args [.agg f.cells,lay l,.int .i64 v]) .nil:=by
 obtain⟨hp,he⟩:=mN hV hvf
 have hpol:=hV.policy _ (bgY hp)
 have hms:=hfit _ (bgY hp)
 rw[he] at hpol hms
 generalize hpe:eJ f v=p at *
 have hpm:=hpol.2.2.2.2.2.2.2
 have hrow:(l.map fun r=>[ints r])[v]?=some [ints l[v]]:=by simp[hv]
 generalize l[v]=row at *
 have hs:=hV.small
 have hb1:((f.models.length:Nat):Int)*((1:Nat):Int)≤140737488355328:=by have:=hs.models; omega
 have hb2:((f.models.length:Nat):Int)≤9223372036854775807:=by have:=hs.models; omega
 have hb3:((f.drives.length:Nat):Int)*((8:Nat):Int)≤140737488355328:=by have:=hs.drives; omega
 have hb4:((f.drives.length:Nat):Int)≤9223372036854775807:=by have:=hs.drives; omega
 have hb5:((f.domains.length:Nat):Int)*((8:Nat):Int)≤140737488355328:=by have:=hs.domains; omega
 have hb6:((f.domains.length:Nat):Int)≤9223372036854775807:=by have:=hs.domains; omega
 simp -implicitDefEqProofs only[go_sem,γ,FJ,axM]
 refine aQ fun o5 h5=>?_
 simp -implicitDefEqProofs only[go_sem]
 refine cA (PH.nil.set o5 (.rows 1 [[.int .i64 v]])) dU (PH.aA PH.nil_le (by simp -implicitDefEqProofs only[go_sem])) ?_
 simp -implicitDefEqProofs only[go_sem,δ,γ,θ,reduceCtorEq,axN,uG hvf,hV.YQ hvf,sB hp,he]
 refine aQ fun o7 h7=>?_
 have n57:o5≠o7:=by rintro rfl; simp only[aV,if_true] at h7; cases h7
 simp -implicitDefEqProofs only[go_sem,δ,γ,n57]
 refine⟨PH.aA PH.nil_le (by simp -implicitDefEqProofs only[go_sem,n57]),?_⟩
 simp -implicitDefEqProofs only[go_sem,δ,γ,θ,axO,bgT,hb1,hb2]
 refine aQ fun o8 h8=>?_
 have n58:o5≠o8:=by rintro rfl; simp only[aV,n57,if_true,if_false] at h8; cases h8
 have n78:o7≠o8:=by rintro rfl; simp only[aV,if_true] at h8; cases h8
 simp -implicitDefEqProofs only[go_sem,δ,γ,θ,axP,n78,bgT]
 rw[amM]
 refine wp_loop (α:=Nat) (fun k=>aLX f l o5 o7 o8 p.models k) (fun k=>((PH.nil.set o5 (.rows 1 [[.int .i64 v]])).set o7 (.rows 17 [p.cells])).set o8 (.rows 1 (eU (marks f.models.length (p.models.take k))))) (fun k=>k≤p.models.length) (fun k=>p.models.length-k) 0 (bhE _) ?_ ?_ ?_
 ·unfold aLX
  (repeat' (first|exact PF.nil_le|refine PF.aA ?_ ?_))<;>first|(simp -implicitDefEqProofs only[go_sem,γ,bgT]<;>rfl)|rfl
 ·refine PH.aA (PH.aA (PH.aA PH.nil_le ?_) ?_) ?_
  ·simp -implicitDefEqProofs only[go_sem,n57,n58]
  ·simp -implicitDefEqProofs only[go_sem,n78]
  ·simp -implicitDefEqProofs only[go_sem,List.take_zero]
 intro k hk
 simp -implicitDefEqProofs only[go_sem,γ,axL,axQ,aLX]
 by_cases hlt:k<p.models.length
 ·have hlt':(k:Int)<(p.models.length:Nat):=by omega
  have hmk:(p.models.map fun n=>[PV.int .i64 n])[k]?=some [.int .i64 p.models[k]]:=by simp[hlt]
  obtain⟨m1,m2⟩:=hpm _ (bgY hlt)
  have hbl:(p.models[k]).toNat<(eU (marks f.models.length (p.models.take k))).length:=by rw[adJ,aPI]; omega
  have hbs:(eU (marks f.models.length (p.models.take k)))[(p.models[k]).toNat]?=some [.bool ((p.models.take k).contains p.models[k])]:=by
   unfold eU
   rw[biH,SG m1 m2]; rfl
  simp -implicitDefEqProofs only[go_sem,γ,hlt',axR,hmk,axS,m1,m2,bhS,hbs,sJ,afF m1 m2,axT,aK (show k<9223372036854775807 by omega)]
  refine aI (k+1) hlt (by omega) ?_ ?_
  ·(repeat' (first|exact PF.nil_le|refine PF.aA ?_ ?_))<;>first|(simp -implicitDefEqProofs only[go_sem,γ]<;>rfl)|rfl
  ·rw[biZ hlt]
   refine PH.aA (PH.aA (PH.aA PH.nil_le ?_) ?_) ?_
   ·simp -implicitDefEqProofs only[go_sem,n57,n58]
   ·simp -implicitDefEqProofs only[go_sem,n78]
   ·simp -implicitDefEqProofs only[go_sem]
 ·have hlt':¬ (k:Int)<(p.models.length:Nat):=by omega
  have:k=p.models.length:=by omega
  subst this
  simp -implicitDefEqProofs only[go_sem,γ,hlt',axU,aiY,bhZ]
  refine cA .nil dU PH.nil_le ?_
  simp -implicitDefEqProofs only[go_sem,δ,γ,θ,aiZ,bgT,hb3,hb4,hb5,hb6]
  refine aQ fun oD hD=>?_
  have n5D:o5≠oD:=by rintro rfl; simp only[aV,n57,n58,if_true,if_false] at hD; cases hD
  have n7D:o7≠oD:=by rintro rfl; simp only[aV,n78,if_true,if_false] at hD; cases hD
  have n8D:o8≠oD:=by rintro rfl; simp only[aV,if_true] at hD; cases hD
  simp -implicitDefEqProofs only[go_sem,δ,γ,θ,bgT,hb3,hb4,hb5,hb6]
  refine aQ fun oB hB=>?_
  have n5B:o5≠oB:=by rintro rfl; simp only[aV,n57,n58,n5D,if_true,if_false] at hB; cases hB
  have n7B:o7≠oB:=by rintro rfl; simp only[aV,n78,n7D,if_true,if_false] at hB; cases hB
  have n8B:o8≠oB:=by rintro rfl; simp only[aV,n8D,if_true,if_false] at hB; cases hB
  have nDB:oD≠oB:=by rintro rfl; simp only[aV,if_true] at hB; cases hB
  rw[aMZ,aTG]
  simp -implicitDefEqProofs only[go_sem,γ,ajA,n57,n58,n5D,n5B,hrow,bgT]
  have hne:(⟨o5,o7,o8,oD,oB⟩:Obs).Ne:=⟨n5D,n5B,n7D,n7B,n8D,n8B,nDB⟩
  refine aWR L f hV ⟨o5,o7,o8,oD,oB⟩ hne v p hpm row hr _ _ _ ?_ ⟨?_,?_,?_,?_,?_⟩ ?_
  ·unfold iY
   (repeat' (first|exact PF.nil_le|refine PF.aA ?_ ?_))<;>first|(simp -implicitDefEqProofs only[go_sem,γ]<;>rfl)|rfl
  ·simp -implicitDefEqProofs only[go_sem,n57,n58,n5D,n5B]
  ·simp -implicitDefEqProofs only[go_sem,n78,n7D,n7B]
  ·simp -implicitDefEqProofs only[go_sem,n8D,n8B]
  ·simp -implicitDefEqProofs only[go_sem,nDB]
  ·simp -implicitDefEqProofs only[go_sem]
  intro v12 v13 F1 H1 hF1 hR1 g12 g13 gd
  have g:=fun (q:Nat) u h=>hF1 q u h
  unfold iY at g
  have q3:=g 3 _ rfl
  have q5:=g 5 _ rfl
  have q7:=g 7 _ rfl
  have q11:=g 11 _ rfl
  have q12:=g 12 _ rfl
  have q13:=g 13 _ rfl
  have q14:=g 14 _ rfl
  have q15:=g 15 _ rfl
  simp -implicitDefEqProofs only[go_sem,γ,ajG,q12,ajH,q14]
  have l2:=fJ 2 v row.length (home row)
  have l3:=fJ 3 v f.drives.length (mD f row)
  have l4:=fJ 4 v row.length (dT f p row)
  have hr1:=hr.len
  have hd24:=hs.drives
  refine aRB L f hV ⟨o5,o7,o8,oD,oB⟩ v p _ _ row (cF 2 v row.length (home row)) (by omega) v13 v12 _ _ _ H1 ?_ hR1 g12 g13 gd ?_
  ·unfold ES
   repeat' first|exact PF.nil_le|refine PF.aA ?_ ?_|rfl|assumption
  intro v19 F2 H2 hF2 hR2 g19 g13' gd2
  have g:=fun (q:Nat) u h=>hF2 q u h
  unfold ES at g
  have q3:=g 3 _ rfl
  have q5:=g 5 _ rfl
  have q7:=g 7 _ rfl
  have q11:=g 11 _ rfl
  have q13:=g 13 _ rfl
  have q15:=g 15 _ rfl
  have q19:=g 19 _ rfl
  simp -implicitDefEqProofs only[go_sem,γ,ajM,q19,q13]
  refine jX g19 g13' gd2 g13'.view (by unfold roomFor; rw[jD,jD,bgW]; simp only[maxLen]; omega) fun v19' H3 k1 k2 k3 k4=>?_
  simp -implicitDefEqProofs only[go_sem,γ,ajN,q15]
  have hvr:dR (cF 2 v row.length (home row)++cF 3 v f.drives.length (mD f row))++dR (cF 4 v row.length (dT f p row))=dR (cF 2 v row.length (home row)++cF 3 v f.drives.length (mD f row)++cF 4 v row.length (dT f p row)):=by
   simp only[dR,biS]
  rw[hvr] at k1
  refine aRA L f hV ⟨o5,o7,o8,oD,oB⟩ v p _ _ row _ (by simp only[bgW]; omega) v19' _ _ H3 ?_ (hR2.keep k4) k1 ?_
  ·unfold alI
   repeat' first|exact PF.nil_le|refine PF.aA ?_ ?_|rfl|assumption
  intro v20 F4 H4 hF4 hO4
  simp -implicitDefEqProofs only[go_sem,ajR,hF4]
  exact nF (.inr rfl) hO4 rfl
end Go.PM
namespace Go.PM
open Go Go.Na
structure amB (C:Ctx):Prop extends AQ C where
 row:∀ (f:aG) (l:List (List Int)) (v:Nat),VF f→(∀ p∈f.policies,Fits p.models)→(h:v<l.length)→v<f.volumes.length→alH f l[v]→aJ C 158 [.agg f.cells,lay l,.int .i64 v] .nil (aL (UF (oC f (eJ f v) v l[v])))
def EM (f:aG) (l:List (List Int)) (v:Nat):List gT:=match kX f l v with
 | some x=>[x]
 | none=>oC f (eJ f v) v (l.getD v [])
def mX (f:aG) (l:List (List Int)) (n:Nat):List gT:=(bhB n).flatMap (EM f l)
def over (f:aG) (l:List (List Int)) (room:List Int) (d:Nat):Bool:=decide ((gW f l).getD d 0>(fM f room).getD d 0)
def aYX (f:aG) (l:List (List Int)) (room:List Int):List gT:=mX f l l.length++cF 6 (-1) f.drives.length (over f l room)
def nJ (f:aG) (l:List (List Int)) (room:List Int):List gT :=
 if cU f then (if l.length=f.volumes.length then aYX f l room else [⟨1,-1,(l.length:Nat)⟩]) else []
theorem GL {p:Int→Bool}:∀ {l:List Int} {i:Nat},iE p l i=none→∀ x∈l,p x=false
 | [],_,_,x,hx=>absurd hx (bhM)
 | y::t,i,h,x,hx=>by
  rw[iE] at h
  split at h
  ·cases h
  ·rename_i hy
   rcases bhF.1 hx with rfl | hx
   ·simpa using hy
   ·exact GL h x hx
theorem agY {f:aG} {l:List (List Int)} (hl:jP l) {v:Nat} (hv:v<l.length) (h:kX f l v=none):alH f l[v]:=by
 have hg:l.getD v []=l[v]:=by simp[bhQ,hv]
 unfold kX at h
 rw[hg] at h
 split at h
 ·rw[Option.map_eq_none_iff] at h
  refine⟨?_,fun x hx=>?_⟩
  ·have h1:=RG l (v+1)
   have:=hl.all
   rw[sN l hv,bgW] at h1
   omega
  ·have:=GL h x hx
   simp[pS] at this
   omega
 ·cases h
theorem aMV (f:aG) (p:cG) (v:Nat) (row:List Int):(oC f p v row).length≤2*row.length+f.drives.length+f.domains.length:=by
 unfold oC
 have l2:=fJ 2 v row.length (home row)
 have l3:=fJ 3 v f.drives.length (mD f row)
 have l4:=fJ 4 v row.length (dT f p row)
 have l5:=fJ 5 v f.domains.length (pT f p row)
 simp only[bgW]
 omega
theorem avG {f:aG} (hs:Small f) {l:List (List Int)} (hl:jP l) {v:Nat} (hv:v<l.length):(EM f l v).length≤100000000:=by
 unfold EM
 split
 ·simp
 ·rename_i h
  have hg:l.getD v []=l[v]:=by simp[bhQ,hv]
  have:=aMV f (eJ f v) v (l.getD v [])
  have h1:=(agY hl hv h).len
  have:=hs.drives
  have:=hs.domains
  rw[hg] at *
  omega
theorem VB (f:aG) (l:List (List Int)) (n:Nat):mX f l (n+1)=mX f l n++EM f l n:=by
 unfold mX
 rw[List.range_succ,List.flatMap_append]
 simp
theorem HP {f:aG} (hs:Small f) {l:List (List Int)} (hl:jP l):∀ {n:Nat},n≤l.length→(mX f l n).length≤n*100000000
 | 0,_=>by simp[mX]
 | n+1,h=>by
  rw[VB,bgW]
  have:=HP hs hl (n:=n) (by omega)
  have:=avG hs hl (v:=n) (by omega)
  omega
def viF (f:aG) (l:List (List Int)) (room:List Int) (v7:PV) (k:Nat):PF:=((((((PF.nil.set 1 (lay l)).set 2 (ints room)).set 3 (.rptr f.cells)).set 7 (v7)).set 30 (.int .i64 (l.length:Nat))).set 31 (.int .i64 k))
def viG (f:aG) (l:List (List Int)) (room:List Int) (v7:PV) (k:Nat):PF:=(((((PF.nil.set 7 (v7)).set 11 (ints (fM f room))).set 58 (ints (gW f l))).set 59 (.int .i64 (f.drives.length:Nat))).set 60 (.int .i64 k))
theorem aTE {C:Ctx} (f:aG) (hV:VF f) (l:List (List Int)) (room:List Int) (l0:List gT) (hl0:l0.length≤2000000000) (v7:PV) (K:bZ) (F:PF) (H:PH)
  (hF:(viG f l room v7 0).le F) (hO:bB H 3 v7 (dR l0))
  (hK:∀ v' F' H',F' 7=some v'→bB H' 3 v' (dR (l0++cF 6 (-1) f.drives.length (over f l room)))→K (.exit 3) F' H'):aD.wp C (.loop KW) K F H:=by
 have hs:=hV.small.drives
 refine wp_loop (α:=Nat × PV × PH) (fun t=>viG f l room t.2.1 t.1) (fun t=>t.2.2) (fun t=>t.1≤f.drives.length∧bB t.2.2 3 t.2.1 (dR (l0++cF 6 (-1) t.1 (over f l room)))) (fun t=>f.drives.length-t.1) (0,v7,H)
  ⟨bhE _,by rw[show cF 6 (-1) 0 (over f l room)=[] from rfl,biN]; exact hO⟩ hF PH.le_refl ?_
 rintro⟨k,v',H0⟩ ⟨hk,g7⟩
 simp only at hk g7 ⊢
 simp -implicitDefEqProofs only[go_sem,ο,γ,KW,aiR,viG]
 by_cases hlt:k<f.drives.length
 ·have hlt':(k:Int)<(f.drives.length:Nat):=by omega
  have hk1:k<(gW f l).length:=by rw[gW,iD]; exact hlt
  have hk2:k<(fM f room).length:=by rw[sW]; exact hlt
  have a1:((gW f l).map fun n=>[PV.int .i64 n])[k]?=some [.int .i64 (gW f l)[k]]:=by simp[hk1]
  have a2:((fM f room).map fun n=>[PV.int .i64 n])[k]?=some [.int .i64 (fM f room)[k]]:=by simp[hk2]
  have ho:over f l room k=decide ((gW f l)[k]>(fM f room)[k]):=by simp only[over,bhQ,bhH hk1,bhH hk2,bjP]
  have e6:=mP 6 (-1) k (over f l room)
  have l6:=fJ 6 (-1) k (over f l room)
  simp -implicitDefEqProofs only[go_sem,ο,γ,hlt',aiS,a1,aiT,a2]
  by_cases c:(gW f l)[k]>(fM f room)[k]
  ·rw[if_pos (by rw[ho]; simp[c])] at e6
   have hone:(1:Nat)*3≤16777216:=by decide
   simp -implicitDefEqProofs only[go_sem,ο,υ,δ,γ,η,θ,ζ,c,aiU,hone]
   refine jX (rows':=[]) (u:=.nils) (src:=[(⟨6,-1,k⟩:gT).cells]) g7 .nil (fun _ _ _ _ _ h=>by cases h) rfl (by unfold roomFor; rw[jD,bgW]; simp only[bhA,maxLen]; omega) fun v' H' k1 k2 k3 k4=>?_
   rw[nK,bhY,← e6] at k1
   simp -implicitDefEqProofs only[go_sem,ο,γ,KZ,aK (show k<9223372036854775807 by omega)]
   refine aI (k+1,v',H') ⟨hlt,k1⟩ (by simp only; omega) ?_ PH.le_refl
   (repeat' (first|exact PF.nil_le|refine PF.aA ?_ ?_))<;>first|(simp -implicitDefEqProofs only[go_sem,ο,γ]<;>rfl)|rfl
  ·rw[if_neg (by rw[ho]; simp; omega)] at e6
   rw[← e6] at g7
   simp -implicitDefEqProofs only[go_sem,ο,γ,c,KZ,aK (show k<9223372036854775807 by omega)]
   refine aI (k+1,v',H0) ⟨hlt,g7⟩ (by simp only; omega) ?_ PH.le_refl
   (repeat' (first|exact PF.nil_le|refine PF.aA ?_ ?_))<;>first|(simp -implicitDefEqProofs only[go_sem,γ]<;>rfl)|rfl
 ·have hlt':¬ (k:Int)<(f.drives.length:Nat):=by omega
  have:k=f.drives.length:=by omega
  subst this
  simp -implicitDefEqProofs only[go_sem,ο,hlt']
  exact hK v' _ _ rfl g7
theorem aXH {C:Ctx} (L:amB C) (f:aG) (hf:f.Ok) (l:List (List Int)) (hl:jP l) (room:List Int) :
  FI.wp C (aY ZV.res (bY (UF (nJ f l room)))) (PF.args [.agg f.cells,lay l,ints room]) .nil:=by
 simp -implicitDefEqProofs only[go_sem,δ,γ,FI,axC,axD,ZV]
 refine aB (L.valid f hf) rfl ?_
 unfold nJ
 have hlr:=hl.rows
 have hfit:∀ p∈f.policies,Fits p.models:=fun p hp=>(hf.policy p hp).models
 cases hv:cU f with
 | false =>
  simp -implicitDefEqProofs only[go_sem,ο,γ,reduceCtorEq,bhN,axE]
  exact nF (rows:=[]) (.inr rfl) .nil rfl
 | true =>
  have hV:=VF.of hv
  by_cases c:l.length=f.volumes.length
  ·have c':(((l.length:Nat):Int) != ((f.volumes.length:Nat):Int))=false:=cP (by omega)
   rw[if_pos c]
   have hv12:=hV.small.volumes
   simp -implicitDefEqProofs only[go_sem,γ,bhC,TY,bgT,c',axG,axH]
   refine wp_loop (α:=Nat × PV × PH) (fun t=>viF f l room t.2.1 t.1) (fun t=>t.2.2) (fun t=>t.1≤l.length∧bB t.2.2 3 t.2.1 (dR (mX f l t.1))) (fun t=>l.length-t.1) (0,.nils,.nil) ⟨bhE _,.nil⟩ ?_ PH.nil_le ?_
   ·unfold viF
    (repeat' (first|exact PF.nil_le|refine PF.aA ?_ ?_))<;>first|(simp -implicitDefEqProofs only[go_sem,γ,bgT]<;>rfl)|rfl
   rintro⟨k,v7,H0⟩ ⟨hk,hO⟩
   simp only at hk hO ⊢
   simp -implicitDefEqProofs only[go_sem,γ,aiM,axI,viF]
   by_cases hlt:k<l.length
   ·have hlt':(k:Int)<(l.length:Nat):=by omega
    have hfl:=HP hV.small hl (n:=k) (by omega)
    have hsucc:=VB f l k
    simp -implicitDefEqProofs only[go_sem,δ,γ,hlt',axJ,axK]
    refine aB (L.shape f l k hV hl hlt (by omega)) rfl ?_
    cases hsh:kX f l k with
    | some x =>
     have hone:EM f l k=[x]:=by rw[EM,hsh]
     rw[hone] at hsucc
     simp -implicitDefEqProofs only[go_sem,δ,γ,shV]
     refine aQ fun o ho=>?_
     have h13:(1:Nat)*3≤16777216:=by decide
     simp -implicitDefEqProofs only[go_sem,υ,δ,γ,η,ζ,KX,aiN,h13]
     refine jX (rows':=[]) (u:=.nils) (src:=[x.cells]) (hO.fresh ho _).1 .nil (fun _ _ _ _ _ h=>by cases h) rfl (by unfold roomFor; rw[jD]; simp only[bhA,maxLen]; omega) fun v' H' k1 k2 k3 k4=>?_
     rw[nK,← hsucc] at k1
     simp -implicitDefEqProofs only[go_sem,γ,KY,aK (show k<9223372036854775807 by omega)]
     refine aI (k+1,v',H') ⟨hlt,k1⟩ (by simp only; omega) ?_ PH.le_refl
     (repeat' (first|exact PF.nil_le|refine PF.aA ?_ ?_))<;>first|(simp -implicitDefEqProofs only[go_sem,γ]<;>rfl)|rfl
    | none =>
     have hg:l.getD k []=l[k]:=by simp[bhQ,hlt]
     have hone:EM f l k=oC f (eJ f k) k l[k]:=by rw[EM,hsh,hg]
     have hrow:=agY hl hlt hsh
     have hlen:=avG hV.small hl hlt
     rw[hone] at hsucc hlen
     simp -implicitDefEqProofs only[go_sem,δ,γ,shV]
     refine aQ fun o ho=>?_
     simp -implicitDefEqProofs only[go_sem,δ,γ,KX,aiO]
     refine aB (L.row f l k hV hfit hlt (by omega) hrow) rfl ?_
     simp -implicitDefEqProofs only[go_sem,γ]
     refine jX (rows':=[]) (u:=.nils) (src:=dR (oC f (eJ f k) k l[k])) (hO.fresh ho _).1 .nil (fun _ _ _ _ _ h=>by cases h) rfl (by unfold roomFor; rw[jD,jD]; simp only[maxLen]; omega) fun v' H' k1 k2 k3 k4=>?_
     have hvr:dR (mX f l k)++dR (oC f (eJ f k) k l[k])=dR (mX f l (k+1)):=by rw[hsucc]; simp only[dR,biS]
     rw[hvr] at k1
     simp -implicitDefEqProofs only[go_sem,γ,KY,aK (show k<9223372036854775807 by omega)]
     refine aI (k+1,v',H') ⟨hlt,k1⟩ (by simp only; omega) ?_ PH.le_refl
     (repeat' (first|exact PF.nil_le|refine PF.aA ?_ ?_))<;>first|(simp -implicitDefEqProofs only[go_sem,γ]<;>rfl)|rfl
   ·have hlt':¬ (k:Int)<(l.length:Nat):=by omega
    have:k=l.length:=by omega
    subst this
    have hfl:=HP hV.small hl (n:=l.length) (bgX _)
    have hroom:=L.room f room hf
    rw[wV,hv] at hroom
    have hloads:=L.loads f l hV.small.drives hl
    simp -implicitDefEqProofs only[go_sem,δ,γ,hlt',aiP]
    refine aB hroom rfl ?_
    simp -implicitDefEqProofs only[go_sem,δ,γ,aiQ]
    refine aB hloads rfl ?_
    have hll:(gW f l).length=f.drives.length:=by rw[gW,iD]
    simp -implicitDefEqProofs only[go_sem,γ,bgT,hll]
    refine aTE f hV l room (mX f l l.length) (by omega) v7 _ _ H0 ?_ hO ?_
    ·unfold viG
     (repeat' (first|exact PF.nil_le|refine PF.aA ?_ ?_))<;>first|(simp -implicitDefEqProofs only[go_sem,γ]<;>rfl)|rfl
    intro v' F' H' h7 hO'
    simp -implicitDefEqProofs only[go_sem,aiV,h7]
    exact nF (.inr rfl) hO' rfl
  ·have c':(((l.length:Nat):Int) != ((f.volumes.length:Nat):Int))=true:=eC (by omega)
   have h13:(1:Nat)*3≤16777216:=by decide
   rw[if_neg c]
   simp -implicitDefEqProofs only[go_sem,ο,υ,δ,γ,η,θ,ζ,bhC,TY,bgT,c',axF,h13]
   exact aW (.inr rfl) .nil rfl PH.nil_le ⟨.refl _,rfl⟩
structure aYO (C:Ctx):Prop extends amB C where
 viol:∀ (f:aG) (l:List (List Int)) (room:List Int),f.Ok→jP l→aJ C 154 [.agg f.cells,lay l,ints room] .nil (aL (UF (nJ f l room)))
def jJ (f:aG) (l:List (List Int)) (room:List Int):Bool:=cU f&&decide ((nJ f l room).length=0)
theorem aRT {C:Ctx} (L:aYO C) (f:aG) (hf:f.Ok) (l:List (List Int)) (hl:jP l) (room:List Int) :
  zT.wp C (aY KQ.res (bY (.bool (jJ f l room)))) (PF.args [.agg f.cells,lay l,ints room]) .nil:=by
 simp -implicitDefEqProofs only[go_sem,δ,γ,zT,ahR,ahS,KQ]
 refine aB (L.valid f hf) rfl ?_
 unfold jJ
 cases hv:cU f with
 | false =>
  simp -implicitDefEqProofs only[go_sem,γ,reduceCtorEq]
  exact aU rfl rfl
 | true =>
  simp -implicitDefEqProofs only[go_sem,δ,γ]
  refine aB (L.viol f l room hf hl) rfl ?_
  by_cases c:(nJ f l room).length=0
  ·simp -implicitDefEqProofs only[go_sem,γ,bgT,bS (show (((nJ f l room).length:Nat):Int)=0 by omega)]
   exact aU rfl (by simp[c])
  ·simp -implicitDefEqProofs only[go_sem,γ,bgT,bF (show (((nJ f l room).length:Nat):Int)≠0 by omega)]
   exact aU rfl (by rw[decide_eq_false c])
end Go.PM
namespace Go.PM
open Go
def aEL:Rg:=[iA 2 (.mv (.const (.lit (.pointer none))))]
def aEM:Rg:=[iM 3 0,iN 4 3,iC 5 .gtr 4 400]
def aEN:Rg:=[iM 6 0,iA 7 (.slice 1 (Tm 6) none (some (Ci 400)) none),iM 0 7]
def acB:Rg:=[iM 8 0,iA 9 (.append 1 1 (.const .nils) (Tm 8)),iA 10 (.build [.nils,(.int .i64 0)] [(0,1,(Tm 9))]),iA 11 (.box false (Tm 10)),iM 2 11]
def IV:aD:=(.seq (.region aEL) (.seq (.seq (.region aEM) (.cond (Tm 5) (.region aEN) .skip)) (.seq (.region acB) .ret)))
def a1M:List Nat:=[]
def asO:bG:=⟨1,12,IV,[.tmp 2]⟩
def SV:Rg:=[iI 4 0]
def EC:Rd:=[(iM 5 0,false),(iA 6 (.nilchk (Tm 5)),false),(iF 7 1 6,false),(iL 8 7,false),(iM 9 0,false),(iA 10 (.nilchk (Tm 9)),false),(iF 11 0 10,false),(iL 12 11,false),(iN 13 12,false),(iB 14 .geq 8 13,false),(iM 15 14,false),(iG 16 (.mv (Tm 1)) 15 false,false),(iG 17 (.bin .lss (Tm 16) (Ci 2)) 15 false,false),(iA 18 (.pick (Tm 15) (.const (.bool true)) (Tm 17)),false)]
def SW:Rg:=[iI 4 0]
def asP:Rg:=[iM 19 0,iA 20 (.nilchk (Tm 19)),iF 21 1 20,iL 22 21,iC 23 .add 22 1,iA 24 (.nilchk (Tm 19)),iF 25 1 24,iS 1 25 23]
def asQ:Rd:=[(iM 26 0,false),(iA 27 (.nilchk (Tm 26)),false),(iF 28 0 27,false),(iL 29 28,false),(iM 30 0,false),(iA 31 (.nilchk (Tm 30)),false),(iF 32 1 31,false),(iL 33 32,false),(iC 34 .sub 33 1,false),(iX 35 1 29 34,false),(iL 36 35,false),(iA 37 (.conv .i64 (Tm 36)),false),(iM 38 1,false),(iB 39 .rem 37 38,false),(iM 4 39,false)]
def tU:aD:=(.seq (.region SV) (.seq (.seq (.draw EC) (.cond (Tm 18) (.seq (.region SW) .ret) .skip)) (.seq (.region asP) (.seq (.draw asQ) .ret))))
def aVY:List Nat:=[]
def ND:bG:=⟨2,40,tU,[.tmp 4]⟩
def arS:Rg:=[iA 2 (.alloc [(.bool false),.nils,.nils])]
def arT:Rg:=[iM 6 0,iA 7 (.call 4 [(Tm 6),(Ci 6)]),iA 8 (.bin .add (Ci 1) (Tm 7)),iM 9 0,iA 10 (.call 4 [(Tm 9),(Ci 8)]),iA 11 (.bin .add (Ci 1) (Tm 10)),iA 12 (.call 50 [(Tm 8),(Tm 11)]),iM 5 12,iA 13 (.extract (Tm 5) 0),iA 14 (.extract (Tm 5) 1),iA 3 (.alloc [(.bool false),.nils,.nils]),iS 3 3 13,iM 4 14]
def arU:Rg:=[iA 15 (.load (some 3) (Tm 3)),iS 3 2 15]
def DU:aD:=(.seq (.region arS) (.seq (.region arT) (.seq (.region arU) .ret)))
def aVP:List Nat:=[]
def XM:bG:=⟨1,16,DU,[.cell 2 (some 3)]⟩
def aEF:Rg:=[iA 4 (.alloc [(.str []),.nils,.nils,.nils])]
def aEG:Rg:=[iM 16 0,iM 17 1,iA 18 (.call 4 [(Tm 16),(Tm 17)]),iA 19 (.bin .add (Ci 1) (Tm 18)),iM 5 19]
def aEH:Rg:=[iA 6 (.alloc [(.str []),.nils,.nils,.nils])]
def aEI:Rg:=[iI 7 8]
def aEJ:Rg:=[iI 8 0]
def aEK:Rg:=[iM 20 8,iM 21 5,iB 22 .lss 20 21]
def abY:Rg:=[iM 25 7,iM 9 25]
def abZ:Rg:=[iM 26 8,iC 27 .add 26 1,iM 28 5,iB 29 .lss 27 28]
def acA:Rg:=[iM 30 0,iM 31 7,iC 32 .add 31 1,iA 33 (.call 4 [(Tm 30),(Tm 32)]),iM 9 33]
def NC:Rg:=[iM 34 7,iM 35 9,iB 36 .sub 34 35,iM 7 36]
def SK:Rg:=[iM 38 9,iA 39 (.call 50 [(Tm 38),(Ci 8)]),iM 37 39,iA 40 (.extract (Tm 37) 0),iA 41 (.extract (Tm 37) 1),iA 10 (.alloc [(.bool false),.nils,.nils]),iS 3 10 40,iM 11 41]
def SL:Rg:=[iF 42 1 6,iL 43 42,iA 44 (.load (some 3) (Tm 10)),iA 45 (.bslice true 3 1 [(.bool false),.nils,.nils] [(0,(Tm 44))]),iA 46 (.append 3 56 (Tm 43) (Tm 45)),iF 47 1 6,iS 1 47 46]
def SM:Rg:=[iM 48 0,iA 49 (.call 1 [(Tm 48)]),iA 12 (.alloc [(.bool false),.nils,.nils]),iS 3 12 49]
def SN:Rg:=[iM 50 8,iC 51 .add 50 1,iM 52 5,iB 53 .lss 51 52,iM 54 53,iG 55 (.mv (Tm 0)) 54 true,iG 56 (.call 4 [(Tm 55),(Ci 3)]) 54 true,iG 57 (.bin .eql (Tm 56) (Ci 0)) 54 true,iA 58 (.pick (Tm 54) (Tm 57) (.const (.bool false)))]
def SO:Rg:=[iA 59 (.call 47 [(Ci 0)]),iS 3 12 59]
def DX:Rg:=[iF 60 3 6,iL 61 60,iA 62 (.load (some 3) (Tm 12)),iA 63 (.bslice true 3 1 [(.bool false),.nils,.nils] [(0,(Tm 62))]),iA 64 (.append 3 56 (Tm 61) (Tm 63)),iF 65 3 6,iS 1 65 64]
def SP:Rg:=[iA 13 (.mv (.const .nils))]
def SQ:Rg:=[iI 14 0]
def asH:Rg:=[iM 66 14,iM 67 5,iB 68 .lss 66 67]
def asI:Rg:=[iA 71 (.call 47 [(Ci 0)]),iA 15 (.alloc [(.bool false),.nils,.nils]),iS 3 15 71]
def asJ:Rg:=[iM 72 14,iM 73 8,iC 74 .add 73 1,iB 75 .eql 72 74,iM 76 75,iG 77 (.mv (Tm 14)) 76 false,iG 78 (.mv (Tm 8)) 76 false,iG 79 (.bin .neq (Tm 77) (Tm 78)) 76 false,iG 80 (.mv (Tm 79)) 76 false,iG 81 (.mv (Tm 0)) 80 true,iG 82 (.call 4 [(Tm 81),(Ci 3)]) 80 true,iG 83 (.bin .eql (Tm 82) (Ci 0)) 80 true,iG 84 (.pick (Tm 80) (Tm 83) (.const (.bool false))) 76 false,iA 85 (.pick (Tm 76) (.const (.bool true)) (Tm 84))]
def SR:Rg:=[iM 86 0,iA 87 (.call 1 [(Tm 86)]),iS 3 15 87]
def SS:Rg:=[iM 88 13,iA 89 (.load (some 3) (Tm 15)),iA 90 (.bslice true 3 1 [(.bool false),.nils,.nils] [(0,(Tm 89))]),iA 91 (.append 3 56 (Tm 88) (Tm 90)),iM 13 91]
def ST:Rg:=[iM 69 14,iC 70 .add 69 1,iM 14 70]
def DW:aD:=(.seq (.seq (.region asH) (.cond (Tm 68) .skip (.exit 2))) (.seq (.block 3 (.seq (.region asI) (.seq (.seq (.region asJ) (.cond (Tm 85) (.region SR) .skip)) (.region SS)))) (.region ST)))
def SU:Rg:=[iF 92 2 6,iL 93 92,iM 94 13,iA 95 (.bslice true 1 1 [.nils] [(0,(Tm 94))]),iA 96 (.append 1 24 (Tm 93) (Tm 95)),iF 97 2 6,iS 1 97 96]
def asK:Rg:=[iM 23 8,iC 24 .add 23 1,iM 8 24]
def asG:aD:=(.seq (.seq (.region aEK) (.cond (Tm 22) .skip (.exit 0))) (.seq (.block 1 (.seq (.region abY) (.seq (.seq (.region abZ) (.cond (Tm 29) (.region acA) .skip)) (.seq (.region NC) (.seq (.region SK) (.seq (.region SL) (.seq (.region SM) (.seq (.seq (.region SN) (.cond (Tm 58) (.region SO) .skip)) (.seq (.region DX) (.seq (.region SP) (.seq (.seq (.region SQ) (.block 2 (.loop DW))) (.region SU)))))))))))) (.region asK)))
def asL:Rg:=[iA 98 (.load (some 4) (Tm 6)),iS 4 4 98]
def IU:aD:=(.seq (.region aEF) (.seq (.region aEG) (.seq (.region aEH) (.seq (.region aEI) (.seq (.seq (.region aEJ) (.block 0 (.loop asG))) (.seq (.region asL) .ret))))))
def a1I:List Nat:=[45,63,90,95]
def asF:bG:=⟨2,99,IU,[.cell 4 (some 4)]⟩
def aEP:Rg:=[iA 4 (.mv (.const .nils))]
def aEQ:Rg:=[iA 5 (.mv (.const .nils))]
def aER:Rg:=[iI 6 0]
def aES:Rg:=[iM 7 6,iM 8 1,iA 9 (.minmax true (Tm 8) (Ci 1)),iB 10 .lss 7 9]
def aET:Rg:=[iM 13 5,iM 14 0,iA 15 (.call 1 [(Tm 14)]),iA 16 (.bslice true 3 1 [(.bool false),.nils,.nils] [(0,(Tm 15))]),iA 17 (.append 3 56 (Tm 13) (Tm 16)),iM 5 17]
def aEU:Rg:=[iM 11 6,iC 12 .add 11 1,iM 6 12]
def aEO:aD:=(.seq (.seq (.region aES) (.cond (Tm 10) .skip (.exit 0))) (.seq (.block 1 (.region aET)) (.region aEU)))
def aEV:Rg:=[iM 18 5,iM 4 18]
def IW:aD:=(.seq (.region aEP) (.seq (.region aEQ) (.seq (.seq (.region aER) (.block 0 (.loop aEO))) (.seq (.region aEV) .ret))))
def a1O:List Nat:=[16]
def asR:bG:=⟨2,19,IW,[.tmp 4]⟩
def asM:Rg:=[iA 4 (.mv (.const (.str [])))]
def asN:Rg:=[iM 5 0,iM 6 1,iA 7 (.call 195 [(Tm 6)]),iB 8 .add 5 7,iM 4 8]
def EB:aD:=(.seq (.region asM) (.seq (.region asN) .ret))
def aVW:List Nat:=[]
def XV:bG:=⟨2,9,EB,[.tmp 4]⟩
def arX:Rg:=[iM 12 1,iA 13 (.nilchk (Tm 12)),iF 14 3 13,iL 15 14,iM 16 2,iX 17 7 15 16,iF 18 1 17,iL 19 18,iC 20 .add 19 1,iM 8 20]
def arY:Rg:=[iM 21 0,iA 22 (.call 4 [(Tm 21),(Ci 2)]),iA 23 (.bin .add (Ci 1) (Tm 22)),iM 9 23]
def arZ:Rg:=[iM 24 8,iC 25 .eql 24 2]
def asA:Rg:=[iI 9 1]
def DV:Rg:=[iI 10 0]
def SH:Rg:=[iM 26 10,iM 27 9,iB 28 .lss 26 27]
def SI:Rg:=[iM 31 8,iC 32 .eql 31 5]
def asB:Rg:=[iM 33 1,iA 34 (.nilchk (Tm 33)),iF 35 4 34,iL 36 35,iN 37 36,iM 38 3,iB 39 .lss 37 38]
def asC:Rd:=[(iM 40 1,true),(iM 41 1,true),(iA 42 (.nilchk (Tm 41)),true),(iF 43 4 42,true),(iL 44 43,true),(iM 45 1,false),(iA 46 (.nilchk (Tm 45)),false),(iF 47 4 46,false),(iL 48 47,false),(iN 49 48,false),(iA 50 (.call 29 [(.const (.str [100])),(Tm 49)]),true),(iM 51 0,true),(iM 52 1,true),(iA 53 (.nilchk (Tm 52)),true),(iF 54 2 53,true),(iL 55 54,true),(iN 56 55,true),(iA 57 (.call 4 [(Tm 51),(Tm 56)]),true),(iM 58 2,true),(iA 59 (.build [(.str []),(.int .i64 0),(.int .i64 0)] [(0,1,(Tm 50)),(1,1,(Tm 57)),(2,1,(Tm 58))]),false),(iA 60 (.bslice true 3 1 [(.str []),(.int .i64 0),(.int .i64 0)] [(0,(Tm 59))]),false),(iA 61 (.append 3 32 (Tm 44) (Tm 60)),true),(iA 62 (.nilchk (Tm 40)),false),(iF 63 4 62,false)]
def asD:Rd:=[(iS 1 63 61,true)]
def afP:Rg:=[iM 64 1,iA 65 (.nilchk (Tm 64)),iF 66 4 65,iL 67 66,iN 68 67,iM 69 3,iB 70 .geq 68 69,iM 71 70,iG 72 (.mv (Tm 1)) 71 false,iG 73 (.nilchk (Tm 72)) 71 false,iG 74 (.fieldA 3 (Tm 73)) 71 false,iG 75 (.load none (Tm 74)) 71 false,iG 76 (.len (Tm 75)) 71 false,iG 77 (.bin .geq (Tm 76) (Ci 35)) 71 false,iA 78 (.pick (Tm 71) (.const (.bool true)) (Tm 77))]
def afQ:Rd:=[(iM 79 8,false),(iA 80 (.idxStr (.const (.str [45,115,114,107,109])) (Tm 79)),false),(iA 81 (.bslice true 1 1 [(.int .u8 0)] [(0,(Tm 80))]),false),(iA 82 (.bytes2str (Tm 81)),false),(iM 83 1,false),(iA 84 (.nilchk (Tm 83)),false),(iF 85 3 84,false),(iL 86 85,false),(iN 87 86,false),(iA 88 (.call 29 [(Tm 82),(Tm 87)]),true),(iM 89 8,true),(iM 90 2,true),(iM 91 0,true),(iA 92 (.call 4 [(Tm 91),(Ci 16)]),true),(iA 93 (.bin .add (Ci 1) (Tm 92)),true),(iA 94 (.call 47 [(Ci 0)]),true),(iA 95 (.build [(.str []),(.int .i64 0),(.int .i64 0),(.int .i64 0),(.bool false),.nils,.nils] [(0,1,(Tm 88)),(1,1,(Tm 89)),(2,1,(Tm 90)),(3,1,(Tm 93)),(4,3,(Tm 94))]),false),(iA 11 (.alloc [(.str []),(.int .i64 0),(.int .i64 0),(.int .i64 0),(.bool false),.nils,.nils]),true),(iS 7 11 95,true)]
def afR:Rg:=[iM 96 0,iA 97 (.call 4 [(Tm 96),(Ci 3)]),iC 98 .eql 97 0]
def afS:Rg:=[iM 100 0,iA 101 (.call 4 [(Tm 100),(Ci 6)]),iA 102 (.bin .add (Ci 2) (Tm 101)),iA 103 (.call 50 [(Ci 1),(Tm 102)]),iM 99 103,iA 104 (.extract (Tm 99) 0),iA 105 (.extract (Tm 99) 1),iF 106 4 11,iS 3 106 104]
def IS:Rd:=[(iM 107 1,true),(iM 108 1,false),(iA 109 (.nilchk (Tm 108)),false),(iF 110 3 109,false),(iL 111 110,false),(iA 112 (.load (some 7) (Tm 11)),false),(iA 113 (.bslice true 7 1 [(.str []),(.int .i64 0),(.int .i64 0),(.int .i64 0),(.bool false),.nils,.nils] [(0,(Tm 112))]),false),(iA 114 (.append 7 96 (Tm 111) (Tm 113)),true),(iA 115 (.nilchk (Tm 107)),false),(iF 116 3 115,false),(iS 1 116 114,true)]
def IT:Rg:=[iM 117 0,iM 118 1,iM 119 1,iA 120 (.nilchk (Tm 119)),iF 121 3 120,iL 122 121,iN 123 122,iC 124 .sub 123 1,iM 125 3,iA 126 (.call 7 [(Tm 117),(Tm 118),(Tm 124),(Tm 125)])]
def sS:Rg:=[iM 29 10,iC 30 .add 29 1,iM 10 30]
def sR:aD:=(.seq (.seq (.region SH) (.cond (Tm 28) .skip (.exit 0))) (.seq (.block 1 (.seq (.seq (.region SI) (.cond (Tm 32) (.seq (.seq (.region asB) (.cond (Tm 39) (.seq (.draw asC) (.draw asD)) .skip)) (.exit 1)) .skip)) (.seq (.seq (.region afP) (.cond (Tm 78) .ret .skip)) (.seq (.draw afQ) (.seq (.seq (.region afR) (.cond (Tm 98) (.region afS) .skip)) (.seq (.draw IS) (.region IT))))))) (.region sS)))
def tT:aD:=(.seq (.region arX) (.seq (.region arY) (.seq (.seq (.region arZ) (.cond (Tm 25) (.region asA) .skip)) (.seq (.region DV) (.block 0 (.loop sR))))))
def aVQ:List Nat:=[60,81,113]
def NB:bG:=⟨4,127,tT,[]⟩
def afG:Rg:=[iA 6 (.alloc [(.int .i64 0),.nils,.nils,.nils,.nils,.nils,.nils])]
def afH:Rg:=[iM 20 0,iA 21 (.call 4 [(Tm 20),(Ci 2)]),iA 22 (.bin .add (Ci 1) (Tm 21)),iA 23 (.build [(.int .i64 0),.nils,.nils,.nils,.nils,.nils,.nils] [(0,1,(Tm 22))]),iA 7 (.alloc [(.int .i64 0),.nils,.nils,.nils,.nils,.nils,.nils]),iS 7 7 23]
def afI:Rg:=[iM 24 0,iA 25 (.call 4 [(Tm 24),(Ci 2)]),iA 26 (.bin .add (Ci 1) (Tm 25)),iM 8 26]
def afJ:Rg:=[iI 9 0]
def afK:Rg:=[iM 27 9,iM 28 8,iB 29 .lss 27 28]
def afL:Rg:=[iM 32 0,iA 33 (.call 2 [(Tm 32),(Ci 2)]),iA 10 (.alloc [(.str []),.nils,.nils,.nils]),iS 4 10 33]
def afM:Rg:=[iM 34 9,iA 35 (.call 29 [(.const (.str [108,97,119])),(Tm 34)]),iF 36 0 10,iS 1 36 35]
def afN:Rg:=[iF 37 1 7,iL 38 37,iA 39 (.load (some 4) (Tm 10)),iA 40 (.bslice true 4 1 [(.str []),.nils,.nils,.nils] [(0,(Tm 39))]),iA 41 (.append 4 88 (Tm 38) (Tm 40)),iF 42 1 7,iS 1 42 41]
def afO:Rg:=[iM 30 9,iC 31 .add 30 1,iM 9 31]
def IR:aD:=(.seq (.seq (.region afK) (.cond (Tm 29) .skip (.exit 0))) (.seq (.block 1 (.seq (.region afL) (.seq (.region afM) (.region afN)))) (.region afO)))
def WQ:Rg:=[iM 43 0,iA 44 (.call 4 [(Tm 43),(Ci 2)]),iA 45 (.bin .add (Ci 1) (Tm 44)),iM 11 45]
def WR:Rg:=[iI 12 0]
def WS:Rg:=[iM 46 12,iM 47 11,iB 48 .lss 46 47]
def WT:Rd:=[(iF 51 2 7,true),(iL 52 51,true),(iM 53 12,false),(iA 54 (.call 29 [(.const (.str [109])),(Tm 53)]),true),(iM 55 0,true),(iA 56 (.call 4 [(Tm 55),(Ci 4)]),true),(iA 57 (.bin .add (Ci 1) (Tm 56)),true),(iM 58 0,true),(iA 59 (.call 4 [(Tm 58),(Ci 8)]),true),(iA 60 (.bin .add (Ci 1) (Tm 59)),true),(iM 61 0,true),(iF 62 1 7,true),(iL 63 62,true),(iN 64 63,true),(iA 65 (.call 4 [(Tm 61),(Tm 64)]),true),(iA 66 (.build [(.str []),(.int .i64 0),(.int .i64 0),(.int .i64 0)] [(0,1,(Tm 54)),(1,1,(Tm 57)),(2,1,(Tm 60)),(3,1,(Tm 65))]),false),(iA 67 (.bslice true 4 1 [(.str []),(.int .i64 0),(.int .i64 0),(.int .i64 0)] [(0,(Tm 66))]),false),(iA 68 (.append 4 40 (Tm 52) (Tm 67)),true),(iF 69 2 7,false)]
def WU:Rd:=[(iS 1 69 68,true)]
def WV:Rg:=[iM 49 12,iC 50 .add 49 1,iM 12 50]
def DK:aD:=(.seq (.seq (.region WS) (.cond (Tm 48) .skip (.exit 2))) (.seq (.block 3 (.seq (.draw WT) (.draw WU))) (.region WV)))
def WW:Rg:=[iA 70 (.call 47 [(Ci 0)]),iA 71 (.build [(.str []),(.int .i64 0),(.int .i64 0),(.int .i64 0),(.bool false),.nils,.nils] [(2,1,(Ci (-1))),(4,3,(Tm 70))]),iA 72 (.bslice false 7 1 [(.str []),(.int .i64 0),(.int .i64 0),(.int .i64 0),(.bool false),.nils,.nils] [(0,(Tm 71))]),iF 73 3 7,iS 1 73 72]
def WX:Rg:=[iM 74 0,iM 75 1,iA 76 (.call 7 [(Tm 74),(Tm 7),(Ci 0),(Tm 75)])]
def WY:Rg:=[iM 77 0,iA 78 (.call 4 [(Tm 77),(Ci 2)]),iA 79 (.bin .add (Ci 1) (Tm 78)),iM 13 79]
def WZ:Rg:=[iI 14 0]
def XA:Rg:=[iM 80 14,iM 81 13,iB 82 .lss 80 81]
def DN:Rg:=[iM 85 14,iA 86 (.call 29 [(.const (.str [112])),(Tm 85)]),iM 87 0,iA 88 (.call 4 [(Tm 87),(Ci 2)]),iA 89 (.bin .add (Ci 1) (Tm 88)),iM 90 0,iA 91 (.call 4 [(Tm 90),(Ci 3)]),iM 92 0,iA 93 (.call 4 [(Tm 92),(Ci 4)]),iA 94 (.bin .add (Ci 1) (Tm 93)),iA 95 (.call 47 [(Tm 94)]),iA 96 (.build [(.str []),(.int .i64 0),(.int .i64 0),(.int .i64 0),(.int .i64 0),(.int .i64 0),(.int .i64 0),(.int .i64 0),(.int .i64 0),.nils,.nils,(.bool false),.nils,.nils,(.bool false),.nils,.nils] [(0,1,(Tm 86)),(1,1,(Tm 89)),(2,1,(Tm 91)),(14,3,(Tm 95))]),iA 15 (.alloc [(.str []),(.int .i64 0),(.int .i64 0),(.int .i64 0),(.int .i64 0),(.int .i64 0),(.int .i64 0),(.int .i64 0),(.int .i64 0),.nils,.nils,(.bool false),.nils,.nils,(.bool false),.nils,.nils]),iS 17 15 96]
def tN:Rd:=[(iF 97 1 15,true),(iL 98 97,true),(iM 99 0,false),(iF 100 2 15,false),(iL 101 100,false),(iC 102 .add 101 1,false),(iA 103 (.call 4 [(Tm 99),(Tm 102)]),true),(iB 104 .add 98 103,false),(iF 105 3 15,false)]
def tO:Rd:=[(iS 1 105 104,true)]
def tP:Rg:=[iM 106 0,iF 107 2 15,iL 108 107,iA 109 (.call 5 [(Tm 106),(Tm 108)]),iF 110 10 15,iS 1 110 109]
def tQ:Rg:=[iM 112 0,iA 113 (.call 4 [(Tm 112),(Ci 9)]),iA 114 (.call 50 [(Tm 113),(Ci 8)]),iM 111 114,iA 115 (.extract (Tm 111) 0),iA 116 (.extract (Tm 111) 1),iF 117 11 15,iS 3 117 115]
def DO:Rg:=[iI 16 1]
def XB:Rg:=[iM 118 16,iC 119 .lss 118 5]
def XC:Rg:=[iM 122 0,iA 123 (.call 4 [(Tm 122),(Ci 3)]),iC 124 .eql 123 0]
def XD:Rg:=[iM 125 16,iM 126 0,iA 127 (.call 4 [(Tm 126),(Ci 3)]),iA 128 (.bin .add (Ci 1) (Tm 127)),iF 129 4 15,iA 130 (.idxA 5 1 (Tm 129) (Tm 125)),iS 1 130 128]
def DP:Rg:=[iM 120 16,iC 121 .add 120 1,iM 16 121]
def tM:aD:=(.seq (.seq (.region XB) (.cond (Tm 119) .skip (.exit 6))) (.seq (.block 7 (.seq (.region XC) (.cond (Tm 124) (.region XD) .skip))) (.region DP)))
def DQ:Rg:=[iM 131 0,iM 132 11,iA 133 (.call 4 [(Tm 131),(Tm 132)]),iM 17 133]
def DR:Rg:=[iM 134 17,iA 135 (.bslice false 1 1 [(.int .i64 0)] [(0,(Tm 134))]),iF 136 9 15,iS 1 136 135]
def DS:Rg:=[iM 137 11,iC 138 .gtr 137 1,iM 139 138,iG 140 (.mv (Tm 0)) 139 true,iG 141 (.call 4 [(Tm 140),(Ci 2)]) 139 true,iG 142 (.bin .eql (Tm 141) (Ci 0)) 139 true,iA 143 (.pick (Tm 139) (Tm 142) (.const (.bool false)))]
def DT:Rg:=[iF 144 9 15,iL 145 144,iM 146 17,iA 147 (.bin .sub (Ci 1) (Tm 146)),iA 148 (.bslice true 1 1 [(.int .i64 0)] [(0,(Tm 147))]),iA 149 (.append 1 8 (Tm 145) (Tm 148)),iF 150 9 15,iS 1 150 149]
def tR:Rg:=[iF 151 5 7,iL 152 151,iA 153 (.load (some 17) (Tm 15)),iA 154 (.bslice true 17 1 [(.str []),(.int .i64 0),(.int .i64 0),(.int .i64 0),(.int .i64 0),(.int .i64 0),(.int .i64 0),(.int .i64 0),(.int .i64 0),.nils,.nils,(.bool false),.nils,.nils,(.bool false),.nils,.nils] [(0,(Tm 153))]),iA 155 (.append 17 240 (Tm 152) (Tm 154)),iF 156 5 7,iS 1 156 155]
def XE:Rg:=[iM 83 14,iC 84 .add 83 1,iM 14 84]
def DL:aD:=(.seq (.seq (.region XA) (.cond (Tm 82) .skip (.exit 4))) (.seq (.block 5 (.seq (.region DN) (.seq (.seq (.draw tN) (.draw tO)) (.seq (.region tP) (.seq (.region tQ) (.seq (.seq (.region DO) (.block 6 (.loop tM))) (.seq (.region DQ) (.seq (.region DR) (.seq (.seq (.region DS) (.cond (Tm 143) (.region DT) .skip)) (.region tR)))))))))) (.region XE)))
def XF:Rg:=[iM 157 0,iM 158 2,iC 159 .add 158 1,iA 160 (.call 4 [(Tm 157),(Tm 159)]),iM 18 160]
def XG:Rg:=[iI 19 0]
def XH:Rg:=[iM 161 19,iM 162 18,iB 163 .lss 161 162]
def XI:Rd:=[(iF 166 6 7,true),(iL 167 166,true),(iM 168 19,false),(iA 169 (.call 29 [(.const (.str [118])),(Tm 168)]),true),(iM 170 0,true),(iF 171 5 7,true),(iL 172 171,true),(iN 173 172,true),(iA 174 (.call 4 [(Tm 170),(Tm 173)]),true),(iA 175 (.build [(.str []),(.int .i64 0)] [(0,1,(Tm 169)),(1,1,(Tm 174))]),false),(iA 176 (.bslice true 2 1 [(.str []),(.int .i64 0)] [(0,(Tm 175))]),false),(iA 177 (.append 2 24 (Tm 167) (Tm 176)),true),(iF 178 6 7,false)]
def XJ:Rd:=[(iS 1 178 177,true)]
def XK:Rg:=[iM 164 19,iC 165 .add 164 1,iM 19 165]
def DM:aD:=(.seq (.seq (.region XH) (.cond (Tm 163) .skip (.exit 8))) (.seq (.block 9 (.seq (.draw XI) (.draw XJ))) (.region XK)))
def XL:Rg:=[iA 179 (.load (some 7) (Tm 7)),iS 7 6 179]
def yR:aD:=(.seq (.region afG) (.seq (.region afH) (.seq (.region afI) (.seq (.seq (.region afJ) (.block 0 (.loop IR))) (.seq (.region WQ) (.seq (.seq (.region WR) (.block 2 (.loop DK))) (.seq (.region WW) (.seq (.region WX) (.seq (.region WY) (.seq (.seq (.region WZ) (.block 4 (.loop DL))) (.seq (.region XF) (.seq (.seq (.region XG) (.block 8 (.loop DM))) (.seq (.region XL) .ret)))))))))))))
def aPK:List Nat:=[40,67,148,154,176]
def IQ:bG:=⟨3,180,yR,[.cell 6 (some 7)]⟩
def afB:Rg:=[iA 6 (.alloc [(.int .i64 0),.nils,.nils,.nils,.nils,.nils,.nils])]
def afC:Rg:=[iM 7 0,iA 8 (.call 28 [(Tm 7)]),iM 9 1,iM 10 2,iA 11 (.call 0 [(Tm 8),(Tm 9),(Tm 10)]),iS 7 6 11]
def yQ:aD:=(.seq (.region afB) (.seq (.region afC) .ret))
def aPH:List Nat:=[]
def IN:bG:=⟨3,12,yQ,[.cell 6 (some 7)]⟩
def asU:Rg:=[iA 3 (.box true (Tm 1)),iA 4 (.mv (.const .nils))]
def asV:Rg:=[iM 7 0,iA 8 (.call 4 [(Tm 7),(Ci 4)]),iC 9 .eql 8 0]
def asW:Rg:=[iA 4 (.mv (.const .nils))]
def asX:Rg:=[iA 5 (.mv (.const .nils))]
def asY:Rg:=[iI 6 0]
def asZ:Rg:=[iM 10 6,iF 11 4 3,iL 12 11,iN 13 12,iB 14 .lss 10 13]
def atA:Rg:=[iM 17 5,iM 18 0,iA 19 (.call 4 [(Tm 18),(Ci 7)]),iC 20 .sub 19 1,iA 21 (.bslice true 1 1 [(.int .i64 0)] [(0,(Tm 20))]),iA 22 (.append 1 8 (Tm 17) (Tm 21)),iM 5 22]
def atB:Rg:=[iM 15 6,iC 16 .add 15 1,iM 6 16]
def asT:aD:=(.seq (.seq (.region asZ) (.cond (Tm 14) .skip (.exit 0))) (.seq (.block 1 (.region atA)) (.region atB)))
def atC:Rg:=[iM 23 5,iM 4 23]
def ED:aD:=(.seq (.region asU) (.seq (.seq (.region asV) (.cond (Tm 9) (.seq (.region asW) .ret) .skip)) (.seq (.region asX) (.seq (.seq (.region asY) (.block 0 (.loop asT))) (.seq (.region atC) .ret)))))
def aWA:List Nat:=[3,21]
def XW:bG:=⟨2,24,ED,[.tmp 4]⟩
def XO:Rg:=[iA 3 (.box true (Tm 1)),iA 4 (.mv (.const .nils))]
def XP:Rg:=[iA 5 (.mv (.const .nils))]
def XQ:Rg:=[iI 6 0]
def XR:Rg:=[iM 11 6,iF 12 6 3,iL 13 12,iN 14 13,iB 15 .lss 11 14]
def XS:Rg:=[iA 7 (.mv (.const .nils))]
def XT:Rg:=[iM 18 0,iF 19 4 3,iL 20 19,iN 21 20,iC 22 .add 21 1,iA 23 (.call 4 [(Tm 18),(Tm 22)]),iM 8 23]
def XU:Rg:=[iI 9 0]
def DY:Rg:=[iM 24 9,iA 25 (.load (some 7) (Tm 3)),iM 26 6,iA 27 (.call 82 [(Tm 25),(Tm 26)]),iB 28 .lss 24 27]
def DZ:Rg:=[iI 10 (-1)]
def EA:Rg:=[iF 31 4 3,iL 32 31,iN 33 32,iC 34 .gtr 33 0]
def yT:Rg:=[iM 35 8,iM 36 9,iB 37 .add 35 36,iF 38 4 3,iL 39 38,iN 40 39,iB 41 .rem 37 40,iM 10 41]
def yU:Rg:=[iM 42 0,iA 43 (.call 4 [(Tm 42),(Ci 6)])]
def yV:Rg:=[iC 45 .eql 43 0,iM 44 45]
def yW:Rg:=[iM 46 0,iF 47 4 3,iL 48 47,iN 49 48,iA 50 (.call 4 [(Tm 46),(Tm 49)]),iM 10 50]
def rW:Rg:=[iC 52 .eql 43 1,iM 51 52]
def yX:Rg:=[iM 53 0,iF 54 4 3,iL 55 54,iN 56 55,iC 57 .add 56 1,iA 58 (.call 4 [(Tm 53),(Tm 57)]),iC 59 .sub 58 1,iM 10 59]
def rX:Rg:=[iM 60 7,iM 61 10,iA 62 (.bslice true 1 1 [(.int .i64 0)] [(0,(Tm 61))]),iA 63 (.append 1 8 (Tm 60) (Tm 62)),iM 7 63]
def yY:Rg:=[iM 29 9,iC 30 .add 29 1,iM 9 30]
def yS:aD:=(.seq (.seq (.region DY) (.cond (Tm 28) .skip (.exit 2))) (.seq (.block 3 (.seq (.region DZ) (.seq (.seq (.region EA) (.cond (Tm 34) (.seq (.region yT) (.seq (.region yU) (.block 4 (.seq (.region yV) (.cond (Tm 44) (.region yW) (.seq (.region rW) (.cond (Tm 51) (.region yX) .skip))))))) .skip)) (.region rX)))) (.region yY)))
def OX:Rg:=[iM 64 5,iM 65 7,iA 66 (.bslice true 1 1 [.nils] [(0,(Tm 65))]),iA 67 (.append 1 24 (Tm 64) (Tm 66)),iM 5 67]
def OY:Rg:=[iM 16 6,iC 17 .add 16 1,iM 6 17]
def OW:aD:=(.seq (.seq (.region XR) (.cond (Tm 15) .skip (.exit 0))) (.seq (.block 1 (.seq (.region XS) (.seq (.region XT) (.seq (.seq (.region XU) (.block 2 (.loop yS))) (.region OX))))) (.region OY)))
def OZ:Rg:=[iM 68 5,iM 4 68]
def vM:aD:=(.seq (.region XO) (.seq (.region XP) (.seq (.seq (.region XQ) (.block 0 (.loop OW))) (.seq (.region OZ) .ret))))
def aLA:List Nat:=[3,62,66]
def BD:bG:=⟨2,69,vM,[.tmp 4]⟩
def awC:Rg:=[iA 2 (.box true (Tm 0)),iI 4 0]
def awD:Rd:=[(iF 6 5 2,false),(iL 7 6,false),(iF 8 6 2,false),(iL 9 8,false),(iM 10 1,false),(iX 11 2 9 10,false),(iF 12 1 11,false),(iL 13 12,false),(iX 14 17 7 13,false),(iA 15 (.load (some 17) (Tm 14)),false),(iA 5 (.alloc [(.str []),(.int .i64 0),(.int .i64 0),(.int .i64 0),(.int .i64 0),(.int .i64 0),(.int .i64 0),(.int .i64 0),(.int .i64 0),.nils,.nils,(.bool false),.nils,.nils,(.bool false),.nils,.nils]),true),(iS 17 5 15,true)]
def awE:Rg:=[iF 16 1 5,iL 17 16,iF 18 2 5,iL 19 18,iB 20 .add 17 19,iM 4 20]
def EV:aD:=(.seq (.region awC) (.seq (.draw awD) (.seq (.region awE) .ret)))
def aWU:List Nat:=[2]
def YV:bG:=⟨2,21,EV,[.tmp 4]⟩
end Go.PM
namespace Go.PM
open Go Go.Na
abbrev gK (l:List Nat):List (List PV):=l.map fun (n:Nat)=>[PV.int .u8 (n:Int)]
theorem MC (l:List Nat):(gK l).length=l.length:=by simp
theorem aYB (l:List Nat) {i:Nat} (h:i<l.length):(gK l)[i]?=some [.int .u8 (l[i]:Nat)]:=by simp[h]
abbrev aS (v:PV) (a:Nat):bV:=.rows 2 [[v,.int .i64 a]]
structure Tp (l:List Nat) (v:PV):Prop where
 seen:Seen 1 v (gK l)
 byte:∀ x∈l,x<256
 len:l.length≤400
def alW (l:List Nat) (r:PV) (H:PH):Prop:=∃ o v,r=.ptr o 2 0 0∧Tp (l.take 400) v∧H=PH.nil.set o (aS v 0)
theorem akZ {t q s:Nat} {rs:List (List PV)} {F:PF} {H H2:PH} {R:PV→PH→Prop} {v:PV} {e:kJ} (he:e=.normal∨e=.ret) (ht:F t=some v) (hq:H q=some (.rows s rs)) (hH:H2.le (H.frz q s rs)) (hR:R (PV.frz q s rs v) H2):aY [.tmp t] R e F H:=by
 have key:∃ vs,dD.evs F H [.tmp t]=some vs∧∃ F1 H1 H2,gS (PF.nil.set 0 (cN vs)) H F1 H1∧H2.le H1∧∃ u,F1 0=some u∧R u H2:=by
  refine⟨[v],by rw[jO,lP,ht,nG],_,_,H2,.step q hq (.refl _ _),hH,PV.frz q s rs v,?_,hR⟩
  rw[qB,kW,if_pos rfl,biD]
  rfl
 rcases he with rfl | rfl<;>exact key
theorem a1L {C:Ctx} (l:List Nat) (hb:∀ x∈l,x<256) (hl:l.length≤9223372036854775807):IV.wp C (aY asO.res (alW l)) (PF.args [.sl 1 (gK l)]) .nil:=by
 simp -implicitDefEqProofs only[go_sem,γ,reduceCtorEq,IV,aEL,aEM,asO,bgT]
 have fin:∀ F:PF,F 0=some (.sl 1 (gK (l.take 400)))→aD.wp C (.seq (.region acB) .ret) (aY [.tmp 2] (alW l)) F .nil:=by
  intro F f0
  have htl:(l.take 400).length≤400:=by rw[bhJ]; omega
  have hbt:∀ x∈l.take 400,x<256:=fun x hx=>hb x (List.mem_of_mem_take hx)
  have hR:∀ o v,Seen 1 v (gK (l.take 400))→alW l (.ptr o 2 0 0) (PH.nil.set o (aS v 0)):=fun o v hv=>⟨o,v,rfl,⟨hv,hbt,htl⟩,rfl⟩
  generalize hL:l.take 400=L at *
  simp -implicitDefEqProofs only[go_sem,δ,γ,θ,acB,f0]
  refine wG (src:=gK L) rfl ?_ (fun h=>?_) fun h o ho=>?_
  ·unfold roomFor
   rw[MC]
   simp only[maxLen]; omega
  ·simp -implicitDefEqProofs only[go_sem,δ,γ,bhF,bhM,or_false,forall_eq]
   refine aQ fun o ho=>?_
   simp -implicitDefEqProofs only[go_sem,γ]
   exact aW (vs:=[.ptr o 2 0 0]) (.inr rfl) (PH.nil.set o (aS .nils 0)) rfl PH.le_refl (hR o .nils (.inl ⟨h,rfl⟩))
  ·simp -implicitDefEqProofs only[go_sem,δ,γ,bhF,bhM,or_false,forall_eq]
   refine aQ fun p hp=>?_
   have hne:¬ p=o:=(fZ.1 hp).1
   have hne':¬ o=p:=fun h=>hne h.symm
   simp -implicitDefEqProofs only[go_sem,γ]
   refine akZ (v:=.ptr p 2 0 0) (q:=o) (s:=1) (rs:=gK L) (H2:=PH.nil.set p (aS (.sl 1 (gK L)) 0)) (.inr rfl) rfl (by simp -implicitDefEqProofs only[go_sem,hne']) (PH.aA PH.nil_le ?_) (hR p _ (.inr rfl))
   have h2:(gK L).take L.length=gK L:=bhI (by rw[MC]; exact bgX _)
   simp -implicitDefEqProofs only[go_sem,hne,bV.frz,PV.cX,bgT,h2]
   rfl
 simp only[aD.wp,go_sem] at fin
 by_cases c:l.length>400
 ·have c':((l.length:Nat):Int)>400:=by omega
  have c2:(400:Int)≤((l.length:Nat):Int):=by omega
  simp -implicitDefEqProofs only[go_sem,κ,ν,γ,reduceCtorEq,c',aEN,bgT,c2]
  refine fin _ ?_
  rw[kW,if_pos rfl]
  simp[gK]
 ·have c':¬ ((l.length:Nat):Int)>400:=by omega
  simp -implicitDefEqProofs only[go_sem,c']
  refine fin _ ?_
  rw[bhI (by omega)]
  simp -implicitDefEqProofs only[go_sem,reduceCtorEq]
def UM (l:List Nat) (v:PV) (o n a:Nat) (r:PV) (H:PH):Prop:=r=.int .i64 ((aC l n a).1:Nat)∧H=PH.nil.set o (aS v (aC l n a).2)
theorem aVX {C:Ctx} {l:List Nat} {v:PV} (T:Tp l v) (o n a:Nat) (hn:n≤1000000) (ha:a≤l.length):tU.wp C (aY ND.res (UM l v o n a)) (PF.args [.ptr o 2 0 0,.int .i64 n]) (PH.nil.set o (aS v a)):=by
 obtain⟨hv,hb,hl⟩:=T
 have zero:(l.length≤a∨n<2)→∀ F,aD.wp C (.seq (.region SW) .ret) (aY [.tmp 4] (UM l v o n a)) F (PH.nil.set o (aS v a)):=by
  intro h F
  have e:aC l n a=(0,a):=by unfold aC; rw[if_pos h]
  simp -implicitDefEqProofs only[go_sem,SW]
  exact aW (vs:=[.int .i64 0]) (.inr rfl) _ rfl PH.le_refl ⟨by rw[e]; rfl,by rw[e]⟩
 simp only[aD.wp,go_sem] at zero
 rcases hv with ⟨h1,rfl⟩ | rfl
 ·have h0:l.length=0:=by rw[← MC,h1]; rfl
  have hge:(a:Int)≥0:=by omega
  simp -implicitDefEqProofs only[go_sem,tU,SV,ND]
  refine cA .nil dU PH.nil_le ?_
  simp -implicitDefEqProofs only[go_sem,δ,γ,θ,reduceCtorEq,EC,hge]
  exact zero (.inl (by omega)) _
 simp -implicitDefEqProofs only[go_sem,tU,SV,ND]
 refine cA .nil dU PH.nil_le ?_
 by_cases c1:l.length≤a
 ·have c1':(a:Int)≥(l.length:Nat):=by omega
  simp -implicitDefEqProofs only[go_sem,δ,γ,θ,reduceCtorEq,EC,bgT,c1']
  exact zero (.inl c1) _
 have c1':¬ (a:Int)≥(l.length:Nat):=by omega
 simp -implicitDefEqProofs only[go_sem,δ,γ,θ,reduceCtorEq,EC,bgT,c1']
 by_cases c2:n<2
 ·have c2':(n:Int)<2:=by omega
  simp -implicitDefEqProofs only[go_sem,c2']
  exact zero (.inr c2) _
 have c2':¬ (n:Int)<2:=by omega
 have hal:a<l.length:=by omega
 have e:aC l n a=(l[a]%n,a+1):=by
  unfold aC
  rw[if_neg (by omega)]
  simp[bhQ,hal]
 have ew:IntKind.i64.wrap ((a:Int)+1)=((a+1:Nat):Int):=aK (by omega)
 have ep:IntKind.i64.wrap (((a+1:Nat):Int)-1)=((a:Nat):Int):=by rw[wrap_i64 (by omega) (by omega)]; omega
 have hr:=aYB l hal
 have hx:=hb _ (bgY hal)
 have eb:IntKind.i64.wrap ((l[a]:Nat):Int)=((l[a]:Nat):Int):=UG (by omega)
 have hn0:¬ ((n:Nat):Int)=0:=by omega
 have em:Int.tmod ((l[a]:Nat):Int) ((n:Nat):Int)=((l[a]%n:Nat):Int):=rfl
 simp -implicitDefEqProofs only[go_sem,δ,γ,reduceCtorEq,c2',asP,ew]
 refine cA .nil dU PH.nil_le ?_
 simp -implicitDefEqProofs only[go_sem,δ,γ,θ,reduceCtorEq,asQ,ep,hr,eb,hn0,em]
 exact aW (vs:=[.int .i64 (l[a]%n:Nat)]) (.inr rfl) _ rfl PH.le_refl ⟨by rw[e]; rfl,by rw[e]⟩
end Go.PM
namespace Go.PM
open Go
def PV.oid:PV→Option Nat
 | .osl q _ _ _=>some q
 | _=>none
abbrev LI:=PV × Nat × List (List PV)
abbrev BX:=Nat × bV
def dS (B:List BX):List Nat:=B.map (·.1)
def dC (L:List LI):List Nat:=L.filterMap fun x=>x.1.oid
structure aP (H:PH) (B:List BX) (L:List LI):Prop where
 box:∀ b∈B,H b.1=some b.2
 lst:∀ x∈L,bB H x.2.1 x.1 x.2.2
 nd:(dS B++dC L).Nodup
section
variable {C:Ctx} {H:PH} {B:List BX} {L:List LI} {K:PV→PH→Prop}
theorem bB.id {s q:Nat} {v:PV} {rows:List (List PV)} (h:bB H s v rows) (hq:v.oid=some q):∃ rs,H q=some (.rows s rs)∧v=.osl q s 0 rows.length∧rows.length≤rs.length∧rs.take rows.length=rows:=by
 rcases h with ⟨_,rfl⟩ | ⟨p,rs,rfl,h1,h2,h3⟩
 ·cases hq
 ·cases hq
  exact⟨rs,h1,rfl,h2,h3⟩
theorem bB.same {s:Nat} {v:PV} {rows:List (List PV)} {H':PH} (h:bB H s v rows) (hk:∀ q,v.oid=some q→H' q=H q):bB H' s v rows:=by
 rcases h with h | ⟨p,rs,rfl,h1,h2,h3⟩
 ·exact .inl h
 ·exact .inr ⟨p,rs,rfl,by rw[hk p rfl]; exact h1,h2,h3⟩
theorem jM {x:LI} {q:Nat} (h:x∈L) (hq:x.1.oid=some q):q∈dC L:=List.mem_filterMap.2 ⟨x,h,hq⟩
theorem rF {b:BX} (h:b∈B):b.1∈dS B:=biA.2 ⟨b,h,rfl⟩
theorem aP.nil:aP H [] []:=⟨by simp,by simp,by simp[dS,dC]⟩
theorem aP.at (h:aP H B L) (i:Nat) {o:Nat} {x:bV} (hi:B[i]?=some (o,x)):H o=some x:=h.box _ (bjI hi)
theorem aP.own (h:aP H B L) (i:Nat) {s:Nat} {v:PV} {rows:List (List PV)} (hi:L[i]?=some (v,s,rows)):bB H s v rows:=h.lst _ (bjI hi)
theorem aP.ndB (h:aP H B L):(dS B).Nodup:=(bjK.1 h.nd).1
theorem aP.ndL (h:aP H B L):(dC L).Nodup:=(bjK.1 h.nd).2.1
theorem aP.ndX (h:aP H B L) {o q:Nat} (ho:o∈dS B) (hq:q∈dC L):o≠q:=(bjK.1 h.nd).2.2 o ho q hq
theorem aP.ne (h:aP H B L) (i j:Nat) {o p:Nat} {x y:bV} (hi:B[i]?=some (o,x)) (hj:B[j]?=some (p,y)) (hij:i≠j):o≠p:=by
 intro e
 have h1:(dS B)[i]?=some o:=by unfold dS; rw[biH,hi]; rfl
 have h2:(dS B)[j]?=some p:=by unfold dS; rw[biH,hj]; rfl
 obtain⟨li,e1⟩:=biG.1 h1
 obtain⟨lj,e2⟩:=biG.1 h2
 have hp:=List.pairwise_iff_getElem.1 h.ndB
 rcases Nat.lt_or_gt_of_ne hij with g | g
 ·exact hp i j li lj g (by rw[e1,e2,e])
 ·exact hp j i lj li g (by rw[e1,e2,e])
theorem aP.neL (h:aP H B L) (i j:Nat) {o q:Nat} {x:bV} {y:LI} (hi:B[i]?=some (o,x)) (hj:L[j]?=some y) (hq:y.1.oid=some q):o≠q :=
 h.ndX (rF (bjI hi)) (jM (bjI hj) hq)
theorem aP.fresh (h:aP H B L) {o:Nat} (ho:H o=none):o ∉ dS B∧o ∉ dC L:=by
 refine⟨fun hm=>?_,fun hm=>?_⟩
 ·obtain⟨b,hb,rfl⟩:=biA.1 hm
  rw[h.box b hb] at ho; cases ho
 ·obtain⟨x,hx,e⟩:=List.mem_filterMap.1 hm
  obtain⟨rs,h1,_⟩:=(h.lst x hx).id e
  rw[h1] at ho; cases ho
theorem aP.keep (h:aP H B L) {H':PH} (hk:∀ q,q∈dS B∨q∈dC L→H' q=H q):aP H' B L :=
 ⟨fun b hb=>by rw[hk _ (.inl (rF hb))]; exact h.box b hb,fun x hx=>(h.lst x hx).same fun q hq=>hk q (.inr (jM hx hq)),h.nd⟩
theorem aUZ {i:Nat} {o:Nat} {x y:bV} (hi:B[i]?=some (o,x)):dS (B.set i (o,y))=dS B:=by
 unfold dS
 rw[List.map_set]
 refine List.ext_getElem? fun j=>?_
 rw[List.getElem?_set]
 split
 ·rename_i e
  subst e
  rw[biH,hi]
  have:=(biG.1 hi).1
  simp[this]
 ·rfl
theorem aP.set (h:aP H B L) (i:Nat) {o:Nat} {x:bV} (hi:B[i]?=some (o,x)) (y:bV):aP (H.set o y) (B.set i (o,y)) L:=by
 have hoB:o∈dS B:=rF (bjI hi)
 refine⟨fun b hb=>?_,fun z hz=>(h.lst z hz).same fun q hq=>?_,by rw[aUZ hi]; exact h.nd⟩
 ·obtain⟨j,hj⟩:=List.mem_iff_getElem?.1 hb
  rw[List.getElem?_set] at hj
  split at hj
  ·split at hj
   ·cases hj; simp only[aV,if_true]
   ·cases hj
  ·rename_i hne
   have:b.1≠o:=fun e=>h.ne i j hi (show B[j]?=some (b.1,b.2) from hj) hne e.symm
   rw[aV,if_neg this]
   exact h.box b (bjI hj)
 ·have:q≠o:=fun e=>h.ndX hoB (jM hz hq) e.symm
  rw[aV,if_neg this]
theorem aP.new (h:aP H B L) {o:Nat} (ho:H o=none) (y:bV):aP (H.set o y) (B++[(o,y)]) L:=by
 obtain⟨f1,f2⟩:=h.fresh ho
 refine⟨fun b hb=>?_,fun z hz=>(h.lst z hz).same fun q hq=>?_,?_⟩
 ·rw[biO,List.mem_singleton] at hb
  rcases hb with hb | rfl
  ·have:b.1≠o:=fun e=>f1 (e ▸ rF hb)
   rw[aV,if_neg this]; exact h.box b hb
  ·simp only[aV,if_true]
 ·have:q≠o:=fun e=>f2 (e ▸ jM hz hq)
  rw[aV,if_neg this]
 ·have:=h.nd
  simp only[dS,biS,biC,biV] at *
  rw[bhY,bjK] at *
  obtain⟨a,b,c⟩:=this
  refine⟨a,?_,fun p hp q hq=>?_⟩
  ·rw[List.singleton_append,List.nodup_cons]; exact⟨f2,b⟩
  ·rw[List.singleton_append,bhF] at hq
   rcases hq with rfl | hq
   ·intro e; subst e; exact f1 hp
   ·exact c p hp q hq
theorem jB (L1 L2:List LI):dC (L1++L2)=dC L1++dC L2:=List.filterMap_append ..
theorem aP.qL (h:aP H B L) (s:Nat):aP H B (L++[(.nils,s,[])]):=by
 refine⟨h.box,fun z hz=>?_,?_⟩
 ·rw[biO,List.mem_singleton] at hz
  rcases hz with hz | rfl
  ·exact h.lst z hz
  ·exact .nil
 ·rw[jB,show dC [((.nils:PV),s,([]:List (List PV)))]=[] from rfl,biN]; exact h.nd
theorem aP.a4W (h:aP H B L) {o s:Nat} {rows:List (List PV)} (ho:H o=none):aP (H.set o (.rows s rows)) B (L++[(.osl o s 0 rows.length,s,rows)]):=by
 obtain⟨f1,f2⟩:=h.fresh ho
 have hk:=h.keep (H':=H.set o (.rows s rows)) fun q hq=>by
  have:q≠o:=by rintro rfl; exact hq.elim f1 f2
  rw[aV,if_neg this]
 refine⟨hk.box,fun z hz=>?_,?_⟩
 ·rw[biO,List.mem_singleton] at hz
  rcases hz with hz | rfl
  ·exact hk.lst z hz
  ·exact .inr ⟨o,rows,rfl,by simp only[aV,if_true],bgX _,bhZ⟩
 ·rw[jB,show dC [((.osl o s 0 rows.length:PV),s,rows)]=[o] from rfl,← bhY,bjK]
  refine⟨h.nd,by simp,fun p hp q hq=>?_⟩
  rw[List.mem_singleton] at hq
  subst hq
  rintro rfl
  rcases biO.1 hp with hp | hp
  ·exact f1 hp
  ·exact f2 hp
theorem aqQ {i:Nat} {v v':PV} {s s':Nat} {rows rows':List (List PV)} (hi:L[i]?=some (v,s,rows)):∃ L1 L2,L=L1++(v,s,rows)::L2∧L.set i (v',s',rows')=L1++(v',s',rows')::L2:=by
 obtain⟨hl,he⟩:=biG.1 hi
 refine⟨L.take i,L.drop (i+1),?_,?_⟩
 ·rw[← he,← biQ hl,bjE]
 ·rw[List.set_eq_take_append_cons_drop,if_pos hl]
theorem aP.NI (h:aP H B L) (i:Nat) {s:Nat} {v:PV} {rows:List (List PV)} (hi:L[i]?=some (v,s,rows)) {s':Nat} {v':PV} {rows':List (List PV)} {H':PH} (ho:bB H' s' v' rows')
  (hid:∀ q,v'.oid=some q→v.oid=some q∨H q=none) (hk:∀ q,q∈dS B∨q∈dC L→(∀ p,v.oid=some p→q≠p)→H' q=H q):aP H' B (L.set i (v',s',rows')):=by
 obtain⟨L1,L2,e1,e2⟩:=aqQ (v':=v') (s':=s') (rows':=rows') hi
 rw[e2]
 subst e1
 have hnd:=h.nd
 have eL:dC (L1++(v,s,rows)::L2)=dC L1++(v.oid.toList++dC L2):=by
  rw[jB]
  congr 1
  unfold dC
  rw[List.filterMap_cons]
  cases e:v.oid<;>simp
 have eL':dC (L1++(v',s',rows')::L2)=dC L1++(v'.oid.toList++dC L2):=by
  rw[jB]
  congr 1
  unfold dC
  rw[List.filterMap_cons]
  cases e:v'.oid<;>simp
 rw[eL] at hnd
 have other:∀ q,q∈dS B∨q∈dC L1∨q∈dC L2→∀ p,v.oid=some p→q≠p:=by
  intro q hq p hp e
  subst e
  rw[hp] at hnd
  simp only[Option.toList_some] at hnd
  rw[bjK] at hnd
  obtain⟨a,b,c⟩:=hnd
  rw[bjK] at b
  obtain⟨b1,b2,b3⟩:=b
  rw[List.singleton_append,List.nodup_cons] at b2
  rcases hq with hq | hq | hq
  ·exact c q hq q (by simp) rfl
  ·exact b3 q hq q (by simp) rfl
  ·exact b2.1 hq
 have keepq:∀ q,q∈dS B∨q∈dC L1∨q∈dC L2→H' q=H q:=by
  intro q hq
  refine hk q ?_ (other q hq)
  rw[eL]
  simp only[biO]
  rcases hq with hq | hq | hq
  ·exact .inl hq
  ·exact .inr (.inl hq)
  ·exact .inr (.inr (.inr hq))
 refine⟨fun b hb=>by rw[keepq _ (.inl (rF hb))]; exact h.box b hb,fun z hz=>?_,?_⟩
 ·rw[biO,bhF] at hz
  rcases hz with hz | rfl | hz
  ·exact (h.lst z (by simp[hz])).same fun q hq=>keepq q (.inr (.inl (jM hz hq)))
  ·exact ho
  ·exact (h.lst z (by simp[hz])).same fun q hq=>keepq q (.inr (.inr (jM hz hq)))
 ·rw[eL']
  cases e:v'.oid with
  | none =>
   simp only[Option.toList_none,List.nil_append]
   refine List.Nodup.sublist ?_ hnd
   exact biU.append (biU.refl _) (biU.append (biU.refl _) (List.sublist_append_right _ _))
  | some q =>
   rcases hid q e with hv | hn
   ·rw[hv] at hnd
    exact hnd
   ·obtain⟨f1,f2⟩:=h.fresh hn
    rw[eL] at f2
    simp only[biO,not_or] at f2
    have hnd':(dS B++(dC L1++dC L2)).Nodup:=List.Nodup.sublist (biU.append (biU.refl _) (biU.append (biU.refl _) (List.sublist_append_right _ _))) hnd
    simp only[Option.toList_some]
    rw[bjK] at hnd' ⊢
    obtain⟨a,b,c⟩:=hnd'
    rw[bjK] at b
    obtain⟨b1,b2,b3⟩:=b
    refine⟨a,?_,?_⟩
    ·rw[bjK]
     refine⟨b1,by rw[List.singleton_append,List.nodup_cons]; exact⟨f2.2.2,b2⟩,fun p hp r hr=>?_⟩
     rw[List.singleton_append,bhF] at hr
     rcases hr with rfl | hr
     ·rintro rfl; exact f2.1 hp
     ·exact b3 p hp r hr
    ·intro p hp r hr
     rw[biO,List.singleton_append,bhF] at hr
     rcases hr with hr | rfl | hr
     ·exact c p hp r (by simp[hr])
     ·rintro rfl; exact f1 hp
     ·exact c p hp r (by simp[hr])
theorem aP.append (h:aP H B L) (i:Nat) {s b:Nat} {v y:PV} {rows src:List (List PV)} (hi:L[i]?=some (v,s,rows)) (hy:dK H s y=some src) (hr:roomFor rows.length src.length b)
  (hk:∀ v' H',aP H' B (L.set i (v',s,rows++src))→(src≠[]→∃ q,v'=.osl q s 0 (rows++src).length)→K v' H'):mQ H s b v y K:=by
 rcases h.own i hi with ⟨rfl,rfl⟩ | ⟨q,rs,rfl,h1,h2,h3⟩
 ·refine⟨src,hy,hr,fun e=>?_,fun e o ho=>?_⟩
  ·subst e
   refine hk _ _ ?_ fun h=>absurd rfl h
   exact h.NI i hi (.inl ⟨rfl,rfl⟩) (fun q hq=>by cases hq) fun q _ _=>rfl
  ·refine hk _ _ (h.NI i hi (.inr ⟨o,src,rfl,by simp only[aV,if_true],bgX _,bhZ⟩) (fun q hq=>by cases hq; exact .inr ho) fun q hq _=>?_) fun _=>⟨o,rfl⟩
   obtain⟨f1,f2⟩:=h.fresh ho
   have:q≠o:=by rintro rfl; exact hq.elim f1 f2
   rw[aV,if_neg this]
 ·have hlen:(rows++src).length=rows.length+src.length:=bgW
  refine⟨src,hy,rfl,rfl,hr,rs,h1,h2,?_,fun o ho=>?_⟩
  ·rw[h3]
   refine hk _ _ (h.NI i hi (.inr ⟨q,rows++src,by rw[hlen],by simp only[aV,if_true],bgX _,bhZ⟩) (fun p hp=>by cases hp; exact .inl rfl) fun p _ hp=>?_) fun _=>⟨q,by rw[hlen]⟩
   rw[aV,if_neg (hp q rfl)]
  ·rw[h3]
   refine hk _ _ (h.NI i hi (.inr ⟨o,rows++src,by rw[hlen],by simp only[aV,if_true],bgX _,bhZ⟩) (fun p hp=>by cases hp; exact .inr ho) fun p hpm hp=>?_) fun _=>⟨o,by rw[hlen]⟩
   obtain⟨f1,f2⟩:=h.fresh ho
   have n1:p≠o:=by rintro rfl; exact hpm.elim f1 f2
   rw[aV,if_neg n1,aV,if_neg (hp q rfl)]
theorem aP.sub (h:aP H B L) {B':List BX} {L':List LI} (hB:B'.Sublist B) (hL:L'.Sublist L):aP H B' L' :=
 ⟨fun b hb=>h.box b (hB.subset hb),fun x hx=>h.lst x (hL.subset hx),List.Nodup.sublist (biU.append (hB.map _) (hL.filterMap _)) h.nd⟩
theorem aP.aYR (h:aP H B L) (i:Nat):aP H (B.eraseIdx i) L:=h.sub (List.eraseIdx_sublist ..) (biU.refl _)
theorem aP.a7U (h:aP H B L) (i:Nat):aP H B (L.eraseIdx i):=h.sub (biU.refl _) (List.eraseIdx_sublist ..)
end
end Go.PM
namespace Go.PM
open Go
section
variable {C:Ctx} {F:PF} {H:PH} {B:List BX} {L:List LI}
theorem aP.BM (h:aP H B L) {q:Nat} (hq:q∈dS B∨q∈dC L):∃ x,H q=some x:=by
 rcases hq with hq | hq
 ·obtain⟨b,hb,rfl⟩:=biA.1 hq
  exact⟨_,h.box b hb⟩
 ·obtain⟨x,hx,e⟩:=List.mem_filterMap.1 hq
  obtain⟨rs,h1,_⟩:=(h.lst x hx).id e
  exact⟨_,h1⟩
theorem aP.perm (h:aP H B L) {B':List BX} {L':List LI} (hB:B.Perm B') (hL:L.Perm L'):aP H B' L' :=
 ⟨fun b hb=>h.box b (hB.mem_iff.2 hb),fun x hx=>h.lst x (hL.mem_iff.2 hx),(List.Perm.nodup_iff ((hB.map _).append (hL.filterMap _))).1 h.nd⟩
theorem aP.only (h:aP H B L) {B1:List BX} {L1:List LI} (hB:B1.Sublist B) (hL:L1.Sublist L):aP (H.only (dS B1++dC L1)) B1 L1:=by
 refine (h.sub hB hL).keep fun q hq=>?_
 rw[pC]
 rw[if_pos (biO.2 hq)]
theorem a4Y {a b c d:List Nat} (h1:(a++c).Nodup) (h2:(b++d).Nodup) (h3:∀ q,q∈a∨q∈c→q∈b∨q∈d→False):((a++b)++(c++d)).Nodup:=by
 have e:List.Perm ((a++b)++(c++d)) ((a++c)++(b++d)):=by
  rw[bhY,bhY]
  exact List.Perm.append_left a (by rw[← bhY,← bhY]; exact List.Perm.append_right d List.perm_append_comm)
 rw[e.nodup_iff,bjK]
 refine⟨h1,h2,fun p hp q hq=>?_⟩
 rintro rfl
 exact h3 p (biO.1 hp) (biO.1 hq)
theorem aP.frame {H':PH} {B1 B2 B':List BX} {L1 L2 L':List LI} (h:aP H (B1++B2) (L1++L2)) (h':aP H' B' L') (ha:jW H (H.only (dS B1++dC L1)) H'):aP (H.over (H.only (dS B1++dC L1)) H') (B'++B2) (L'++L2):=by
 have h2:aP H B2 L2:=h.sub (List.sublist_append_right ..) (List.sublist_append_right ..)
 have dis:∀ q,q∈dS B2∨q∈dC L2→¬ (q∈dS B1++dC L1):=by
  intro q hq hm
  have hnd:=h.nd
  rw[show dS (B1++B2)=dS B1++dS B2 from biS,jB] at hnd
  have e:List.Perm ((dS B1++dS B2)++(dC L1++dC L2)) ((dS B1++dC L1)++(dS B2++dC L2)):=by
   rw[bhY,bhY]
   exact List.Perm.append_left _ (by rw[← bhY,← bhY]; exact List.Perm.append_right _ List.perm_append_comm)
  rw[e.nodup_iff,bjK] at hnd
  exact hnd.2.2 q hm q (biO.2 hq) rfl
 have new:∀ q,q∈dS B'∨q∈dC L'→(H.over (H.only (dS B1++dC L1)) H') q=H' q:=by
  intro q hq
  obtain⟨x,hx⟩:=h'.BM hq
  rw[lO,hx]
 have old:∀ q,q∈dS B2∨q∈dC L2→(H.over (H.only (dS B1++dC L1)) H') q=H q:=by
  intro q hq
  obtain⟨x,hx⟩:=h2.BM hq
  have h0:(H.only (dS B1++dC L1)) q=none:=by rw[pC,if_neg (dis q hq)]
  rw[lO]
  cases e:H' q with
  | none=>simp only[h0]
  | some y =>
   have:=ha q y e h0
   rw[hx] at this; cases this
 have k1:=h'.keep new
 have k2:=h2.keep old
 refine⟨fun b hb=>?_,fun x hx=>?_,?_⟩
 ·rcases biO.1 hb with hb | hb
  ·exact k1.box b hb
  ·exact k2.box b hb
 ·rcases biO.1 hx with hx | hx
  ·exact k1.lst x hx
  ·exact k2.lst x hx
 ·rw[show dS (B'++B2)=dS B'++dS B2 from biS,jB]
  refine a4Y h'.nd h2.nd fun q hq hq2=>?_
  obtain⟨x,hx⟩:=h'.BM hq
  obtain⟨y,hy⟩:=h2.BM hq2
  have h0:(H.only (dS B1++dC L1)) q=none:=by rw[pC,if_neg (dis q hq2)]
  have:=ha q x hx h0
  rw[hy] at this; cases this
theorem QW {name:Nat} {vs:List PV} {args:List aN} {d:Option Nat} {K:PF→PH→Prop} {B1 B2:List BX} {L1 L2:List LI} {Q:PV→List BX→List LI→Prop} (h:aP H (B1++B2) (L1++L2))
  (hc:∀ H0,aP H0 B1 L1→aJ C name vs H0 (fun r H'=>∃ B' L',Q r B' L'∧aP H' B' L')) (ha:aN.evs F args=some vs)
  (hk:∀ r B' L' H',Q r B' L'→aP H' (B'++B2) (L'++L2)→K (F.put d r) H'):gC C name args [] d K F H:=by
 refine lH (hc (H.only (dS B1++dC L1)) (h.only (List.sublist_append_left ..) (List.sublist_append_left ..))) ha (acV H _) ?_
 rintro r H' ⟨B',L',hq,h'⟩ hap
 exact hk r B' L' _ hq (h.frame h' hap)
theorem aP.GZ {B:List BX} {o:Nat} {x:bV} (h:aP H (B++[(o,x)]) L):H o=some x:=h.box (o,x) (by simp)
theorem aP.adA {B:List BX} {o:Nat} {x:bV} (h:aP H (B++[(o,x)]) L) (y:bV):aP (H.set o y) (B++[(o,y)]) L:=by
 have:=h.set B.length (o:=o) (x:=x) (by simp) y
 rwa [bjR _ _ (bgX _),Nat.sub_self] at this
theorem aP.dropLast {B:List BX} {b:BX} (h:aP H (B++[b]) L):aP H B L:=h.sub (List.sublist_append_left ..) (biU.refl _)
theorem aP.a2I {B:List BX} {o:Nat} {x:bV} (h:aP H ((o,x)::B) L) (y:bV):aP (H.set o y) ((o,y)::B) L:=h.set 0 rfl y
theorem aP.a4K {B:List BX} {o:Nat} {x:bV} (h:aP H ((o,x)::B) L):H o=some x:=h.at 0 rfl
theorem fW {name o:Nat} {x y:bV} {r:PV} {vs:List PV} {args:List aN} {d:Option Nat} {K:PF→PH→Prop} (h:aJ C name vs (PH.nil.set o x) (fun r' H'=>r'=r∧H'=PH.nil.set o y)) (ho:H o=some x) (ha:aN.evs F args=some vs)
  (hk:K (F.put d r) (H.set o y)):gC C name args [] d K F H:=by
 refine lH h ha (PH.aA PH.nil_le ho) ?_
 rintro r' H' ⟨rfl,rfl⟩ -
 rw[PH.qP]
 exact hk
theorem amR {Hs:PH} {S:Spec} {name o:Nat} {x y:bV} {r:PV} {vs:List PV} {R:PH→PV→PH→Prop} {args:List aN} {st:Bool} {d:Option Nat} {K:PF→PH→Prop} (hS:S name vs=some ([o],R)) (ho:H o=some x)
  (h:aJ C name vs (PH.nil.set o x) (fun r' H'=>r'=r∧H'=PH.nil.set o y)) (hR1:R (PH.nil.set o x) r (PH.nil.set o y)) (hR2:∀ r' H',R (PH.nil.set o x) r' H'→r'=r∧H'=PH.nil.set o y) (ha:aN.evs F args=some vs)
  (hle:Hs.le (H.set o y)) (hk:K (F.put d r) (H.set o y)):dOp C Hs S st (.call name args) d K F H:=by
 have e:=avH ho
 refine⟨vs,[o],_,ha,hS,fun q hq=>?_,?_,fun G=>⟨r,_,by rw[e]; exact hR1,fun q z hz hn=>?_⟩,fun r' H' hr _=>?_⟩
 ·simp at hq; subst hq; exact⟨x,ho⟩
 ·rw[e]
  exact h.post fun r' H' hr=>⟨r',.refl _,by rw[hr.1,hr.2]; exact hR1⟩
 ·rw[e] at hn
  rw[aV] at hz hn
  split at hn
  ·cases hn
  ·rename_i hne
   rw[if_neg hne] at hz; cases hz
 ·rw[e] at hr
  obtain⟨rfl,rfl⟩:=hR2 r' H' hr
  rw[e,PH.qP]
  exact⟨hle,hk⟩
theorem aXB {s:Nat} {q z:Nat} {rs:List (List PV)} {v:PV} {rows:List (List PV)} (h:bB H s v rows) (hv:v.oid≠some q):bB (H.frz q z rs) s v (rows.map fun r=>r.map (PV.cX q z rs)):=by
 rcases h with ⟨rfl,rfl⟩ | ⟨p,rs',rfl,h1,h2,h3⟩
 ·exact .inl ⟨rfl,rfl⟩
 ·have hne:¬ p=q:=fun e=>hv (by rw[e]; rfl)
  refine .inr ⟨p,rs'.map fun r=>r.map (PV.cX q z rs),by rw[bgT],?_,by simpa using h2,?_⟩
  ·rw[MV,if_neg hne,h1]; rfl
  ·rw[bgT,← List.map_take,h3]
theorem aP.frz (h:aP H B L) (i:Nat) {q s k:Nat} {rows:List (List PV)} (hi:L[i]?=some (.osl q s 0 k,s,rows)):∃ rs,H q=some (.rows s rs)∧PV.cX q s rs (.osl q s 0 k)=.sl s rows∧PV.frz q s rs (.osl q s 0 k)=.sl s rows∧(∀ j x,j≠i→L[j]?=some x→PV.cX q s rs x.1=x.1) ∧
  aP (H.frz q s rs) (B.map fun b=>(b.1,b.2.frz q s rs)) ((L.eraseIdx i).map fun x=>(x.1,x.2.1,x.2.2.map fun r=>r.map (PV.cX q s rs))):=by
 obtain⟨rs,h1,h2,h3,h4⟩:=(h.own i hi).id rfl
 injection h2 with _ _ _ hk
 subst hk
 have e:PV.frz q s rs (.osl q s 0 rows.length)=.sl s rows:=by rw[AY h3,h4]
 refine⟨rs,h1,e,e,?_⟩
 refine⟨fun j x hji hj=>?_,?_⟩
 ·have hxq:x.1.oid≠some q:=by
   intro hxq
   obtain⟨hl,he⟩:=biG.1 hi
   obtain⟨hl2,he2⟩:=biG.1 hj
   have hmem:x∈L.eraseIdx i:=List.mem_eraseIdx_iff_getElem?.2 ⟨j,hji,hj⟩
   have hnd:=h.ndL
   have hs:L=L.take i++(L[i]::L.drop (i+1)):=by rw[← biQ hl,bjE]
   rw[List.eraseIdx_eq_take_drop_succ] at hmem
   rw[hs,jB] at hnd
   have e3:dC (L[i]::L.drop (i+1))=q::dC (L.drop (i+1)):=by rw[he]; rfl
   rw[e3,bjK] at hnd
   obtain⟨a,b,c⟩:=hnd
   rcases biO.1 hmem with hx | hx
   ·exact c q (jM hx hxq) q (by simp) rfl
   ·exact (List.nodup_cons.1 b).1 (jM hx hxq)
  cases hx:x.1<;>try rfl
  rename_i p z off len
  have:¬ p=q:=fun e=>hxq (by rw[hx,e]; rfl)
  simp only[PV.cX,if_neg this]
 obtain⟨L1,L2,e1,e2⟩:=aqQ (v':=.nils) (s':=s) (rows':=rows) hi
 have hil:i=L1.length∨True:=.inr trivial
 have ers:(L.eraseIdx i).Sublist L:=List.eraseIdx_sublist ..
 have hqn:∀ x∈L.eraseIdx i,x.1.oid≠some q:=by
  intro x hx hxq
  obtain⟨hl,he⟩:=biG.1 hi
  have hnd:=h.ndL
  have hs:L=L.take i++(L[i]::L.drop (i+1)):=by rw[← biQ hl,bjE]
  rw[List.eraseIdx_eq_take_drop_succ] at hx
  rw[hs,jB] at hnd
  have e3:dC (L[i]::L.drop (i+1))=q::dC (L.drop (i+1)):=by
   rw[he]; rfl
  rw[e3,bjK] at hnd
  obtain⟨a,b,c⟩:=hnd
  rcases biO.1 hx with hx | hx
  ·exact c q (jM hx hxq) q (by simp) rfl
  ·exact (List.nodup_cons.1 b).1 (jM hx hxq)
 refine⟨fun b hb=>?_,fun x hx=>?_,?_⟩
 ·obtain⟨b0,hb0,rfl⟩:=biA.1 hb
  have:¬ b0.1=q:=h.ndX (rF hb0) (jM (bjI hi) rfl)
  simp only
  rw[MV,if_neg this,h.box b0 hb0]; rfl
 ·obtain⟨x0,hx0,rfl⟩:=biA.1 hx
  exact aXB (h.lst x0 (ers.subset hx0)) (hqn x0 hx0)
 ·have i1:dS (B.map fun b=>(b.1,b.2.frz q s rs))=dS B:=by unfold dS; rw[List.map_map]; rfl
  have i2:dC ((L.eraseIdx i).map fun x=>(x.1,x.2.1,x.2.2.map fun r=>r.map (PV.cX q s rs)))=dC (L.eraseIdx i):=by unfold dC; rw[List.filterMap_map]; rfl
  rw[i1,i2]
  exact List.Nodup.sublist (biU.append (biU.refl _) (ers.filterMap _)) h.nd
def Flat (rows:List (List PV)):Prop:=∀ q s rs,rows.map (fun r=>r.map (PV.cX q s rs))=rows
theorem Flat.nil:Flat []:=fun _ _ _=>rfl
theorem Flat.of {rows:List (List PV)} (h:∀ r∈rows,∀ c∈r,∀ q s rs,PV.cX q s rs c=c):Flat rows:=fun q s rs=>by
 conv=>rhs; rw[← List.map_id rows]
 refine List.map_congr_left fun r hr=>?_
 conv=>rhs; rw[id,← List.map_id r]
 exact List.map_congr_left fun c hc=>h r hr c hc q s rs
theorem Flat.map {α:Type} {f:α→List PV} (l:List α) (h:∀ x,∀ c∈f x,∀ q s rs,PV.cX q s rs c=c):Flat (l.map f):=Flat.of fun r hr=>by
 obtain⟨x,_,rfl⟩:=biA.1 hr
 exact h x
theorem Flat.append {r1 r2:List (List PV)} (h1:Flat r1) (h2:Flat r2):Flat (r1++r2):=fun q s rs=>by rw[biS,h1,h2]
theorem aP.flat {φ:PV→List (List PV)} (h:aP H B L):aP H B L:=h
def wI (v:PV) (H:PH) (R:PV→PH→Prop):Prop:=∃ F1 H1 H2,gS (PF.nil.set 0 v) H F1 H1∧H2.le H1∧∃ u,F1 0=some u∧R u H2
theorem wI.done {v:PV} {H2:PH} {R:PV→PH→Prop} (hR:R v H2) (hle:H2.le H):wI v H R:=⟨_,_,H2,.refl _ _,hle,v,by rw[kW,if_pos rfl],hR⟩
theorem wI.step {v:PV} {q s:Nat} {rs:List (List PV)} {R:PV→PH→Prop} (hq:H q=some (.rows s rs)) (h:wI (PV.frz q s rs v) (H.frz q s rs) R):wI v H R:=by
 obtain⟨F1,H1,H2,h1,h2,h3⟩:=h
 have e:(PF.nil.set 0 v).frz q s rs=PF.nil.set 0 (PV.frz q s rs v):=by
  funext i
  rw[qB,kW,kW]
  split<;>rfl
 exact⟨F1,H1,H2,.step q hq (by rw[e]; exact h1),h2,h3⟩
theorem BI {res:List dD} {R:PV→PH→Prop} {vs:List PV} {e:kJ} (he:e=.normal∨e=.ret) (h:dD.evs F H res=some vs) (hf:wI (cN vs) H R):aY res R e F H:=by
 have key:∃ vs,dD.evs F H res=some vs∧∃ F1 H1 H2,gS (PF.nil.set 0 (cN vs)) H F1 H1∧H2.le H1∧∃ u,F1 0=some u∧R u H2:=⟨vs,h,hf⟩
 rcases he with rfl | rfl<;>exact key
theorem VN {u:PV} (h:u.oid=none) (q s:Nat) (rs:List (List PV)):PV.cX q s rs u=u:=by
 cases u<;>first | rfl | (simp[PV.oid] at h)
theorem Seen.co {s:Nat} {v:PV} {rows:List (List PV)} (h:Seen s v rows):Co v (.sl s rows):=by
 rcases h with ⟨rfl,rfl⟩ | rfl
 ·exact .nil s
 ·exact .refl _
theorem aP.giveUp:∀ (L:List LI) {H:PH} {B:List BX},aP H B L→(∀ x∈L,Flat x.2.2)→(∀ b∈B,∀ q s rs,bV.frz q s rs b.2=b.2) →
  ∃ (φ:PV→PV) (H1:PH),(∀ x∈L,Seen x.2.1 (φ x.1) x.2.2)∧(∀ u,u.oid=none→φ u=u)∧aP H1 B []∧∀ cs R,wI (.agg (cs.map φ)) H1 R→wI (.agg cs) H R
 | [],H,B,h,_,_=>⟨id,H,by simp,fun _ _=>rfl,h,fun cs R hf=>by rwa [List.map_id] at hf⟩
 | (w,s,rows)::L,H,B,h,hL,hB=>by
  have hflat:∀ q z rs,(L.map fun x=>(x.1,x.2.1,x.2.2.map fun r=>r.map (PV.cX q z rs)))=L:=fun q z rs=>by
   conv=>rhs; rw[← List.map_id L]
   refine List.map_congr_left fun x hx=>?_
   rw[hL x (by simp[hx]) q z rs]; rfl
  rcases h.own 0 rfl with ⟨h1,h2⟩ | ⟨q,rs,h1,_⟩
  ·obtain⟨φ,H1,k1,k2,k3,k4⟩:=aP.giveUp L (h.a7U 0) (fun x hx=>hL x (by simp[hx])) hB
   refine⟨φ,H1,fun x hx=>?_,k2,k3,k4⟩
   rw[bhF] at hx
   rcases hx with rfl | hx
   ·exact .inl ⟨h1,by simp only; rw[h2]; exact k2 _ rfl⟩
   ·exact k1 x hx
  ·subst h1
   obtain⟨rs,z1,z2,z3,z4,z5⟩:=h.frz 0 rfl
   have z6:aP (H.frz q s rs) B L:=by
    have eB:(B.map fun b=>(b.1,b.2.frz q s rs))=B:=by
     conv=>rhs; rw[← List.map_id B]
     refine List.map_congr_left fun b hb=>?_
     rw[hB b hb q s rs]; rfl
    rw[eB] at z5
    have:=z5
    simp only[List.eraseIdx_cons_zero] at this
    rwa [hflat q s rs] at this
   obtain⟨φ,H1,k1,k2,k3,k4⟩:=aP.giveUp L z6 (fun x hx=>hL x (by simp[hx])) hB
   refine⟨fun u=>φ (PV.cX q s rs u),H1,fun x hx=>?_,fun u hu=>?_,k3,fun cs R hf=>?_⟩
   ·rw[bhF] at hx
    rcases hx with rfl | hx
    ·simp only
     rw[z2]
     exact .inr (k2 _ rfl)
    ·obtain⟨j,hj⟩:=List.mem_iff_getElem?.1 hx
     have:=z4 (j+1) x (by omega) (by simpa using hj)
     simp only
     rw[this]
     exact k1 x hx
   ·simp only
    rw[VN hu,k2 u hu]
   ·refine .step z1 ?_
    have e:PV.frz q s rs (.agg cs)=.agg (cs.map (PV.cX q s rs)):=rfl
    rw[e]
    refine k4 _ R ?_
    rw[List.map_map]
    exact hf
theorem IL {K:bZ} {α:Type} {Fs:α→PF} {Hs:α→PH} {Pr:α→Prop} {m:α→Nat} {n q s:Nat} {rs:List (List PV)} (a:α) (hq:H q=some (.rows s rs)) (h0:Pr a) (hm:m a<n) (hF:(Fs a).le (F.frz q s rs)) (hH:(Hs a).le (H.frz q s rs)):eZ Fs Hs Pr m n K .normal F H :=
 ⟨a,_,_,.step q hq (.refl _ _),h0,hm,hF,hH⟩
end
end Go.PM
namespace Go.PM
open Go Go.Na
structure pN (C:Ctx):Prop extends alZ C where
 int:∀ n:Int,dV n→aJ C 47 [.int .i64 n] .nil (aL (.agg (mkT n 1).cells))
 itoa:∀ n:Nat,n<100→aJ C 195 [.int .i64 n] .nil (aL (.str (bO n)))
 next:∀ (l:List Nat) (v:PV),Tp l v→∀ (o n a:Nat),n≤1000000→a≤l.length→aJ C 4 [.ptr o 2 0 0,.int .i64 n] (PH.nil.set o (aS v a)) (UM l v o n a)
section
variable {C:Ctx} {F:PF} {H:PH} {l:List Nat} {v:PV} {o a:Nat}
theorem cD (Lb:pN C) (T:Tp l v) {n:Nat} {args:List aN} {d:Option Nat} {K:PF→PH→Prop} (hn:n≤1000000) (ha:a≤l.length) (hargs:aN.evs F args=some [.ptr o 2 0 0,.int .i64 n]) (ho:H o=some (aS v a))
  (hk:K (F.put d (.int .i64 ((aC l n a).1:Nat))) (H.set o (aS v (aC l n a).2))):gC C 4 args [] d K F H :=
 fW (Lb.next l v T o n a hn ha) ho hargs hk
end
def aYM (l:List Nat) (v:PV) (o a:Nat) (r:PV) (H:PH):Prop:=r=.agg (eM l a).1.cells∧H=PH.nil.set o (aS v (eM l a).2)
theorem rA (l:List Nat) {a:Nat} (h:a≤l.length):(eM l a).2≤l.length:=bC l 8 (bC l 6 h)
theorem aVO {C:Ctx} (Lb:pN C) {l:List Nat} {v:PV} (T:Tp l v) (o a:Nat) (ha:a≤l.length):DU.wp C (aY XM.res (aYM l v o a)) (PF.args [.ptr o 2 0 0]) (PH.nil.set o (aS v a)):=by
 simp -implicitDefEqProofs only[go_sem,δ,DU,arS,XM]
 refine aQ fun p hp=>?_
 have n1:¬ p=o:=(fZ.1 hp).1
 have n1':¬ o=p:=fun h=>n1 h.symm
 have h1:=bM l (show 0<6 by decide) a
 have a1:=bC l 6 ha
 simp -implicitDefEqProofs only[go_sem,reduceCtorEq,arT]
 refine cD Lb T (o:=o) (n:=6) (a:=a) (by decide) ha rfl (by simp -implicitDefEqProofs only[go_sem,n1']) ?_
 have e1:IntKind.i64.wrap (1+((aC l 6 a).1:Int))=((1+(aC l 6 a).1:Nat):Int):=by rw[wrap_i64 (by omega) (by omega)]; omega
 simp -implicitDefEqProofs only[go_sem,γ,reduceCtorEq,e1]
 have h2:=bM l (show 0<8 by decide) (aC l 6 a).2
 refine cD Lb T (o:=o) (n:=8) (a:=(aC l 6 a).2) (by decide) a1 rfl (by simp -implicitDefEqProofs only[go_sem]) ?_
 have e2:IntKind.i64.wrap (1+((aC l 8 (aC l 6 a).2).1:Int))=((1+(aC l 8 (aC l 6 a).2).1:Nat):Int):=by rw[wrap_i64 (by omega) (by omega)]; omega
 simp -implicitDefEqProofs only[go_sem,γ,e2]
 refine aB (Lb.fmk ((1+(aC l 6 a).1:Nat):Int) ((1+(aC l 8 (aC l 6 a).2).1:Nat):Int) (by unfold dV; omega) (by unfold dV; omega)) rfl ?_
 have hd:¬ ((1+(aC l 8 (aC l 6 a).2).1:Nat):Int)=0:=by omega
 unfold sZ
 rw[if_neg hd]
 simp -implicitDefEqProofs only[go_sem,δ,γ]
 refine aQ fun q hq=>?_
 have n2:¬ q=o:=(fZ.1 hq).1
 have n3:¬ q=p:=(fZ.1 (fZ.1 hq).2).1
 have n3':¬ p=q:=fun h=>n3 h.symm
 have n2':¬ o=q:=fun h=>n2 h.symm
 simp -implicitDefEqProofs only[go_sem,δ,γ,arU,n1,n1',n2,n3,n3']
 refine aW (vs:=[.agg (eM l a).1.cells]) (.inr rfl) (PH.nil.set o (aS v (eM l a).2)) ?_ (PH.aA PH.nil_le ?_) ⟨rfl,rfl⟩
 ·simp -implicitDefEqProofs only[go_sem,δ,γ]
  rfl
 ·simp -implicitDefEqProofs only[go_sem,n1',n2']
  rfl
structure alT (C:Ctx):Prop extends pN C where
 frac:∀ (l:List Nat) (v:PV),Tp l v→∀ (o a:Nat),a≤l.length→aJ C 1 [.ptr o 2 0 0] (PH.nil.set o (aS v a)) (aYM l v o a)
abbrev eX (l:List RF):List (List PV):=l.map RF.cells
theorem tK (l:List RF) (x:RF):eX l++[x.cells]=eX (l++[x]):=by simp[eX]
theorem CI (l:List RF):Flat (eX l):=Flat.map l fun x c hc q s rs=>by
 simp only[RF.cells,eW,bhF,bhM,or_false] at hc
 rcases hc with rfl | rfl | rfl<;>rfl
theorem jZ (l:List RF):(eX l).length=l.length:=by simp[eX]
theorem Tp.frz {l:List Nat} {v:PV} (T:Tp l v) (q s:Nat) (rs:List (List PV)):PV.cX q s rs v=v:=by
 rcases T.seen with ⟨_,rfl⟩ | rfl<;>rfl
theorem BG (l:List Nat) {a:Nat} (h:a≤l.length):∀ k,(gY l a k).2≤l.length
 | 0=>h
 | k+1=>rA l (BG l h k)
theorem avS (l:List Nat) (a:Nat):∀ k,(gY l a k).1.length=k
 | 0=>rfl
 | k+1=>by simp only[gY,bgW,bhA,avS l a k]
def a4F (l:List Nat) (v:PV) (o a k:Nat) (r:PV) (H:PH):Prop:=r=frs (gY l a k).1∧H=PH.nil.set o (aS v (gY l a k).2)
def aLB (o:Nat) (m:Nat) (w:PV) (i:Nat):PF:=((((PF.nil.set 0 (.ptr o 2 0 0)).set 1 (.int .i64 m)).set 5 (w)).set 6 (.int .i64 i))
theorem a1N {C:Ctx} (Lb:alT C) {l:List Nat} {v:PV} (T:Tp l v) (o a m:Nat) (hm:m≤1000) (ha:a≤l.length):IW.wp C (aY asR.res (a4F l v o a (max m 1))) (PF.args [.ptr o 2 0 0,.int .i64 m]) (PH.nil.set o (aS v a)):=by
 have hmx:∀ i:Nat,((i:Int)<(if (m:Int)<1 then 1 else (m:Int)))↔i<max m 1:=by
  intro i
  split<;>omega
 simp -implicitDefEqProofs only[go_sem,IW,aEP,aEQ,aER,asR]
 have h0:aP (PH.nil.set o (aS v a)) [(o,aS v a)] [(.nils,3,eX [])]:=(aP.nil.new (H:=PH.nil) rfl (aS v a)).qL 3
 refine wp_loop (α:=Nat × PV × PH) (fun t=>aLB o m t.2.1 t.1) (fun t=>t.2.2) (fun t=>t.1≤max m 1∧aP t.2.2 [(o,aS v (gY l a t.1).2)] [(t.2.1,3,eX (gY l a t.1).1)]) (fun t=>max m 1-t.1) (0,.nils,PH.nil.set o (aS v a)) ⟨bhE _,h0⟩ ?_ PH.le_refl ?_
 ·unfold aLB
  (repeat' (first|exact PF.nil_le|refine PF.aA ?_ ?_))<;>first|(simp -implicitDefEqProofs only[go_sem,γ,reduceCtorEq]<;>rfl)|rfl
 rintro⟨k,w,H0⟩ ⟨hk,hH⟩
 simp only at hk hH ⊢
 simp -implicitDefEqProofs only[go_sem,γ,reduceCtorEq,aEO,aES,aLB]
 have hle:=BG l ha k
 have hlen:=avS l a k
 by_cases hlt:k<max m 1
 ·have hc:=(hmx k).2 hlt
  simp -implicitDefEqProofs only[go_sem,γ,reduceCtorEq,hc,aET]
  refine fW (Lb.frac l v T o _ hle) (hH.at 0 rfl) rfl ?_
  have hH2:=hH.set 0 rfl (aS v (eM l (gY l a k).2).2)
  have h13:(1:Nat)*3≤16777216:=by decide
  simp -implicitDefEqProofs only[go_sem,υ,δ,γ,η,ζ,reduceCtorEq,h13]
  refine hH2.append 0 (src:=[(eM l (gY l a k).2).1.cells]) rfl rfl (by unfold roomFor; rw[jZ,hlen]; simp only[bhA,maxLen]; omega) fun w' H' h' _=>?_
  rw[tK] at h'
  simp -implicitDefEqProofs only[go_sem,γ,reduceCtorEq,aEU,aK (show k<9223372036854775807 by omega)]
  refine aI (k+1,w',H') ⟨hlt,h'⟩ (by simp only; omega) ?_ PH.le_refl
  (repeat' (first|exact PF.nil_le|refine PF.aA ?_ ?_))<;>first|(simp -implicitDefEqProofs only[go_sem,γ,reduceCtorEq]<;>rfl)|rfl
 ·have hc:¬ ((k:Int)<(if (m:Int)<1 then 1 else (m:Int))):=fun h=>hlt ((hmx k).1 h)
  have e:k=max m 1:=by omega
  subst e
  simp -implicitDefEqProofs only[go_sem,γ,reduceCtorEq,hc,aEV]
  have hne:eX (gY l a (max m 1)).1≠[]:=fun h=>by
   have:=congrArg List.length h
   rw[jZ,hlen] at this
   simp at this
  rcases hH.own 0 rfl with ⟨h1,_⟩ | ⟨q,rs,rfl,_⟩
  ·exact absurd h1 hne
  obtain⟨rs,g1,g2,g3,-,g4⟩:=hH.frz 0 rfl
  refine BI (vs:=[.osl q 3 0 (eX (gY l a (max m 1)).1).length]) (.inr rfl) rfl (.step g1 (.done (H2:=PH.nil.set o (aS v (gY l a (max m 1)).2)) ?_ (PH.aA PH.nil_le ?_)))
  ·rw[cN,g3]
   exact⟨rfl,rfl⟩
  ·have:=g4.at 0 rfl
   rw[this]
   simp only[bV.frz,biC,biV,T.frz]
   rfl
theorem aVV {C:Ctx} (Lb:pN C) (s:List UInt8) (n:Nat) (hs:s.length≤100) (hn:n<100):EB.wp C (aY XV.res (aL (.str (s++bO n)))) (PF.args [.str s,.int .i64 n]) .nil:=by
 have hl:(bO n).length≤2:=by
  unfold bO
  rw[Lib.decDigits]
  split
  ·simp
  ·rw[Lib.decDigits,dif_pos (by omega)]; simp
 have hsum:¬ (((s.length+(bO n).length:Nat):Int)>9223372036854775807):=by omega
 simp -implicitDefEqProofs only[go_sem,γ,reduceCtorEq,EB,asM,asN,XV]
 refine aB (Lb.itoa n hn) rfl ?_
 simp -implicitDefEqProofs only[go_sem,γ,aIM,hsum]
 refine cC (.inr rfl) rfl ?_
 rfl
end Go.PM
namespace Go.PM
open Go Go.Na
structure pO (C:Ctx):Prop extends alT C where
 rep:∀ (l:List Nat) (v:PV),Tp l v→∀ (o a m:Nat),m≤1000→a≤l.length→aJ C 5 [.ptr o 2 0 0,.int .i64 m] (PH.nil.set o (aS v a)) (a4F l v o a (max m 1))
 name:∀ (s:List UInt8) (n:Nat),s.length≤100→n<100→aJ C 29 [.str s,.int .i64 n] .nil (aL (.str (s++bO n)))
theorem aTM (l:List Nat) (i j:Nat) {a:Nat} (h:a≤l.length):(gE l i j a).2≤l.length:=by
 unfold gE
 split
 ·exact rA l h
 ·split
  ·exact h
  ·simp only
   split
   ·exact rA l (bC l 3 h)
   ·exact bC l 3 h
theorem acZ (l:List Nat) (i:Nat) {a:Nat} (h:a≤l.length):∀ j,(cS l i a j).2≤l.length
 | 0=>h
 | j+1=>aTM l i j (acZ l i h j)
theorem TS (l:List Nat) (i a:Nat):∀ j,(cS l i a j).1.length=j
 | 0=>rfl
 | j+1=>by simp only[cS,bgW,bhA,TS l i a j]
theorem SF (l:List Nat) (n i:Nat) (s:xO) (h:s.a≤l.length):(cR l n i s).2≤l.length∧(cR l n i s).1≤s.left:=by
 unfold cR
 split
 ·exact⟨bC l _ h,by have:=bM l (show 0<s.left+1 by omega) s.a; omega⟩
 ·exact⟨h,bgX _⟩
theorem amZ (l:List Nat) (n i:Nat) {a:Nat} (h:a≤l.length):(dZ l n i a).2≤l.length:=by
 unfold dZ
 simp only
 split
 ·exact bC l 3 (rA l h)
 ·exact rA l h
theorem abU (l:List Nat) (n:Nat) {a:Nat} (h:a≤l.length):∀ i,(eS l n a i).a≤l.length∧(eS l n a i).left≤8∧(eS l n a i).start.length=i∧(eS l n a i).exit.length=i∧(eS l n a i).rates.length=i
 | 0=>⟨h,bgX _,rfl,rfl,rfl⟩
 | i+1=>by
  obtain⟨h1,h2,h3,h4,h5⟩:=abU l n h i
  have hl:=SF l n i (eS l n a i) h1
  refine⟨?_,?_,?_,?_,?_⟩
  ·exact acZ l i (amZ l n i hl.1) n
  ·simp only[eS]; omega
  ·simp only[eS,bgW,bhA,h3]
  ·simp only[eS,bgW,bhA,h4]
  ·simp only[eS,bgW,bhA,h5]
abbrev rK (l:List (List RF)):List (List PV):=l.map fun r=>[frs r]
theorem agX (l:List (List RF)):Flat (rK l):=Flat.map l fun x c hc q s rs=>by
 simp only[bhF,bhM,or_false] at hc
 subst hc; rfl
abbrev SE (w1 w2 w3:PV):bV:=.rows 4 [[.str [],w1,w2,w3]]
abbrev aqV:bV:=.rows 4 [[.str [],.nils,.nils,.nils]]
def eO (o o4 o6 n left i:Nat) (w:PV) (j:Nat):PF:=((((((((PF.nil.set 0 (.ptr o 2 0 0)).set 4 (.ptr o4 4 0 0)).set 5 (.int .i64 n)).set 6 (.ptr o6 4 0 0)).set 7 (.int .i64 left)).set 8 (.int .i64 i)).set 13 (w)).set 14 (.int .i64 j))
def cI (o o4 o6 n left i:Nat):PF:=((((((PF.nil.set 0 (.ptr o 2 0 0)).set 4 (.ptr o4 4 0 0)).set 5 (.int .i64 n)).set 6 (.ptr o6 4 0 0)).set 7 (.int .i64 left)).set 8 (.int .i64 i))
theorem SJ {l:List RF} (h:l.length≤1000):roomFor (eX l).length 1 56:=by
 unfold roomFor
 rw[jZ]
 simp only[maxLen]; omega
theorem aVR {C:Ctx} (Lb:pO C) {l:List Nat} {v:PV} (T:Tp l v) (o o4 o6 n left i a:Nat) (ha:a≤l.length) (hn:n≤100) (hi:i<n) (B:List BX) (L:List LI) (K:bZ) (F:PF) (H:PH)
  (hF:(eO o o4 o6 n left i .nils 0).le F) (hH:aP H ((o,aS v a)::B) L)
  (hK:∀ w F' H',(eO o o4 o6 n left i w n).le F'→aP H' ((o,aS v (cS l i a n).2)::B) (L++[(w,3,eX (cS l i a n).1)])→K (.exit 2) F' H') :
  aD.wp C (.loop DW) K F H:=by
 refine wp_loop (α:=Nat × PV × PH) (fun t=>eO o o4 o6 n left i t.2.1 t.1) (fun t=>t.2.2) (fun t=>t.1≤n∧aP t.2.2 ((o,aS v (cS l i a t.1).2)::B) (L++[(t.2.1,3,eX (cS l i a t.1).1)])) (fun t=>n-t.1) (0,.nils,H) ⟨bhE _,hH.qL 3⟩ hF PH.le_refl ?_
 rintro⟨j,w,H0⟩ ⟨hj,hH⟩
 simp only at hj hH ⊢
 have hle:=acZ l i ha j
 have hlen:=TS l i a j
 have e1:IntKind.i64.wrap ((i:Int)+1)=((i+1:Nat):Int):=aK (by omega)
 simp -implicitDefEqProofs only[go_sem,γ,reduceCtorEq,DW,asH,eO]
 by_cases hlt:j<n
 ·have hlt':(j:Int)<(n:Nat):=by omega
  simp -implicitDefEqProofs only[go_sem,hlt',asI]
  refine aB (Lb.int 0 (by unfold dV; omega)) rfl ?_
  simp -implicitDefEqProofs only[go_sem,δ]
  refine aQ fun p hp=>?_
  have hH1:=hH.new hp (.rows 3 [hJ.cells])
  simp -implicitDefEqProofs only[go_sem,δ,γ,reduceCtorEq,asJ,e1]
  have fin:∀ (F':PF) (H':PH),(eO o o4 o6 n left i w j).le F'→F' 15=some (.ptr p 3 0 0)→aP H' ((o,aS v (gE l i j (cS l i a j).2).2)::B++[(p,.rows 3 [(gE l i j (cS l i a j).2).1.cells])]) (L++[(w,3,eX (cS l i a j).1)]) →
    aD.wp C (.region SS) (dY 3 (iZ C (aD.wp C (.region ST)) (eZ (fun (t:Nat × PV × PH)=>eO o o4 o6 n left i t.2.1 t.1) (fun t=>t.2.2) (fun t=>t.1≤n∧aP t.2.2 ((o,aS v (cS l i a t.1).2)::B) (L++[(t.2.1,3,eX (cS l i a t.1).1)])) (fun t=>n-t.1) (n-j) K))) F' H':=by
   intro F' H' hF' f15 hH'
   have f0:F' 0=some (.ptr o 2 0 0):=hF' 0 _ (by unfold eO; simp -implicitDefEqProofs only[go_sem,reduceCtorEq])
   have f4:F' 4=some (.ptr o4 4 0 0):=hF' 4 _ (by unfold eO; simp -implicitDefEqProofs only[go_sem,γ,reduceCtorEq])
   have f5:F' 5=some (.int .i64 n):=hF' 5 _ (by unfold eO; simp -implicitDefEqProofs only[go_sem,γ,reduceCtorEq])
   have f6:F' 6=some (.ptr o6 4 0 0):=hF' 6 _ (by unfold eO; simp -implicitDefEqProofs only[go_sem,γ,reduceCtorEq])
   have f7:F' 7=some (.int .i64 left):=hF' 7 _ (by unfold eO; simp -implicitDefEqProofs only[go_sem,γ,reduceCtorEq])
   have f8:F' 8=some (.int .i64 i):=hF' 8 _ (by unfold eO; simp -implicitDefEqProofs only[go_sem,γ,reduceCtorEq])
   have f13:F' 13=some w:=hF' 13 _ (by unfold eO; simp -implicitDefEqProofs only[go_sem,γ,reduceCtorEq])
   have f14:F' 14=some (.int .i64 j):=hF' 14 _ (by unfold eO; simp -implicitDefEqProofs only[go_sem,γ,reduceCtorEq])
   have hbp:H' p=some (.rows 3 [(gE l i j (cS l i a j).2).1.cells]):=hH'.box (p,.rows 3 [(gE l i j (cS l i a j).2).1.cells]) (by simp)
   have h13:(1:Nat)*3≤16777216:=by decide
   simp -implicitDefEqProofs only[go_sem,υ,δ,γ,η,ζ,SS,f13,f15,hbp,h13]
   refine hH'.append (v:=w) (s:=3) (rows:=eX (cS l i a j).1) L.length (src:=[(gE l i j (cS l i a j).2).1.cells]) (by simp) rfl (SJ (by omega)) fun w' H2 h2 _=>?_
   rw[tK,bjR _ _ (bgX _),Nat.sub_self] at h2
   simp -implicitDefEqProofs only[go_sem,γ,ST,f14,aK (show j<9223372036854775807 by omega)]
   refine aI (α:=Nat × PV × PH) (j+1,w',H2) ⟨hlt,h2.sub (List.sublist_append_left ..) (biU.refl _)⟩ (by simp only; omega) ?_ PH.le_refl
   unfold eO
   repeat' first|exact PF.nil_le|refine PF.aA ?_ ?_|rfl|assumption
  simp only[aD.wp,go_sem] at fin
  have hstore:∀ x:RF,PH.set (PH.set H0 p (.rows 3 [hJ.cells])) p (.rows 3 [x.cells])=PH.set H0 p (.rows 3 [x.cells]):=fun x=>PH.set_set p _ _
  have draw:∀ (F':PF) (H1:PH) (a1:Nat),a1≤l.length→(eO o o4 o6 n left i w j).le F'→F' 15=some (.ptr p 3 0 0)→aP H1 ((o,aS v a1)::B++[(p,.rows 3 [hJ.cells])]) (L++[(w,3,eX (cS l i a j).1)])→gE l i j (cS l i a j).2=eM l a1→∀ K',(∀ F2 H2,(eO o o4 o6 n left i w j).le F2→F2 15=some (.ptr p 3 0 0)→aP H2 ((o,aS v (gE l i j (cS l i a j).2).2)::B++[(p,.rows 3 [(gE l i j (cS l i a j).2).1.cells])]) (L++[(w,3,eX (cS l i a j).1)])→K' F2 H2) →
    wpOps C SR K' F' H1:=by
   intro F' H1 a1 ha1 hF' f15 hH1 he K' hK'
   have f0:F' 0=some (.ptr o 2 0 0):=hF' 0 _ (by unfold eO; simp -implicitDefEqProofs only[go_sem,reduceCtorEq])
   simp -implicitDefEqProofs only[go_sem,SR,f0]
   refine fW (Lb.frac l v T o a1 ha1) (hH1.at 0 rfl) rfl ?_
   have hH2:aP (H1.set o (aS v (eM l a1).2)) ((o,aS v (eM l a1).2)::B++[(p,.rows 3 [hJ.cells])]) (L++[(w,3,eX (cS l i a j).1)]):=hH1.set 0 rfl _
   have hp2:=hH2.GZ
   simp -implicitDefEqProofs only[go_sem,δ,γ,f15,hp2]
   refine hK' _ _ ?_ (by simp -implicitDefEqProofs only[go_sem,γ,f15]) ?_
   ·have g:=fun (q:Nat) u h=>hF' q u h
    unfold eO at g ⊢
    refine PF.aA (PF.aA (PF.aA (PF.aA (PF.aA (PF.aA (PF.aA (PF.aA PF.nil_le ?_) ?_) ?_) ?_) ?_) ?_) ?_) ?_
    ·simp -implicitDefEqProofs only[go_sem,reduceCtorEq,f0]
    ·simp -implicitDefEqProofs only[go_sem,ξ,ρ,σ,μ,κ,ι,ο,ν,υ,δ,τ,γ,η,θ,ζ,ε,reduceCtorEq,reduceIte,g 4 _ rfl]
    ·simp -implicitDefEqProofs only[go_sem,ξ,ρ,σ,μ,κ,ι,ο,ν,υ,δ,τ,γ,η,θ,ζ,ε,reduceCtorEq,reduceIte,g 5 _ rfl]
    ·simp -implicitDefEqProofs only[go_sem,ξ,ρ,σ,μ,κ,ι,ο,ν,υ,δ,τ,γ,η,θ,ζ,ε,reduceCtorEq,reduceIte,g 6 _ rfl]
    ·simp -implicitDefEqProofs only[go_sem,ξ,ρ,σ,μ,κ,ι,ο,ν,υ,δ,τ,γ,η,θ,ζ,ε,reduceCtorEq,reduceIte,g 7 _ rfl]
    ·simp -implicitDefEqProofs only[go_sem,ξ,ρ,σ,μ,κ,ι,ο,ν,υ,δ,τ,γ,η,θ,ζ,ε,reduceCtorEq,reduceIte,g 8 _ rfl]
    ·simp -implicitDefEqProofs only[go_sem,ξ,ρ,σ,μ,κ,ι,ο,ν,υ,δ,τ,γ,η,θ,ζ,ε,reduceCtorEq,reduceIte,g 13 _ rfl]
    ·simp -implicitDefEqProofs only[go_sem,ξ,ρ,σ,μ,κ,ι,ο,ν,υ,δ,τ,γ,η,θ,ζ,ε,reduceCtorEq,reduceIte,g 14 _ rfl]
   ·rw[he]
    exact hH2.adA (.rows 3 [(eM l a1).1.cells])
  by_cases c1:j=i+1
  ·have he:gE l i j (cS l i a j).2=eM l (cS l i a j).2:=by unfold gE; rw[if_pos c1]
   simp -implicitDefEqProofs only[go_sem,γ,reduceCtorEq,bS (show (j:Int)=((i+1:Nat):Int) by omega)]
   refine draw _ _ _ hle (by unfold eO; (repeat' (first|exact PF.nil_le|refine PF.aA ?_ ?_))<;>first|(simp -implicitDefEqProofs only[go_sem,γ,reduceCtorEq]<;>rfl)|rfl) rfl hH1 he _ ?_
   intro F2 H2 k1 k2 k3
   exact fin F2 H2 k1 k2 k3
  ·simp -implicitDefEqProofs only[go_sem,γ,reduceCtorEq,bF (show ¬ (j:Int)=((i+1:Nat):Int) by omega)]
   by_cases c2:j=i
   ·have he:gE l i j (cS l i a j).2=(hJ,(cS l i a j).2):=by unfold gE; rw[if_neg c1,if_pos c2]
    simp -implicitDefEqProofs only[go_sem,γ,reduceCtorEq,cP (show (j:Int)=(i:Int) by omega)]
    exact fin _ _ (by unfold eO; (repeat' (first|exact PF.nil_le|refine PF.aA ?_ ?_))<;>first|(simp -implicitDefEqProofs only[go_sem,γ,reduceCtorEq]<;>rfl)|rfl) rfl (by rw[he]; exact hH1)
   ·simp -implicitDefEqProofs only[go_sem,γ,reduceCtorEq,eC (show ¬ (j:Int)=(i:Int) by omega)]
    refine cD Lb.topN T (o:=o) (n:=3) (a:=(cS l i a j).2) (by decide) hle rfl (hH1.at 0 rfl) ?_
    have hH2:aP _ ((o,aS v (aC l 3 (cS l i a j).2).2)::B++[(p,.rows 3 [hJ.cells])]) (L++[(w,3,eX (cS l i a j).1)]):=hH1.set 0 rfl _
    by_cases c3:(aC l 3 (cS l i a j).2).1=0
    ·have he:gE l i j (cS l i a j).2=eM l (aC l 3 (cS l i a j).2).2:=by unfold gE; rw[if_neg c1,if_neg c2]; simp only[c3,if_true]
     simp -implicitDefEqProofs only[go_sem,γ,reduceCtorEq,bS (show (((aC l 3 (cS l i a j).2).1:Nat):Int)=0 by omega)]
     refine draw _ _ _ (bC l 3 hle) (by unfold eO; (repeat' (first|exact PF.nil_le|refine PF.aA ?_ ?_))<;>first|(simp -implicitDefEqProofs only[go_sem,γ,reduceCtorEq]<;>rfl)|rfl) rfl hH2 he _ ?_
     intro F2 H2 k1 k2 k3
     exact fin F2 H2 k1 k2 k3
    ·have he:gE l i j (cS l i a j).2=(hJ,(aC l 3 (cS l i a j).2).2):=by unfold gE; rw[if_neg c1,if_neg c2]; simp only[c3,if_false]
     simp -implicitDefEqProofs only[go_sem,γ,reduceCtorEq,bF (show ¬ (((aC l 3 (cS l i a j).2).1:Nat):Int)=0 by omega)]
     exact fin _ _ (by unfold eO; (repeat' (first|exact PF.nil_le|refine PF.aA ?_ ?_))<;>first|(simp -implicitDefEqProofs only[go_sem,γ,reduceCtorEq]<;>rfl)|rfl) rfl (by rw[he]; exact hH2)
 ·have hlt':¬ (j:Int)<(n:Nat):=by omega
  have:j=n:=by omega
  subst this
  simp -implicitDefEqProofs only[go_sem,hlt']
  exact hK w _ _ (by unfold eO; (repeat' (first|exact PF.nil_le|refine PF.aA ?_ ?_))<;>first|(simp -implicitDefEqProofs only[go_sem,γ,reduceCtorEq]<;>rfl)|rfl) hH
end Go.PM
namespace Go.PM
open Go Go.Na
abbrev oH (o o4 o6:Nat) (v w1 w2 w3:PV) (a:Nat):List BX:=[(o,aS v a),(o4,aqV),(o6,SE w1 w2 w3)]
abbrev rP (s:xO) (w1 w2 w3:PV):List LI:=[(w1,3,eX s.start),(w2,1,rK s.rates),(w3,3,eX s.exit)]
theorem aPQ {C:Ctx} (Lb:pO C) {l:List Nat} {v:PV} (T:Tp l v) (o o4 o6 n i:Nat) (s:xO) (hs:s.a≤l.length) (hl:s.left≤8) (hn:n≤100) (hi:i<n) (B:List BX) (L:List LI) (rest:aD) (K:bZ) (F:PF) (H:PH)
  (hF:(cI o o4 o6 n s.left i).le F) (hH:aP H ((o,aS v s.a)::B) L)
  (hK:∀ F' H',(cI o o4 o6 n (s.left-(cR l n i s).1) i).le F'→F' 9=some (.int .i64 ((cR l n i s).1:Nat))→aP H' ((o,aS v (cR l n i s).2)::B) L→aD.wp C rest K F' H') :
  aD.wp C (.seq (.region abY) (.seq (.seq (.region abZ) (.cond (.tmp 29) (.region acA) .skip)) (.seq (.region NC) rest))) K F H:=by
 have f0:F 0=some (.ptr o 2 0 0):=hF 0 _ (by unfold cI; simp -implicitDefEqProofs only[go_sem,reduceCtorEq])
 have f4:F 4=some (.ptr o4 4 0 0):=hF 4 _ (by unfold cI; simp -implicitDefEqProofs only[go_sem,γ,reduceCtorEq])
 have f5:F 5=some (.int .i64 n):=hF 5 _ (by unfold cI; simp -implicitDefEqProofs only[go_sem,γ,reduceCtorEq])
 have f6:F 6=some (.ptr o6 4 0 0):=hF 6 _ (by unfold cI; simp -implicitDefEqProofs only[go_sem,γ,reduceCtorEq])
 have f7:F 7=some (.int .i64 s.left):=hF 7 _ (by unfold cI; simp -implicitDefEqProofs only[go_sem,γ,reduceCtorEq])
 have f8:F 8=some (.int .i64 i):=hF 8 _ (by unfold cI; simp -implicitDefEqProofs only[go_sem,γ,reduceCtorEq])
 have e1:IntKind.i64.wrap ((i:Int)+1)=((i+1:Nat):Int):=aK (by omega)
 have hk:=(SF l n i s hs).2
 have e9:IntKind.i64.wrap ((s.left:Int)-((cR l n i s).1:Int))=((s.left-(cR l n i s).1:Nat):Int):=by rw[wrap_i64 (by omega) (by omega)]; omega
 simp -implicitDefEqProofs only[go_sem,γ,abY,f7,abZ,f8,f5,e1]
 by_cases c:i+1<n
 ·have c':((i+1:Nat):Int)<(n:Nat):=by omega
  have he:cR l n i s=aC l (s.left+1) s.a:=by unfold cR; rw[if_pos c]
  have el:IntKind.i64.wrap ((s.left:Int)+1)=((s.left+1:Nat):Int):=aK (by omega)
  rw[he] at hK e9
  simp -implicitDefEqProofs only[go_sem,γ,reduceCtorEq,c',acA,f0,f7,el]
  refine cD Lb.topN T (o:=o) (n:=s.left+1) (a:=s.a) (by omega) hs rfl hH.a4K ?_
  have hH2:=hH.a2I (aS v (aC l (s.left+1) s.a).2)
  simp -implicitDefEqProofs only[go_sem,γ,NC,f7,e9]
  refine hK _ _ ?_ rfl hH2
  unfold cI
  repeat' first|exact PF.nil_le|refine PF.aA ?_ ?_|rfl|assumption
 ·have c':¬ ((i+1:Nat):Int)<(n:Nat):=by omega
  have he:cR l n i s=(s.left,s.a):=by unfold cR; rw[if_neg c]
  rw[he] at hK e9
  simp only at hK e9
  simp -implicitDefEqProofs only[go_sem,γ,c',NC,f7,e9]
  refine hK _ _ ?_ rfl hH
  unfold cI
  repeat' first|exact PF.nil_le|refine PF.aA ?_ ?_|rfl|assumption
theorem aKY {C:Ctx} (Lb:pO C) {l:List Nat} {v:PV} (o o4 o6 n i left k a:Nat) (hk:k≤8) (hi:i<n) (hn:n≤100) (s:xO) (hs:s.start.length=i) (w1 w2 w3:PV) (B:List BX) (rest:aD) (K:bZ) (F:PF) (H:PH)
  (hF:(cI o o4 o6 n left i).le F) (f9:F 9=some (.int .i64 k)) (hH:aP H (oH o o4 o6 v w1 w2 w3 a++B) (rP s w1 w2 w3))
  (hK:∀ w1' F' H' B',(cI o o4 o6 n left i).le F'→aP H' (oH o o4 o6 v w1' w2 w3 a++B') (rP { s with start:=s.start++[mkT (k:Nat) 8] } w1' w2 w3)→aD.wp C rest K F' H') :
  aD.wp C (.seq (.region SK) (.seq (.region SL) rest)) K F H:=by
 have f0:F 0=some (.ptr o 2 0 0):=hF 0 _ (by unfold cI; simp -implicitDefEqProofs only[go_sem,reduceCtorEq])
 have f4:F 4=some (.ptr o4 4 0 0):=hF 4 _ (by unfold cI; simp -implicitDefEqProofs only[go_sem,γ,reduceCtorEq])
 have f5:F 5=some (.int .i64 n):=hF 5 _ (by unfold cI; simp -implicitDefEqProofs only[go_sem,γ,reduceCtorEq])
 have f6:F 6=some (.ptr o6 4 0 0):=hF 6 _ (by unfold cI; simp -implicitDefEqProofs only[go_sem,γ,reduceCtorEq])
 have f7:F 7=some (.int .i64 left):=hF 7 _ (by unfold cI; simp -implicitDefEqProofs only[go_sem,γ,reduceCtorEq])
 have f8:F 8=some (.int .i64 i):=hF 8 _ (by unfold cI; simp -implicitDefEqProofs only[go_sem,γ,reduceCtorEq])
 simp -implicitDefEqProofs only[go_sem,SK,f9]
 refine aB (Lb.fmk (k:Int) 8 (by unfold dV; omega) (by unfold dV; omega)) rfl ?_
 unfold sZ
 rw[if_neg (by decide)]
 simp -implicitDefEqProofs only[go_sem,δ,γ]
 refine aQ fun p hp=>?_
 have hH1:=hH.new hp (.rows 3 [(mkT (k:Nat) 8).cells])
 have g6:=hH1.at 2 rfl
 have gp:=hH1.GZ
 have h13:(1:Nat)*3≤16777216:=by decide
 have hst:∀ y,PH.set (PH.set H p (.rows 3 [[PV.bool false,PV.nils,PV.nils]])) p y=PH.set H p y:=fun y=>PH.set_set p _ _
 simp -implicitDefEqProofs only[go_sem,υ,δ,γ,η,θ,ζ,SL,f6,g6,gp,h13]
 refine hH1.append 0 (src:=[(mkT (k:Nat) 8).cells]) rfl rfl (SJ (by omega)) fun w1' H2 h2 hw=>?_
 rw[tK] at h2 hw; rw[jZ] at hw
 obtain⟨q,rfl⟩:=hw (by simp)
 have g6':=h2.at 2 rfl
 simp -implicitDefEqProofs only[go_sem,δ,θ,g6',bhF,bhM,or_false,forall_eq]
 have h3:=h2.set 2 rfl (SE (.osl q 3 0 (s.start++[mkT (k:Nat) 8]).length) w2 w3)
 refine hK _ _ _ (B++[(p,.rows 3 [(mkT (k:Nat) 8).cells])]) ?_ h3
 unfold cI
 repeat' first|exact PF.nil_le|refine PF.aA ?_ ?_|rfl|assumption
theorem aPP {C:Ctx} (Lb:pO C) {l:List Nat} {v:PV} (T:Tp l v) (o o4 o6 n i left a:Nat) (ha:a≤l.length) (hi:i<n) (hn:n≤100) (s:xO) (hs:s.exit.length=i) (w1 w2 w3:PV) (B:List BX) (rest:aD) (K:bZ) (F:PF) (H:PH)
  (hF:(cI o o4 o6 n left i).le F) (hH:aP H (oH o o4 o6 v w1 w2 w3 a++B) (rP s w1 w2 w3))
  (hK:∀ w3' F' H' B',(cI o o4 o6 n left i).le F'→aP H' (oH o o4 o6 v w1 w2 w3' (dZ l n i a).2++B') (rP { s with exit:=s.exit++[(dZ l n i a).1] } w1 w2 w3')→aD.wp C rest K F' H') :
  aD.wp C (.seq (.region SM) (.seq (.seq (.region SN) (.cond (.tmp 58) (.region SO) .skip)) (.seq (.region DX) rest))) K F H:=by
 have f0:F 0=some (.ptr o 2 0 0):=hF 0 _ (by unfold cI; simp -implicitDefEqProofs only[go_sem,reduceCtorEq])
 have f4:F 4=some (.ptr o4 4 0 0):=hF 4 _ (by unfold cI; simp -implicitDefEqProofs only[go_sem,γ,reduceCtorEq])
 have f5:F 5=some (.int .i64 n):=hF 5 _ (by unfold cI; simp -implicitDefEqProofs only[go_sem,γ,reduceCtorEq])
 have f6:F 6=some (.ptr o6 4 0 0):=hF 6 _ (by unfold cI; simp -implicitDefEqProofs only[go_sem,γ,reduceCtorEq])
 have f7:F 7=some (.int .i64 left):=hF 7 _ (by unfold cI; simp -implicitDefEqProofs only[go_sem,γ,reduceCtorEq])
 have f8:F 8=some (.int .i64 i):=hF 8 _ (by unfold cI; simp -implicitDefEqProofs only[go_sem,γ,reduceCtorEq])
 have e1:IntKind.i64.wrap ((i:Int)+1)=((i+1:Nat):Int):=aK (by omega)
 simp -implicitDefEqProofs only[go_sem,SM,f0]
 refine fW (Lb.frac l v T o a ha) (hH.at 0 rfl) rfl ?_
 have hH1:=hH.set 0 rfl (aS v (eM l a).2)
 simp -implicitDefEqProofs only[go_sem,δ]
 refine aQ fun p hp=>?_
 have hH2:=hH1.new hp (.rows 3 [(eM l a).1.cells])
 simp -implicitDefEqProofs only[go_sem,δ,γ,SN,f8,f5,e1]
 have fin:∀ (F':PF) (H':PH),(cI o o4 o6 n left i).le F'→F' 12=some (.ptr p 3 0 0)→aP H' (oH o o4 o6 v w1 w2 w3 (dZ l n i a).2++B++[(p,.rows 3 [(dZ l n i a).1.cells])]) (rP s w1 w2 w3)→wpOps C DX (aD.wp C rest K) F' H':=by
  intro F' H' hF' f12 hH'
  have q0:F' 0=some (.ptr o 2 0 0):=hF' 0 _ (by unfold cI; simp -implicitDefEqProofs only[go_sem,reduceCtorEq])
  have q4:F' 4=some (.ptr o4 4 0 0):=hF' 4 _ (by unfold cI; simp -implicitDefEqProofs only[go_sem,γ,reduceCtorEq])
  have q5:F' 5=some (.int .i64 n):=hF' 5 _ (by unfold cI; simp -implicitDefEqProofs only[go_sem,γ,reduceCtorEq])
  have q6:F' 6=some (.ptr o6 4 0 0):=hF' 6 _ (by unfold cI; simp -implicitDefEqProofs only[go_sem,γ,reduceCtorEq])
  have q7:F' 7=some (.int .i64 left):=hF' 7 _ (by unfold cI; simp -implicitDefEqProofs only[go_sem,γ,reduceCtorEq])
  have q8:F' 8=some (.int .i64 i):=hF' 8 _ (by unfold cI; simp -implicitDefEqProofs only[go_sem,γ,reduceCtorEq])
  have g6:=hH'.at 2 rfl
  have gp:=hH'.GZ
  have h13:(1:Nat)*3≤16777216:=by decide
  simp -implicitDefEqProofs only[go_sem,υ,δ,γ,η,ζ,DX,q6,g6,f12,gp,h13]
  refine hH'.append 2 (src:=[(dZ l n i a).1.cells]) rfl rfl (SJ (by omega)) fun w3' H2 h2 hw=>?_
  rw[tK] at h2 hw; rw[jZ] at hw
  obtain⟨q,rfl⟩:=hw (by simp)
  have g6':=h2.at 2 rfl
  simp -implicitDefEqProofs only[go_sem,δ,g6',bhF,bhM,or_false,forall_eq]
  have h3:=h2.set 2 rfl (SE w1 w2 (.osl q 3 0 (s.exit++[(dZ l n i a).1]).length))
  refine hK _ _ _ (B++[(p,.rows 3 [(dZ l n i a).1.cells])]) ?_ h3
  unfold cI
  repeat' first|exact PF.nil_le|refine PF.aA ?_ ?_|rfl|assumption
 by_cases c:i+1<n
 ·have c':((i+1:Nat):Int)<(n:Nat):=by omega
  have hle:=rA l ha
  simp -implicitDefEqProofs only[go_sem,γ,reduceCtorEq,c',f0]
  refine cD Lb.topN T (o:=o) (n:=3) (a:=(eM l a).2) (by decide) hle rfl (hH2.at 0 rfl) ?_
  have hH3:=hH2.set 0 rfl (aS v (aC l 3 (eM l a).2).2)
  by_cases c3:(aC l 3 (eM l a).2).1=0
  ·have he:dZ l n i a=(hJ,(aC l 3 (eM l a).2).2):=by unfold dZ; simp only[if_pos c,c3,if_true]
   have gp:=aP.GZ (B:=oH o o4 o6 v w1 w2 w3 (aC l 3 (eM l a).2).2++B) hH3
   simp -implicitDefEqProofs only[go_sem,γ,bS (show (((aC l 3 (eM l a).2).1:Nat):Int)=0 by omega),SO]
   refine aB (Lb.int 0 (by unfold dV; omega)) rfl ?_
   simp -implicitDefEqProofs only[go_sem,δ,γ,gp]
   refine fin _ _ ?_ rfl ?_
   ·unfold cI
    repeat' first|exact PF.nil_le|refine PF.aA ?_ ?_|rfl|assumption
   ·rw[he]
    exact aP.adA (B:=oH o o4 o6 v w1 w2 w3 (aC l 3 (eM l a).2).2++B) hH3 (.rows 3 [hJ.cells])
  ·have he:dZ l n i a=((eM l a).1,(aC l 3 (eM l a).2).2):=by unfold dZ; simp only[if_pos c,c3,if_false]
   simp -implicitDefEqProofs only[go_sem,γ,bF (show ¬ (((aC l 3 (eM l a).2).1:Nat):Int)=0 by omega)]
   refine fin _ _ ?_ rfl ?_
   ·unfold cI
    repeat' first|exact PF.nil_le|refine PF.aA ?_ ?_|rfl|assumption
   ·rw[he]
    exact hH3
 ·have c':¬ ((i+1:Nat):Int)<(n:Nat):=by omega
  have he:dZ l n i a=eM l a:=by unfold dZ; simp only[if_neg c]
  simp -implicitDefEqProofs only[go_sem,γ,reduceCtorEq,c']
  refine fin _ _ ?_ rfl ?_
  ·unfold cI
   repeat' first|exact PF.nil_le|refine PF.aA ?_ ?_|rfl|assumption
  ·rw[he]
   exact hH2
end Go.PM
namespace Go.PM
open Go Go.Na
def aTH (l:List Nat) (v:PV) (o dN a:Nat) (r:PV) (H:PH):Prop:=r=.agg (nO l dN a).1.cells∧H=PH.nil.set o (aS v (nO l dN a).2)
theorem aRC {l:List (List RF)} (h:l.length≤1000):roomFor (rK l).length 1 24:=by
 unfold roomFor
 simp only[bgT,maxLen]; omega
theorem aRD (l:List (List RF)) (x:List RF):rK l++[[frs x]]=rK (l++[x]):=by simp[rK]
theorem aKX {C:Ctx} (Lb:pO C) {l:List Nat} {v:PV} (T:Tp l v) (o o4 o6 n left i a:Nat) (ha:a≤l.length) (hn:n≤100) (hi:i<n) (s:xO) (hs:s.rates.length=i) (w1 w2 w3:PV) (B:List BX) (K:bZ) (F:PF) (H:PH)
  (hF:(cI o o4 o6 n left i).le F) (hH:aP H (oH o o4 o6 v w1 w2 w3 a++B) (rP s w1 w2 w3))
  (hK:∀ w2' w13 F' H' B',(cI o o4 o6 n left i).le F'→(∃ q,w13=.osl q 3 0 n)→aP H' (oH o o4 o6 v w1 w2' w3 (cS l i a n).2++B') [(w1,3,eX s.start),(w2',1,rK s.rates++[[w13]]),(w3,3,eX s.exit),(w13,3,eX (cS l i a n).1)]→K .normal F' H') :
  aD.wp C (.seq (.region SP) (.seq (.seq (.region SQ) (.block 2 (.loop DW))) (.region SU))) K F H:=by
 have f0:F 0=some (.ptr o 2 0 0):=hF 0 _ (by unfold cI; simp -implicitDefEqProofs only[go_sem,reduceCtorEq])
 have f4:F 4=some (.ptr o4 4 0 0):=hF 4 _ (by unfold cI; simp -implicitDefEqProofs only[go_sem,γ,reduceCtorEq])
 have f5:F 5=some (.int .i64 n):=hF 5 _ (by unfold cI; simp -implicitDefEqProofs only[go_sem,γ,reduceCtorEq])
 have f6:F 6=some (.ptr o6 4 0 0):=hF 6 _ (by unfold cI; simp -implicitDefEqProofs only[go_sem,γ,reduceCtorEq])
 have f7:F 7=some (.int .i64 left):=hF 7 _ (by unfold cI; simp -implicitDefEqProofs only[go_sem,γ,reduceCtorEq])
 have f8:F 8=some (.int .i64 i):=hF 8 _ (by unfold cI; simp -implicitDefEqProofs only[go_sem,γ,reduceCtorEq])
 simp -implicitDefEqProofs only[go_sem,SP,SQ]
 refine aVR (C:=C) Lb T o o4 o6 n left i a ha hn hi ([(o4,aqV),(o6,SE w1 w2 w3)]++B) (rP s w1 w2 w3) _ _ H ?_ hH ?_
 ·unfold eO
  (repeat' (first|exact PF.nil_le|refine PF.aA ?_ ?_))<;>first|(simp -implicitDefEqProofs only[go_sem,γ,reduceCtorEq,f0,f4,f5,f6,f7,f8]<;>rfl)|rfl
 intro w F1 H1 hF1 hH1
 have hlen:=TS l i a n
 have hw:∃ q,w=.osl q 3 0 n:=by
  rcases hH1.own (v:=w) 3 rfl with ⟨h1,_⟩ | ⟨q,rs,h1,_⟩
  ·have:=congrArg List.length h1
   rw[jZ,hlen] at this
   simp at this; omega
  ·rw[jZ,hlen] at h1
   exact⟨q,h1⟩
 obtain⟨q,rfl⟩:=hw
 have g0:F1 0=some (.ptr o 2 0 0):=hF1 0 _ (by unfold eO; simp -implicitDefEqProofs only[go_sem,reduceCtorEq])
 have g4:F1 4=some (.ptr o4 4 0 0):=hF1 4 _ (by unfold eO; simp -implicitDefEqProofs only[go_sem,γ,reduceCtorEq])
 have g5:F1 5=some (.int .i64 n):=hF1 5 _ (by unfold eO; simp -implicitDefEqProofs only[go_sem,γ,reduceCtorEq])
 have g6:F1 6=some (.ptr o6 4 0 0):=hF1 6 _ (by unfold eO; simp -implicitDefEqProofs only[go_sem,γ,reduceCtorEq])
 have g7:F1 7=some (.int .i64 left):=hF1 7 _ (by unfold eO; simp -implicitDefEqProofs only[go_sem,γ,reduceCtorEq])
 have g8:F1 8=some (.int .i64 i):=hF1 8 _ (by unfold eO; simp -implicitDefEqProofs only[go_sem,γ,reduceCtorEq])
 have g13:F1 13=some (.osl q 3 0 n):=hF1 13 _ (by unfold eO; simp -implicitDefEqProofs only[go_sem,γ,reduceCtorEq])
 have b6:=hH1.at 2 rfl
 have h11:(1:Nat)*1≤16777216:=by decide
 simp -implicitDefEqProofs only[go_sem,υ,δ,γ,η,θ,ζ,SU,g6,b6,g13,h11,bhF,bhM,or_false,forall_eq]
 refine hH1.append 1 (src:=[[.osl q 3 0 n]]) rfl (by simp -implicitDefEqProofs only[go_sem]) (aRC (by omega)) fun w2' H2 h2 hw2=>?_
 obtain⟨q2,rfl⟩:=hw2 (by simp)
 have b6':=h2.at 2 rfl
 simp -implicitDefEqProofs only[go_sem,δ,θ,b6',bhF,bhM,or_false,forall_eq]
 have h3:=h2.set 2 rfl (SE w1 (.osl q2 1 0 (rK s.rates++[[PV.osl q 3 0 n]]).length) w3)
 have hl2:(rK s.rates++[[(PV.osl q 3 0 n:PV)]]).length=s.rates.length+1:=by simp
 rw[hl2] at h3 ⊢
 refine hK (.osl q2 1 0 (s.rates.length+1)) (.osl q 3 0 n) _ _ B ?_ ⟨q,rfl⟩ h3
 unfold cI
 (repeat' (first|exact PF.nil_le|refine PF.aA ?_ ?_))<;>first|(simp -implicitDefEqProofs only[go_sem,γ,reduceCtorEq,g0,g4,g5,g6,g7,g8]<;>rfl)|rfl
theorem a1H {C:Ctx} (Lb:pO C) {l:List Nat} {v:PV} (T:Tp l v) (o dN a:Nat) (hm:0<dN) (hm2:dN≤50) (ha:a≤l.length):IU.wp C (aY asF.res (aTH l v o dN a)) (PF.args [.ptr o 2 0 0,.int .i64 dN]) (PH.nil.set o (aS v a)):=by
 have h0:aP (PH.nil.set o (aS v a)) [(o,aS v a)] []:=aP.nil.new (H:=PH.nil) rfl (aS v a)
 simp -implicitDefEqProofs only[go_sem,δ,IU,aEF,asF]
 refine aQ fun o4 ho4=>?_
 have h1:=h0.new ho4 aqV
 simp -implicitDefEqProofs only[go_sem,γ,reduceCtorEq,aEG]
 refine cD Lb.topN T (o:=o) (n:=dN) (a:=a) (by omega) ha (by simp -implicitDefEqProofs only[go_sem,γ]) (h1.at 0 rfl) ?_
 have h2:=h1.set 0 rfl (aS v (aC l dN a).2)
 have hN:=bM l hm a
 have hNa:=bC l dN ha
 have e1:IntKind.i64.wrap (1+((aC l dN a).1:Int))=((1+(aC l dN a).1:Nat):Int):=by rw[wrap_i64 (by omega) (by omega)]; omega
 have hRT:∀ s:xO,s=eS l (1+(aC l dN a).1) (aC l dN a).2 (1+(aC l dN a).1)→nO l dN a=(⟨[],s.start,s.rates,s.exit⟩,s.a):=fun s hs=>by rw[hs]; rfl
 have hLR:∀ r H,aTH l v o dN a r H↔r=.agg (nO l dN a).1.cells∧H=PH.nil.set o (aS v (nO l dN a).2):=fun _ _=>Iff.rfl
 generalize hn:1+(aC l dN a).1=n at *
 generalize hb:(aC l dN a).2=b at *
 have hn0:0<n:=by omega
 have hn100:n≤100:=by omega
 simp -implicitDefEqProofs only[go_sem,δ,γ,e1,aEH]
 refine aQ fun o6 ho6=>?_
 have h3:=((h2.new ho6 aqV).qL 3).qL 1
 have h4:=h3.qL 3
 simp -implicitDefEqProofs only[go_sem,aEI,aEJ]
 refine wp_loop (α:=Nat × PV × PV × PV × PH) (fun t=>cI o o4 o6 n (eS l n b t.1).left t.1) (fun t=>t.2.2.2.2)
  (fun t=>t.1≤n∧aP t.2.2.2.2 (oH o o4 o6 v t.2.1 t.2.2.1 t.2.2.2.1 (eS l n b t.1).a) (rP (eS l n b t.1) t.2.1 t.2.2.1 t.2.2.2.1)) (fun t=>n-t.1) (0,.nils,.nils,.nils,_) ⟨bhE _,h4⟩ ?_ PH.le_refl ?_
 ·unfold cI
  (repeat' (first|exact PF.nil_le|refine PF.aA ?_ ?_))<;>first|(simp -implicitDefEqProofs only[go_sem,γ,reduceCtorEq,eS]<;>rfl)|rfl
 rintro⟨i,w1,w2,w3,H0⟩ ⟨hi,hH⟩
 simp only at hi hH ⊢
 obtain⟨k1,k2,k3,k4,k5⟩:=abU l n hNa i
 simp -implicitDefEqProofs only[go_sem,γ,reduceCtorEq,asG,aEK,cI]
 by_cases hlt:i<n
 ·have hlt':(i:Int)<(n:Nat):=by omega
  have hstep:eS l n b (i+1)=⟨(eS l n b i).start++[mkT ((cR l n i (eS l n b i)).1:Nat) 8],(eS l n b i).exit++[(dZ l n i (cR l n i (eS l n b i)).2).1],(eS l n b i).rates++[(cS l i (dZ l n i (cR l n i (eS l n b i)).2).2 n).1],(eS l n b i).left-(cR l n i (eS l n b i)).1,(cS l i (dZ l n i (cR l n i (eS l n b i)).2).2 n).2⟩:=rfl
  have kl:=SF l n i (eS l n b i) k1
  have ke:=amZ l n i kl.1
  generalize hs:eS l n b i=s at *
  simp -implicitDefEqProofs only[go_sem,hlt']
  refine aPQ (C:=C) Lb T o o4 o6 n i s k1 k2 hn100 hlt [(o4,aqV),(o6,SE w1 w2 w3)] (rP s w1 w2 w3) _ _ _ H0 (by unfold cI; (repeat' (first|exact PF.nil_le|refine PF.aA ?_ ?_))<;>first|(simp -implicitDefEqProofs only[go_sem,γ,reduceCtorEq]<;>rfl)|rfl) hH ?_
  intro F1 H1 hF1 f9 hH1
  refine aKY (C:=C) (l:=l) Lb o o4 o6 n i _ (cR l n i s).1 (cR l n i s).2 (by omega) hlt hn100 s k3 w1 w2 w3 [] _ _ F1 H1 hF1 f9 hH1 ?_
  intro w1' F2 H2 B2 hF2 hH2
  refine aPP (C:=C) Lb T o o4 o6 n i _ (cR l n i s).2 kl.1 hlt hn100 { s with start:=s.start++[mkT ((cR l n i s).1:Nat) 8] } k4 w1' w2 w3 B2 _ _ F2 H2 hF2 hH2 ?_
  intro w3' F3 H3 B3 hF3 hH3
  refine aKX (C:=C) Lb T o o4 o6 n _ i (dZ l n i (cR l n i s).2).2 ke hn100 hlt { s with start:=s.start++[mkT ((cR l n i s).1:Nat) 8],exit:=s.exit++[(dZ l n i (cR l n i s).2).1] } k5 w1' w2 w3' B3 _ F3 H3 hF3 hH3 ?_
  rintro w2' w13 F4 H4 B4 hF4 ⟨q,rfl⟩ hH4
  have g0:F4 0=some (.ptr o 2 0 0):=hF4 0 _ (by unfold cI; simp -implicitDefEqProofs only[go_sem,reduceCtorEq])
  have g4:F4 4=some (.ptr o4 4 0 0):=hF4 4 _ (by unfold cI; simp -implicitDefEqProofs only[go_sem,γ,reduceCtorEq])
  have g5:F4 5=some (.int .i64 n):=hF4 5 _ (by unfold cI; simp -implicitDefEqProofs only[go_sem,γ,reduceCtorEq])
  have g6:F4 6=some (.ptr o6 4 0 0):=hF4 6 _ (by unfold cI; simp -implicitDefEqProofs only[go_sem,γ,reduceCtorEq])
  have g7:F4 7=some (.int .i64 (s.left-(cR l n i s).1:Nat)):=hF4 7 _ (by unfold cI; simp -implicitDefEqProofs only[go_sem,γ,reduceCtorEq])
  have g8:F4 8=some (.int .i64 i):=hF4 8 _ (by unfold cI; simp -implicitDefEqProofs only[go_sem,γ,reduceCtorEq])
  obtain⟨rs,z1,z2,z3,z4,z5⟩:=hH4.frz 3 rfl
  have y1:=z4 0 _ (by decide) rfl
  have y2:=z4 1 _ (by decide) rfl
  have y3:=z4 2 _ (by decide) rfl
  simp only at y1 y2 y3
  have y4:=T.frz q 3 rs
  simp -implicitDefEqProofs only[go_sem,γ,asK,g8,aK (show i<9223372036854775807 by omega)]
  refine IL (i+1,w1',w2',w3',H4.frz q 3 rs) z1 ⟨hlt,?_⟩ (by simp only; omega) ?_ PH.le_refl
  ·rw[hstep]
   have eB:(oH o o4 o6 v w1' w2' w3' (cS l i (dZ l n i (cR l n i s).2).2 n).2).map (fun b=>(b.1,b.2.frz q 3 rs))=oH o o4 o6 v w1' w2' w3' (cS l i (dZ l n i (cR l n i s).2).2 n).2:=by
    simp only[biC,biV,bV.frz,y1,y2,y3,y4]
    rfl
   have eL:([(w1',3,eX (s.start++[mkT ((cR l n i s).1:Nat) 8])),(w2',1,rK s.rates++[[.osl q 3 0 n]]),(w3',3,eX (s.exit++[(dZ l n i (cR l n i s).2).1]))]:List LI).map (fun x=>(x.1,x.2.1,x.2.2.map fun r=>r.map (PV.cX q 3 rs))) =
     rP ⟨s.start++[mkT ((cR l n i s).1:Nat) 8],s.exit++[(dZ l n i (cR l n i s).2).1],s.rates++[(cS l i (dZ l n i (cR l n i s).2).2 n).1],s.left-(cR l n i s).1,(cS l i (dZ l n i (cR l n i s).2).2 n).2⟩ w1' w2' w3':=by
    have e2:(rK s.rates++[[PV.osl q 3 0 n]]).map (fun r=>r.map (PV.cX q 3 rs))=rK (s.rates++[(cS l i (dZ l n i (cR l n i s).2).2 n).1]):=by
     rw[biS,agX,biC,biV,biC,biV,z2,aRD]
    show ([(w1',3,(eX (s.start++[mkT ((cR l n i s).1:Nat) 8])).map (fun r=>r.map (PV.cX q 3 rs))),(w2',1,(rK s.rates++[[PV.osl q 3 0 n]]).map (fun r=>r.map (PV.cX q 3 rs))),(w3',3,(eX (s.exit++[(dZ l n i (cR l n i s).2).1])).map (fun r=>r.map (PV.cX q 3 rs)))]:List LI)=_
    rw[CI,e2,CI]
   rw[← eB,← eL]
   exact z5.sub (by rw[biS]; exact List.sublist_append_left ..) (biU.refl _)
  ·rw[hstep]
   (repeat' (first|exact PF.nil_le|refine PF.aA ?_ ?_))<;>first|(simp -implicitDefEqProofs only[go_sem,γ,reduceCtorEq,g0,g4,g5,g6,g7,g8]<;>rfl)|rfl
 ·have hlt':¬ (i:Int)<(n:Nat):=by omega
  have:i=n:=by omega
  subst this
  simp -implicitDefEqProofs only[go_sem,γ,reduceCtorEq,hlt',asL]
  have b4:=hH.at 1 rfl
  have b6:=hH.at 2 rfl
  have osl:∀ {w:PV} {z:Nat} {rows:List (List PV)},rows.length=i→bB H0 z w rows→∃ q,w=.osl q z 0 i:=by
   intro w z rows hr hO
   rcases hO with ⟨h1,_⟩ | ⟨q,rs,h1,_⟩
   ·rw[h1] at hr; simp at hr; omega
   ·exact⟨q,by rw[h1,hr]⟩
  obtain⟨q1,rfl⟩:=osl (by rw[jZ,k3]) (hH.own 0 rfl)
  obtain⟨q2,rfl⟩:=osl (by rw[bgT,k5]) (hH.own 1 rfl)
  obtain⟨q3,rfl⟩:=osl (by rw[jZ,k4]) (hH.own 2 rfl)
  have hR:=hRT (eS l i b i) rfl
  simp -implicitDefEqProofs only[go_sem,δ,γ,reduceCtorEq,b6,b4,bhF,bhM,or_false,forall_eq,forall_eq_or_imp]
  have x1:=hH.set 1 rfl (SE (.osl q1 3 0 i) (.osl q2 1 0 i) (.osl q3 3 0 i))
  obtain⟨r1,s1,s2,s3,s4,s5⟩:=x1.frz 0 rfl
  have u2:=s4 1 _ (by decide) rfl
  have u3:=s4 2 _ (by decide) rfl
  simp only at u2 u3
  have u4:=T.frz q1 3 r1
  obtain⟨r2,t1,t2,t3,t4,t5⟩:=s5.frz 0 rfl
  have m3:=t4 1 _ (by decide) rfl
  simp only at m3
  have m4:=T.frz q2 1 r2
  obtain⟨r3,n1,n2,n3,n4,n5⟩:=t5.frz 0 rfl
  have n4:=T.frz q3 3 r3
  refine BI (vs:=[.agg [.str [],.osl q1 3 0 i,.osl q2 1 0 i,.osl q3 3 0 i]]) (.inr rfl) ?_ (.step s1 (.step t1 (.step n1 (.done (H2:=PH.nil.set o (aS v (eS l i b i).a)) ?_ (PH.aA PH.nil_le ?_)))))
  ·simp -implicitDefEqProofs only[go_sem,δ,γ,reduceCtorEq]
  ·rw[hLR,hR]
   refine⟨?_,rfl⟩
   simp only[cN,PV.frz,PV.qA,biC,biV,s2,u2,u3,t2,m3,n2]
   simp only[PV.cX,CI _ _ _ _,agX _ _ _ _]
  ·have:=n5.at 0 rfl
   rw[this]
   simp only[bV.frz,biC,biV,u4,m4,n4]
   rfl
end Go.PM
namespace Go.PM
open Go Go.Na
structure kN (C:Ctx):Prop extends pO C where
 law:∀ (l:List Nat) (v:PV),Tp l v→∀ (o dN a:Nat),0<dN→dN≤50→a≤l.length→aJ C 2 [.ptr o 2 0 0,.int .i64 dN] (PH.nil.set o (aS v a)) (aTH l v o dN a)
structure GOk (l:List Nat) (drives:Nat) (s:GS):Prop where
 doms:s.doms.length≤35
 drvs:s.drvs.length≤drives
 a:s.a≤l.length
theorem RP {l:List Nat} {mc drives dom:Nat} {s:GS} (h:GOk l drives s):∀ i,GOk l drives (gP l mc drives dom s i)∧(gP l mc drives dom s i).doms=s.doms
 | 0=>⟨h,rfl⟩
 | i+1=>by
  obtain⟨⟨h1,h2,h3⟩,h4⟩:=RP (mc:=mc) (dom:=dom) h i
  simp only[gP]
  split
  ·exact⟨⟨h1,by simp only[bgW,bhA]; omega,bC l mc h3⟩,h4⟩
  ·exact⟨⟨h1,h2,h3⟩,h4⟩
theorem aBL {l:List Nat} {level dom drives:Nat} {s:GS} (h:GOk l drives s) (hf:mZ drives s=false):GOk l drives (kS l level dom s)∧∃ x:cK,(kS l level dom s).doms=s.doms++[x]∧x.level=(level:Int)∧x.parent=(dom:Int):=by
 obtain⟨h1,h2,h3⟩:=h
 unfold mZ at hf
 rw[Bool.or_eq_false_iff] at hf
 have hd:=of_decide_eq_false hf.2
 refine⟨⟨?_,h2,?_⟩,_,rfl,rfl,rfl⟩
 ·simp only[kS,bgW,bhA]; omega
 ·have a1:=bC l 3 (bC l 16 h3)
  simp only[kS]
  split
  ·exact bC l 6 a1
  ·exact a1
theorem RQ {l:List Nat} {level drives dom:Nat} {rec:Nat→GS→GS} (hrec:∀ d t,GOk l drives t→GOk l drives (rec d t)∧∃ u,(rec d t).doms=t.doms++u) {s:GS} (h:GOk l drives s) :
  ∀ i,GOk l drives (fB l level drives dom rec s i)∧∃ u,(fB l level drives dom rec s i).doms=s.doms++u
 | 0=>⟨h,[],by simp[fB]⟩
 | i+1=>by
  obtain⟨h1,u,h2⟩:=RQ hrec h i
  simp only[fB]
  split
  ·exact⟨h1,u,h2⟩
  ·rename_i hf
   obtain⟨g1,x,g2,-⟩:=aBL (level:=level) (dom:=dom) h1 (by simpa using hf)
   obtain⟨k1,u',k2⟩:=hrec ((kS l level dom (fB l level drives dom rec s i)).doms.length-1) _ g1
   exact⟨k1,u++[x]++u',by rw[k2,g2,h2]; simp⟩
theorem CS {l:List Nat} {mc drives:Nat}:∀ (k dom:Nat) {s:GS},GOk l drives s→GOk l drives (dX l mc drives k dom s)∧∃ u,(dX l mc drives k dom s).doms=s.doms++u
 | 0,dom,s,h=>by
  have h0:GOk l drives { s with a:=(aC l 2 s.a).2 }:=⟨h.doms,h.drvs,bC l 2 h.a⟩
  obtain⟨h1,h2⟩:=RP (mc:=mc) (dom:=dom) h0 (1+(aC l 2 s.a).1)
  exact⟨h1,[],by simp only[dX]; rw[h2]; simp⟩
 | k+1,dom,s,h=>by
  have h0:GOk l drives { s with a:=(aC l 2 s.a).2 }:=⟨h.doms,h.drvs,bC l 2 h.a⟩
  exact RQ (level:=4-k) (dom:=dom) (fun d t ht=>CS k d ht) h0 (if 4-k=2 then 1 else 1+(aC l 2 s.a).1)
theorem aJM {l : List Nat} {level drives dom : Nat} {rec : Nat → GS → GS} {s : GS} {i : Nat} (h : mZ drives (fB l level drives dom rec s i) = true) : ∀ n, i ≤ n → fB l level drives dom rec s n = fB l level drives dom rec s i := by
  intro n hn
  induction n with
  | zero => have : i = 0 := by omega
            subst this; rfl
  | succ n ih =>
    rcases bhK n i with h' | h'
    · have : i = n + 1 := by omega
      subst this; rfl
    · have e := ih h'
      simp only [fB]
      rw [e, if_pos h]
def mkS (l:List Nat) (v:PV):Spec:=fun name vs=>match name,vs with
 | 29,[.str s,.int _ i]=>some ([],fun _=>aL (.str (s++bO i.toNat)))
 | 47,[.int _ n]=>some ([],fun _=>aL (.agg (mkT n 1).cells))
 | 4,[.ptr o _ _ _,.int _ n]=>some ([o],fun H0 r H'=>∀ a,H0 o=some (aS v a)→UM l v o n.toNat a r H')
 | _,_=>none
section
variable {C:Ctx} {F:PF} {H Hs:PH} {l:List Nat} {v:PV} {o a:Nat}
theorem oJ (Lb:pN C) (T:Tp l v) {n:Nat} {st:Bool} {args:List aN} {d:Option Nat} {K:PF→PH→Prop} (hn:n≤1000000) (ha:a≤l.length) (hargs:aN.evs F args=some [.ptr o 2 0 0,.int .i64 n]) (ho:H o=some (aS v a))
  (hle:Hs.le (H.set o (aS v (aC l n a).2))) (hk:K (F.put d (.int .i64 ((aC l n a).1:Nat))) (H.set o (aS v (aC l n a).2))):dOp C Hs (mkS l v) st (.call 4 args) d K F H:=by
 refine amR (x:=aS v a) (y:=aS v (aC l n a).2) (r:=.int .i64 ((aC l n a).1:Nat)) (R:=fun H0 r H'=>∀ a,H0 o=some (aS v a)→UM l v o n a r H') rfl ho (Lb.next l v T o n a hn ha) ?_ ?_ hargs hle hk
 ·intro b hb
  rw[fS] at hb
  injection hb with hb
  injection hb with _ hb
  injection hb with hb _
  injection hb with _ hb
  injection hb with hb _
  injection hb with _ hb
  have:a=b:=by omega
  subst this
  exact⟨rfl,rfl⟩
 ·intro r' H' hr
  exact hr a (by rw[fS])
theorem BZ (Lb:pO C) {s:List UInt8} {n:Nat} {st:Bool} {args:List aN} {d:Option Nat} {K:PF→PH→Prop} (hs:s.length≤100) (hn:n<100) (hargs:aN.evs F args=some [.str s,.int .i64 n]) (hle:Hs.le H) (hk:K (F.put d (.str (s++bO n))) H) :
  dOp C Hs (mkS l v) st (.call 29 args) d K F H :=
 cO (v:=.str (s++bO n)) rfl (Lb.name s n hs hn) hargs hle hk
theorem aZJ (Lb:pN C) {n:Int} {st:Bool} {args:List aN} {d:Option Nat} {K:PF→PH→Prop} (hn:dV n) (hargs:aN.evs F args=some [.int .i64 n]) (hle:Hs.le H) (hk:K (F.put d (.agg (mkT n 1).cells)) H) :
  dOp C Hs (mkS l v) st (.call 47 args) d K F H :=
 cO (v:=.agg (mkT n 1).cells) rfl (Lb.int n hn) hargs hle hk
end
end Go.PM
namespace Go.PM
open Go Go.Na
theorem bB.qG {H:PH} {s:Nat} {v:PV} {rows:List (List PV)} (h:bB H s v rows):PV.qG v=some (.int .i64 (rows.length:Nat)):=by
 rcases h with ⟨rfl,rfl⟩ | ⟨q,rs,rfl,_⟩<;>rfl
abbrev gV (l:List cK):List (List PV):=l.map cK.cells
abbrev jY (l:List cQ):List (List PV):=l.map cQ.cells
abbrev flB (ext wl wm wd wr wp wv:PV):bV:=.rows 7 [[ext,wl,wm,wd,wr,wp,wv]]
structure GE where
 o:Nat
 fo:Nat
 qm:Nat
 ext:PV
 wl:PV
 wp:PV
 wv:PV
abbrev GE.boxes (G:GE) (v:PV) (mc:Nat) (wd wr:PV) (a:Nat):List BX:=[(G.o,aS v a),(G.fo,flB G.ext G.wl (.osl G.qm 4 0 mc) wd wr G.wp G.wv)]
abbrev jQ (s:GS) (wd wr:PV):List LI:=[(wd,7,gV s.doms),(wr,3,jY s.drvs)]
def eA (G:GE) (dom drives level n i:Nat):PF:=(((((((PF.nil.set 0 (.ptr G.o 2 0 0)).set 1 (.ptr G.fo 7 0 0)).set 2 (.int .i64 dom)).set 3 (.int .i64 drives)).set 8 (.int .i64 level)).set 9 (.int .i64 n)).set 10 (.int .i64 i))
theorem bB.one {H:PH} {s:Nat} {v:PV} {rows:List (List PV)} (h:bB H s v rows) (hn:0<rows.length):∃ q,v=.osl q s 0 rows.length:=by
 rcases h with ⟨rfl,_⟩ | ⟨q,rs,rfl,_⟩
 ·simp at hn
 ·exact⟨q,rfl⟩
theorem arV {C:Ctx} (Lb:kN C) {l:List Nat} {v:PV} (T:Tp l v) (G:GE) (mc drives dom n:Nat) (hmc:0<mc) (hmc2:mc≤1000) (hdr:drives≤60) (hn:n≤10) (s:GS) (hs:GOk l drives s) (wd wr:PV) (K:bZ) (F:PF) (H:PH)
  (hF:(eA G dom drives 5 n 0).le F) (hH:aP H (G.boxes v mc wd wr s.a) (jQ s wd wr))
  (hK:∀ wd' wr' F' H',aP H' (G.boxes v mc wd' wr' (gP l mc drives dom s n).a) (jQ (gP l mc drives dom s n) wd' wr')→K (.exit 0) F' H') :
  aD.wp C (.loop sR) K F H:=by
 refine wp_loop (α:=Nat × PV × PV × PH) (fun t=>eA G dom drives 5 n t.1) (fun t=>t.2.2.2) (fun t=>t.1≤n∧aP t.2.2.2 (G.boxes v mc t.2.1 t.2.2.1 (gP l mc drives dom s t.1).a) (jQ (gP l mc drives dom s t.1) t.2.1 t.2.2.1)) (fun t=>n-t.1) (0,wd,wr,H) ⟨bhE _,hH⟩ hF PH.le_refl ?_
 rintro⟨i,wd,wr,H0⟩ ⟨hi,hH⟩
 simp only at hi hH ⊢
 obtain⟨gs,-⟩:=RP (mc:=mc) (dom:=dom) hs i
 have hstep:gP l mc drives dom s (i+1)=(if (gP l mc drives dom s i).drvs.length<drives then { gP l mc drives dom s i with drvs:=(gP l mc drives dom s i).drvs++[⟨[100]++bO (gP l mc drives dom s i).drvs.length,((aC l mc (gP l mc drives dom s i).a).1:Nat),(dom:Nat)⟩],a:=(aC l mc (gP l mc drives dom s i).a).2 } else gP l mc drives dom s i):=rfl
 simp -implicitDefEqProofs only[go_sem,γ,reduceCtorEq,sR,SH,eA]
 by_cases hlt:i<n
 ·have hlt':(i:Int)<(n:Nat):=by omega
  generalize hg:gP l mc drives dom s i=g at *
  have b1:=hH.at 1 rfl
  have lr:=(hH.own 1 rfl).qG
  rw[bgT] at lr
  have ei:=aK (show i<9223372036854775807 by omega)
  simp -implicitDefEqProofs only[go_sem,δ,γ,θ,reduceCtorEq,hlt',SI,show (((5:Nat):Int)==5)=true from rfl,asB,b1,lr]
  by_cases hc:g.drvs.length<drives
  ·have hc':(g.drvs.length:Int)<(drives:Nat):=by omega
   rw[if_pos hc] at hstep
   simp -implicitDefEqProofs only[go_sem,hc']
   have hHs:(PH.nil.set G.fo (flB G.ext G.wl (.osl G.qm 4 0 mc) wd wr G.wp G.wv)).le H0:=PH.aA PH.nil_le b1
   refine cA (PH.nil.set G.fo (flB G.ext G.wl (.osl G.qm 4 0 mc) wd wr G.wp G.wv)) (mkS l v) hHs ?_
   simp -implicitDefEqProofs only[go_sem,δ,γ,θ,reduceCtorEq,asC,b1,lr]
   refine BZ Lb.topO (s:=[100]) (n:=g.drvs.length) (by decide) (by have:=gs.drvs; omega) rfl hHs ?_
   simp -implicitDefEqProofs only[go_sem,δ,γ,θ,reduceCtorEq]
   have ho:=hH.at 0 rfl
   have h1:=hH.set 0 rfl (aS v (aC l mc g.a).2)
   have b1':=h1.at 1 rfl
   refine oJ Lb.topN T (o:=G.o) (n:=mc) (a:=g.a) (by omega) gs.a rfl ho (PH.aA PH.nil_le b1') ?_
   have h132:(1:Nat)*3≤16777216:=by decide
   simp -implicitDefEqProofs only[go_sem,υ,δ,γ,η,θ,ζ,reduceCtorEq,h132,bhF,bhM,or_false,forall_eq,forall_eq_or_imp]
   refine h1.append 1 (src:=[(⟨[100]++bO g.drvs.length,((aC l mc g.a).1:Nat),(dom:Nat)⟩:cQ).cells]) rfl rfl (by unfold roomFor; rw[bgT]; have:=gs.drvs; simp only[bhA,maxLen]; omega) fun wr' H2 h2 hw=>?_
   obtain⟨q,rfl⟩:=hw (by simp)
   have b2:=h2.at 1 rfl
   refine⟨PH.aA PH.nil_le b2,?_⟩
   refine cA .nil dU PH.nil_le ?_
   simp -implicitDefEqProofs only[go_sem,δ,γ,θ,reduceCtorEq,asD,b2,bhF,bhM,or_false,forall_eq]
   have h3:=h2.set 1 rfl (flB G.ext G.wl (.osl G.qm 4 0 mc) wd (.osl q 3 0 (jY g.drvs++[(⟨[100]++bO g.drvs.length,((aC l mc g.a).1:Nat),(dom:Nat)⟩:cQ).cells]).length) G.wp G.wv)
   refine⟨PH.nil_le,?_⟩
   simp -implicitDefEqProofs only[go_sem,γ,reduceCtorEq,sS,ei]
   refine aI (i+1,wd,.osl q 3 0 (jY g.drvs++[(⟨[100]++bO g.drvs.length,((aC l mc g.a).1:Nat),(dom:Nat)⟩:cQ).cells]).length,_) ⟨hlt,?_⟩ (by simp only; omega) ?_ PH.le_refl
   ·rw[hstep]
    have e:jY (g.drvs++[(⟨[100]++bO g.drvs.length,((aC l mc g.a).1:Nat),(dom:Nat)⟩:cQ)])=jY g.drvs++[(⟨[100]++bO g.drvs.length,((aC l mc g.a).1:Nat),(dom:Nat)⟩:cQ).cells]:=by simp[jY]
    unfold jQ
    simp only
    rw[e]
    exact h3
   ·(repeat' (first|exact PF.nil_le|refine PF.aA ?_ ?_))<;>first|(simp -implicitDefEqProofs only[go_sem,γ,reduceCtorEq]<;>rfl)|rfl
  ·have hc':¬ (g.drvs.length:Int)<(drives:Nat):=by omega
   rw[if_neg hc] at hstep
   simp -implicitDefEqProofs only[go_sem,γ,reduceCtorEq,hc',sS,ei]
   refine aI (i+1,wd,wr,H0) ⟨hlt,by rw[hstep]; exact hH⟩ (by simp only; omega) ?_ PH.le_refl
   (repeat' (first|exact PF.nil_le|refine PF.aA ?_ ?_))<;>first|(simp -implicitDefEqProofs only[go_sem,γ,reduceCtorEq]<;>rfl)|rfl
 ·have hlt':¬ (i:Int)<(n:Nat):=by omega
  have:i=n:=by omega
  subst this
  simp -implicitDefEqProofs only[go_sem,hlt']
  exact hK wd wr _ _ hH
end Go.PM
namespace Go.PM
open Go Go.Na
def aIB (G:GE) (v:PV) (mc:Nat) (s':GS) (r:PV) (B':List BX) (L':List LI):Prop:=r=.tup []∧∃ wd wr,B'=G.boxes v mc wd wr s'.a∧L'=jQ s' wd wr
def UK (C:Ctx) (l:List Nat) (v:PV) (mc drives k:Nat):Prop :=
 ∀ (G:GE) (wd wr:PV) (s:GS) (dom:Nat) (x:cK),GOk l drives s→s.doms[dom]?=some x→x.level=4-(k:Int)→∀ H0,aP H0 (G.boxes v mc wd wr s.a) (jQ s wd wr) →
  aJ C 7 [.ptr G.o 2 0 0,.ptr G.fo 7 0 0,.int .i64 dom,.int .i64 drives] H0 (fun r H'=>∃ B' L',aIB G v mc (dX l mc drives k dom s) r B' L'∧aP H' B' L')
theorem aOO {lv:Nat} (h:lv≤4):([45,115,114,107,109]:List UInt8)[lv]?=some (jE lv):=by
 match lv,h with
 | 0,_=>rfl
 | 1,_=>rfl
 | 2,_=>rfl
 | 3,_=>rfl
 | 4,_=>rfl
theorem OV {C:Ctx} {l:List Nat} {v:PV} (G:GE) (mc drives dom lv n i k p:Nat) (hlv:lv=4-k) (hk:k<4) (hrec:UK C l v mc drives k) (g:GS) (x:cK) (a:Nat) (hg:GOk l drives { g with doms:=g.doms++[x],a:=a }) (hx:x.level=(lv:Nat)) (wd wr:PV) (hdr:drives≤60) (K:bZ) (F:PF) (H:PH)
  (hF:(eA G dom drives lv n i).le F) (f11:F 11=some (.ptr p 7 0 0)) (hH:aP H (G.boxes v mc wd wr a++[(p,.rows 7 [x.cells])]) (jQ g wd wr))
  (hK:∀ wd' wr' F' H',(eA G dom drives lv n i).le F'→aP H' (G.boxes v mc wd' wr' (dX l mc drives k g.doms.length { g with doms:=g.doms++[x],a:=a }).a) (jQ (dX l mc drives k g.doms.length { g with doms:=g.doms++[x],a:=a }) wd' wr')→K .normal F' H') :
  aD.wp C (.draw IS) (iZ C (aD.wp C (.region IT)) K) F H:=by
 have f0:F 0=some (.ptr G.o 2 0 0):=hF 0 _ (by unfold eA; simp -implicitDefEqProofs only[go_sem,reduceCtorEq])
 have f1:F 1=some (.ptr G.fo 7 0 0):=hF 1 _ (by unfold eA; simp -implicitDefEqProofs only[go_sem,γ,reduceCtorEq])
 have f2:F 2=some (.int .i64 dom):=hF 2 _ (by unfold eA; simp -implicitDefEqProofs only[go_sem,γ,reduceCtorEq])
 have f3:F 3=some (.int .i64 drives):=hF 3 _ (by unfold eA; simp -implicitDefEqProofs only[go_sem,γ,reduceCtorEq])
 have f8:F 8=some (.int .i64 lv):=hF 8 _ (by unfold eA; simp -implicitDefEqProofs only[go_sem,γ,reduceCtorEq])
 have f9:F 9=some (.int .i64 n):=hF 9 _ (by unfold eA; simp -implicitDefEqProofs only[go_sem,γ,reduceCtorEq])
 have f10:F 10=some (.int .i64 i):=hF 10 _ (by unfold eA; simp -implicitDefEqProofs only[go_sem,γ,reduceCtorEq])
 have hdl:=hg.doms
 simp only[bgW,bhA] at hdl
 have b1:=hH.at 1 rfl
 have b2:=hH.at 2 rfl
 have h17:(1:Nat)*7≤16777216:=by decide
 refine cA .nil dU PH.nil_le ?_
 simp -implicitDefEqProofs only[go_sem,υ,δ,γ,η,θ,ζ,reduceCtorEq,IS,f1,f11,b1,b2,h17,bhF,bhM,or_false,forall_eq,forall_eq_or_imp]
 refine hH.append 0 (src:=[x.cells]) rfl rfl (by unfold roomFor; rw[bgT]; simp only[bhA,maxLen]; omega) fun wd' H2 h2 hw=>?_
 obtain⟨q,rfl⟩:=hw (by simp)
 have hl:(gV g.doms++[x.cells]).length=g.doms.length+1:=by simp
 rw[hl] at h2 ⊢
 have c1:=h2.at 1 rfl
 refine⟨PH.nil_le,?_⟩
 simp -implicitDefEqProofs only[go_sem,δ,θ,c1,bhF,bhM,or_false,forall_eq]
 have h3:=h2.set 1 rfl (flB G.ext G.wl (.osl G.qm 4 0 mc) (.osl q 7 0 (g.doms.length+1)) wr G.wp G.wv)
 have c2:=h3.at 1 rfl
 refine⟨PH.nil_le,?_⟩
 have e:gV (g.doms++[x])=gV g.doms++[x.cells]:=by simp[gV]
 have ew:IntKind.i64.wrap (((g.doms.length+1:Nat):Int)-1)=((g.doms.length:Nat):Int):=by rw[wrap_i64 (by omega) (by omega)]; omega
 simp -implicitDefEqProofs only[go_sem,δ,γ,θ,reduceCtorEq,IT,f0,f1,f3,ew]
 have h4:aP (H2.set G.fo (flB G.ext G.wl (.osl G.qm 4 0 mc) (.osl q 7 0 (g.doms.length+1)) wr G.wp G.wv)) (G.boxes v mc (.osl q 7 0 (g.doms.length+1)) wr a++[(p,.rows 7 [x.cells])]) (jQ { g with doms:=g.doms++[x],a:=a } (.osl q 7 0 (g.doms.length+1)) wr++[]):=by
  unfold jQ
  simp only
  rw[e]
  exact h3
 refine QW h4 (fun H0 hH0=>hrec G _ wr { g with doms:=g.doms++[x],a:=a } g.doms.length x hg (by simp) (by rw[hx]; omega) H0 hH0) rfl ?_
 rintro r B' L' H' ⟨rfl,wd2,wr2,rfl,rfl⟩ hH'
 refine hK wd2 wr2 _ _ ?_ (hH'.sub (List.sublist_append_left ..) (by rw[biN]; exact biU.refl _))
 unfold eA
 repeat' first|exact PF.nil_le|refine PF.aA ?_ ?_|rfl|assumption
theorem GM {C:Ctx} (Lb:kN C) {l:List Nat} {v:PV} (T:Tp l v) (G:GE) (mc drives dom n k:Nat) (hk:k<4) (hdr:drives≤60) (hn:n≤10) (hrec:UK C l v mc drives k) (s:GS) (hs:GOk l drives s) (hd0:0<s.doms.length) (wd wr:PV) (K:bZ) (F:PF) (H:PH)
  (hF:(eA G dom drives (4-k) n 0).le F) (hH:aP H (G.boxes v mc wd wr s.a) (jQ s wd wr))
  (hK:∀ e wd' wr' F' H',(e=.exit 0∨e=.ret)→aP H' (G.boxes v mc wd' wr' (fB l (4-k) drives dom (dX l mc drives k) s n).a) (jQ (fB l (4-k) drives dom (dX l mc drives k) s n) wd' wr')→K e F' H') :
  aD.wp C (.loop sR) K F H:=by
 obtain⟨lv,hlv⟩:∃ lv,lv=4-k:=⟨_,rfl⟩
 rw[← hlv] at hF hK
 refine wp_loop (α:=Nat × PV × PV × PH) (fun t=>eA G dom drives lv n t.1) (fun t=>t.2.2.2) (fun t=>t.1≤n∧aP t.2.2.2 (G.boxes v mc t.2.1 t.2.2.1 (fB l lv drives dom (dX l mc drives k) s t.1).a) (jQ (fB l lv drives dom (dX l mc drives k) s t.1) t.2.1 t.2.2.1)) (fun t=>n-t.1) (0,wd,wr,H) ⟨bhE _,hH⟩ hF PH.le_refl ?_
 rintro⟨i,wd,wr,H0⟩ ⟨hi,hH⟩
 simp only at hi hH ⊢
 obtain⟨gs,u,gu⟩:=RQ (level:=lv) (dom:=dom) (fun d t ht=>CS (mc:=mc) k d ht) hs i
 have hfull:=fun h=>aJM (l:=l) (level:=lv) (drives:=drives) (dom:=dom) (rec:=dX l mc drives k) (s:=s) (i:=i) h n hi
 have hstep:fB l lv drives dom (dX l mc drives k) s (i+1)=(if mZ drives (fB l lv drives dom (dX l mc drives k) s i) then fB l lv drives dom (dX l mc drives k) s i else dX l mc drives k ((kS l lv dom (fB l lv drives dom (dX l mc drives k) s i)).doms.length-1) (kS l lv dom (fB l lv drives dom (dX l mc drives k) s i))):=rfl
 simp -implicitDefEqProofs only[go_sem,γ,reduceCtorEq,sR,SH,eA]
 by_cases hlt:i<n
 ·have hlt':(i:Int)<(n:Nat):=by omega
  generalize hg:fB l lv drives dom (dX l mc drives k) s i=g at *
  have gd0:0<g.doms.length:=by rw[gu,bgW]; omega
  have b1:=hH.at 1 rfl
  have lr:=(hH.own 1 rfl).qG
  have ld:=(hH.own 0 rfl).qG
  rw[bgT] at lr ld
  have ei:=aK (show i<9223372036854775807 by omega)
  simp -implicitDefEqProofs only[go_sem,δ,γ,θ,reduceCtorEq,hlt',SI,bF (show ((lv:Nat):Int)≠5 by omega),afP,b1,lr]
  by_cases c1:drives≤g.drvs.length
  ·have hf:mZ drives g=true:=by unfold mZ; simp[c1]
   simp -implicitDefEqProofs only[go_sem,γ,reduceCtorEq,show (g.drvs.length:Int)≥(drives:Nat) by omega]
   exact hK _ wd wr _ _ (.inr rfl) (by rw[hfull hf]; exact hH)
  simp -implicitDefEqProofs only[go_sem,δ,γ,θ,reduceCtorEq,show ¬ (g.drvs.length:Int)≥(drives:Nat) by omega,b1,ld]
  by_cases c2:35≤g.doms.length
  ·have hf:mZ drives g=true:=by unfold mZ; simp[c2]
   simp -implicitDefEqProofs only[go_sem,show (g.doms.length:Int)≥35 by omega]
   exact hK _ wd wr _ _ (.inr rfl) (by rw[hfull hf]; exact hH)
  have hf:mZ drives g=false:=by unfold mZ; simp[c1,c2]
  rw[if_neg (by rw[hf]; decide)] at hstep
  simp -implicitDefEqProofs only[go_sem,show ¬ (g.doms.length:Int)≥35 by omega]
  have ls:=aOO (show lv≤4 by omega)
  refine cA .nil (mkS l v) PH.nil_le ?_
  have hbr:mI [[PV.int IntKind.u8 (((jE lv).toNat:Nat):Int)]]=some [jE lv]:=by
   simp[mI]
  obtain⟨gg,x0,gx0,-⟩:=aBL (level:=lv) (dom:=dom) gs hf
  have hdl:(kS l lv dom g).doms.length-1=g.doms.length:=by rw[gx0]; simp
  rw[hdl] at hstep
  have h1:=hH.set 0 rfl (aS v (aC l 16 g.a).2)
  have a1:=bC l 16 gs.a
  have n1:=bM l (show 0<16 by decide) g.a
  have e1:IntKind.i64.wrap (1+((aC l 16 g.a).1:Int))=((1+(aC l 16 g.a).1:Nat):Int):=by rw[wrap_i64 (by omega) (by omega)]; omega
  simp -implicitDefEqProofs only[go_sem,υ,δ,γ,η,θ,ζ,reduceCtorEq,afQ,ls,hbr,b1,ld]
  refine BZ Lb.topO (s:=[jE lv]) (n:=g.doms.length) (by simp) (by have:=gs.doms; omega) rfl PH.nil_le ?_
  simp -implicitDefEqProofs only[go_sem,γ,reduceCtorEq]
  refine oJ Lb.topN T (o:=G.o) (n:=16) (a:=g.a) (by omega) gs.a rfl (hH.at 0 rfl) PH.nil_le ?_
  simp -implicitDefEqProofs only[go_sem,γ,reduceCtorEq,e1]
  refine aZJ Lb.topN (n:=0) (by unfold dV; omega) rfl PH.nil_le ?_
  simp -implicitDefEqProofs only[go_sem,δ,γ,θ,reduceCtorEq,bhF,bhM,or_false,forall_eq,forall_eq_or_imp]
  refine aQ fun p hp=>?_
  have h2:=h1.new hp (.rows 7 [(⟨[jE lv]++bO g.doms.length,(lv:Nat),(dom:Nat),(1+(aC l 16 g.a).1:Nat),hJ⟩:cK).cells])
  simp -implicitDefEqProofs only[go_sem,δ,γ,reduceCtorEq,bhF,bhM,or_false,forall_eq,forall_eq_or_imp]
  refine⟨PH.nil_le,?_⟩
  simp -implicitDefEqProofs only[go_sem,reduceCtorEq,afR]
  refine cD Lb.topN T (o:=G.o) (n:=3) (a:=(aC l 16 g.a).2) (by decide) a1 rfl (h2.at 0 rfl) ?_
  have h3:=h2.set 0 rfl (aS v (aC l 3 (aC l 16 g.a).2).2)
  have a2:=bC l 3 a1
  by_cases c3:(aC l 3 (aC l 16 g.a).2).1=0
  ·have hd:kS l lv dom g={ g with doms:=g.doms++[⟨[jE lv]++bO g.doms.length,(lv:Nat),(dom:Nat),(1+(aC l 16 g.a).1:Nat),mkT 1 ((2+(aC l 6 (aC l 3 (aC l 16 g.a).2).2).1:Nat):Int)⟩],a:=(aC l 6 (aC l 3 (aC l 16 g.a).2).2).2 }:=by
    unfold kS; simp only[c3,if_true]
   rw[hd] at hstep gg
   have n2:=bM l (show 0<6 by decide) (aC l 3 (aC l 16 g.a).2).2
   have e2:IntKind.i64.wrap (2+((aC l 6 (aC l 3 (aC l 16 g.a).2).2).1:Int))=((2+(aC l 6 (aC l 3 (aC l 16 g.a).2).2).1:Nat):Int):=by rw[wrap_i64 (by omega) (by omega)]; omega
   simp -implicitDefEqProofs only[go_sem,γ,reduceCtorEq,bS (show (((aC l 3 (aC l 16 g.a).2).1:Nat):Int)=0 by omega),afS]
   refine cD Lb.topN T (o:=G.o) (n:=6) (a:=(aC l 3 (aC l 16 g.a).2).2) (by decide) a2 rfl (h3.at 0 rfl) ?_
   have h4:=h3.set 0 rfl (aS v (aC l 6 (aC l 3 (aC l 16 g.a).2).2).2)
   rw[PH.set_set] at h4
   simp -implicitDefEqProofs only[go_sem,γ,reduceCtorEq,e2]
   refine aB (Lb.fmk 1 ((2+(aC l 6 (aC l 3 (aC l 16 g.a).2).2).1:Nat):Int) (by unfold dV; omega) (by unfold dV; omega)) rfl ?_
   unfold sZ
   rw[if_neg (by omega)]
   simp -implicitDefEqProofs only[go_sem,δ,γ,reduceCtorEq,show ¬ p=G.o from h4.ne 2 0 rfl rfl (by decide)]
   have h5:=h4.set 2 rfl (.rows 7 [(⟨[jE lv]++bO g.doms.length,(lv:Nat),(dom:Nat),(1+(aC l 16 g.a).1:Nat),mkT 1 ((2+(aC l 6 (aC l 3 (aC l 16 g.a).2).2).1:Nat):Int)⟩:cK).cells])
   try simp only[adH]
   refine OV G mc drives dom lv n i k p hlv hk hrec g _ _ gg rfl wd wr hdr _ _ _ (by unfold eA; (repeat' (first|exact PF.nil_le|refine PF.aA ?_ ?_))<;>first|(simp -implicitDefEqProofs only[go_sem,γ,reduceCtorEq]<;>rfl)|rfl) rfl h5 ?_
   intro wd' wr' F' H' hF' hH'
   rw[← hstep] at hH'
   have f10:F' 10=some (.int .i64 i):=hF' 10 _ (by unfold eA; simp -implicitDefEqProofs only[go_sem,γ,reduceCtorEq])
   have g0:F' 0=some (.ptr G.o 2 0 0):=hF' 0 _ (by unfold eA; simp -implicitDefEqProofs only[go_sem,reduceCtorEq])
   have g1:F' 1=some (.ptr G.fo 7 0 0):=hF' 1 _ (by unfold eA; simp -implicitDefEqProofs only[go_sem,γ,reduceCtorEq])
   have g2:F' 2=some (.int .i64 dom):=hF' 2 _ (by unfold eA; simp -implicitDefEqProofs only[go_sem,γ,reduceCtorEq])
   have g3:F' 3=some (.int .i64 drives):=hF' 3 _ (by unfold eA; simp -implicitDefEqProofs only[go_sem,γ,reduceCtorEq])
   have g8:F' 8=some (.int .i64 lv):=hF' 8 _ (by unfold eA; simp -implicitDefEqProofs only[go_sem,γ,reduceCtorEq])
   have g9:F' 9=some (.int .i64 n):=hF' 9 _ (by unfold eA; simp -implicitDefEqProofs only[go_sem,γ,reduceCtorEq])
   simp -implicitDefEqProofs only[go_sem,γ,sS,f10,ei]
   refine aI (i+1,wd',wr',H') ⟨hlt,hH'⟩ (by simp only; omega) ?_ PH.le_refl
   repeat' first|exact PF.nil_le|refine PF.aA ?_ ?_|rfl|assumption
  ·have hd:kS l lv dom g={ g with doms:=g.doms++[⟨[jE lv]++bO g.doms.length,(lv:Nat),(dom:Nat),(1+(aC l 16 g.a).1:Nat),hJ⟩],a:=(aC l 3 (aC l 16 g.a).2).2 }:=by
    unfold kS; simp only[c3,if_false]
   rw[hd] at hstep gg
   simp -implicitDefEqProofs only[go_sem,γ,reduceCtorEq,bF (show ¬ (((aC l 3 (aC l 16 g.a).2).1:Nat):Int)=0 by omega)]
   try simp only[adH]
   refine OV G mc drives dom lv n i k p hlv hk hrec g _ _ gg rfl wd wr hdr _ _ _ (by unfold eA; (repeat' (first|exact PF.nil_le|refine PF.aA ?_ ?_))<;>first|(simp -implicitDefEqProofs only[go_sem,γ,reduceCtorEq]<;>rfl)|rfl) rfl h3 ?_
   intro wd' wr' F' H' hF' hH'
   rw[← hstep] at hH'
   have f10:F' 10=some (.int .i64 i):=hF' 10 _ (by unfold eA; simp -implicitDefEqProofs only[go_sem,γ,reduceCtorEq])
   have g0:F' 0=some (.ptr G.o 2 0 0):=hF' 0 _ (by unfold eA; simp -implicitDefEqProofs only[go_sem,reduceCtorEq])
   have g1:F' 1=some (.ptr G.fo 7 0 0):=hF' 1 _ (by unfold eA; simp -implicitDefEqProofs only[go_sem,γ,reduceCtorEq])
   have g2:F' 2=some (.int .i64 dom):=hF' 2 _ (by unfold eA; simp -implicitDefEqProofs only[go_sem,γ,reduceCtorEq])
   have g3:F' 3=some (.int .i64 drives):=hF' 3 _ (by unfold eA; simp -implicitDefEqProofs only[go_sem,γ,reduceCtorEq])
   have g8:F' 8=some (.int .i64 lv):=hF' 8 _ (by unfold eA; simp -implicitDefEqProofs only[go_sem,γ,reduceCtorEq])
   have g9:F' 9=some (.int .i64 n):=hF' 9 _ (by unfold eA; simp -implicitDefEqProofs only[go_sem,γ,reduceCtorEq])
   simp -implicitDefEqProofs only[go_sem,γ,sS,f10,ei]
   refine aI (i+1,wd',wr',H') ⟨hlt,hH'⟩ (by simp only; omega) ?_ PH.le_refl
   repeat' first|exact PF.nil_le|refine PF.aA ?_ ?_|rfl|assumption
 ·have hlt':¬ (i:Int)<(n:Nat):=by omega
  have:i=n:=by omega
  subst this
  simp -implicitDefEqProofs only[go_sem,hlt']
  exact hK _ wd wr _ _ (.inl rfl) hH
end Go.PM
namespace Go.PM
open Go Go.Na
theorem arW {C:Ctx} (Lb:kN C) {l:List Nat} {v:PV} (T:Tp l v) (mc drives k:Nat) (hmc:0<mc) (hmc2:mc≤1000) (hdr:drives≤60) (hk:k≤4) (hrec:∀ k',k=k'+1→UK C l v mc drives k') (G:GE) (wd wr:PV) (s:GS) (dom:Nat) (x:cK)
  (hs:GOk l drives s) (hx:s.doms[dom]?=some x) (hl:x.level=4-(k:Int)) (H0:PH) (hH:aP H0 (G.boxes v mc wd wr s.a) (jQ s wd wr)) :
  tT.wp C (aY NB.res (fun r H'=>∃ B' L',aIB G v mc (dX l mc drives k dom s) r B' L'∧aP H' B' L')) (PF.args [.ptr G.o 2 0 0,.ptr G.fo 7 0 0,.int .i64 dom,.int .i64 drives]) H0:=by
 have hd0:dom<s.doms.length:=(biG.1 hx).1
 have b1:=hH.at 1 rfl
 have fin:∀ (e:kJ) (wd' wr':PV) (F':PF) (H':PH),(e=.exit 0∨e=.ret)→aP H' (G.boxes v mc wd' wr' (dX l mc drives k dom s).a) (jQ (dX l mc drives k dom s) wd' wr') →
   dY 0 (aY NB.res (fun r H'=>∃ B' L',aIB G v mc (dX l mc drives k dom s) r B' L'∧aP H' B' L')) e F' H':=by
  intro e wd' wr' F' H' he hH'
  rcases he with rfl | rfl
  ·rw[xP,if_pos rfl]
   exact aW (vs:=[]) (.inl rfl) H' rfl PH.le_refl ⟨_,_,⟨rfl,wd',wr',rfl,rfl⟩,hH'⟩
  ·exact aW (vs:=[]) (.inr rfl) H' rfl PH.le_refl ⟨_,_,⟨rfl,wd',wr',rfl,rfl⟩,hH'⟩
 obtain⟨q,rs,e1,e2,e3,e4⟩:∃ q rs,wd=.osl q 7 0 s.doms.length∧H0 q=some (.rows 7 rs)∧s.doms.length≤rs.length∧rs.take s.doms.length=gV s.doms:=by
  rcases hH.own 0 rfl with ⟨h1,_⟩ | ⟨q,rs,h1,h2,h3,h4⟩
  ·have:=congrArg List.length h1
   rw[bgT] at this
   simp at this; rw[this] at hd0; simp at hd0
  ·rw[bgT] at h1 h3 h4
   exact⟨q,rs,h1,h2,h3,h4⟩
 have hrd:rs[dom]?=some x.cells:=by
  have:(gV s.doms)[dom]?=some x.cells:=by simp[gV,hx]
  rw[← e4,List.getElem?_take_of_lt hd0] at this
  exact this
 subst e1
 have c1:(dom:Int)<(s.doms.length:Nat):=by omega
 have ew:IntKind.i64.wrap (x.level+1)=((5-k:Nat):Int):=by rw[hl,wrap_i64 (by omega) (by omega)]; omega
 have nlt:=bM l (show 0<2 by decide) s.a
 have en:IntKind.i64.wrap (1+((aC l 2 s.a).1:Int))=((1+(aC l 2 s.a).1:Nat):Int):=by rw[wrap_i64 (by omega) (by omega)]; omega
 have h1:=hH.set 0 rfl (aS v (aC l 2 s.a).2)
 have hs1:GOk l drives { s with a:=(aC l 2 s.a).2 }:=⟨hs.doms,hs.drvs,bC l 2 hs.a⟩
 have hqo:¬ q=G.o:=fun h=>hH.neL 0 0 rfl rfl rfl h.symm
 simp -implicitDefEqProofs only[go_sem,δ,γ,θ,reduceCtorEq,tT,arX,b1,c1,e2,hrd,ew,arY]
 refine cD Lb.topN T (o:=G.o) (n:=2) (a:=s.a) (by decide) hs.a (by simp -implicitDefEqProofs only[go_sem,γ]; rfl) (hH.at 0 rfl) ?_
 simp -implicitDefEqProofs only[go_sem,γ,en,arZ]
 cases k with
 | zero =>
  simp -implicitDefEqProofs only[go_sem,bF (show ¬ ((5-0:Nat):Int)=2 by omega),DV]
  refine arV (C:=C) Lb T G mc drives dom (1+(aC l 2 s.a).1) hmc hmc2 hdr (by omega) { s with a:=(aC l 2 s.a).2 } hs1 _ wr _ _ _ ?_ h1 ?_
  ·unfold eA
   (repeat' (first|exact PF.nil_le|refine PF.aA ?_ ?_))<;>first|(simp -implicitDefEqProofs only[go_sem,γ,reduceCtorEq]<;>rfl)|rfl
  ·intro wd' wr' F' H' hH'
   exact fin _ wd' wr' F' H' (.inl rfl) hH'
 | succ k =>
  have hrc:=hrec k rfl
  by_cases c2:4-k=2
  ·have e5:dX l mc drives (k+1) dom s=fB l (4-k) drives dom (dX l mc drives k) { s with a:=(aC l 2 s.a).2 } 1:=by simp only[dX,if_pos c2]
   simp -implicitDefEqProofs only[go_sem,bS (show ((5-(k+1):Nat):Int)=2 by omega),asA,DV]
   refine GM (C:=C) Lb T G mc drives dom 1 k (by omega) hdr (by decide) hrc { s with a:=(aC l 2 s.a).2 } hs1 (by simp only; omega) _ wr _ _ _ ?_ h1 ?_
   ·unfold eA
    (repeat' (first|exact PF.nil_le|refine PF.aA ?_ ?_))<;>first|(simp -implicitDefEqProofs only[go_sem,γ,reduceCtorEq,show 4-k=5-(k+1) by omega]<;>rfl)|rfl
   ·intro e wd' wr' F' H' he hH'
    rw[← e5] at hH'
    exact fin e wd' wr' F' H' he hH'
  ·have e5:dX l mc drives (k+1) dom s=fB l (4-k) drives dom (dX l mc drives k) { s with a:=(aC l 2 s.a).2 } (1+(aC l 2 s.a).1):=by simp only[dX,if_neg c2]
   simp -implicitDefEqProofs only[go_sem,bF (show ¬ ((5-(k+1):Nat):Int)=2 by omega),DV]
   refine GM (C:=C) Lb T G mc drives dom (1+(aC l 2 s.a).1) k (by omega) hdr (by omega) hrc { s with a:=(aC l 2 s.a).2 } hs1 (by simp only; omega) _ wr _ _ _ ?_ h1 ?_
   ·unfold eA
    (repeat' (first|exact PF.nil_le|refine PF.aA ?_ ?_))<;>first|(simp -implicitDefEqProofs only[go_sem,γ,reduceCtorEq,show 4-k=5-(k+1) by omega]<;>rfl)|rfl
   ·intro e wd' wr' F' H' he hH'
    rw[← e5] at hH'
    exact fin e wd' wr' F' H' he hH'
theorem apP {C:Ctx} (Lb:kN C) {l:List Nat} {v:PV} (T:Tp l v) (mc drives:Nat) (hmc:0<mc) (hmc2:mc≤1000) (hdr:drives≤60)
  (hE:∀ (args:List PV) (H:PH) (R:PV→PH→Prop),args.length=4→tT.wp C (aY NB.res R) (PF.args args) H→aJ C 7 args H R):∀ k,k≤4→UK C l v mc drives k
 | 0,h=>fun G wd wr s dom x hs hx hl H0 hH=>hE _ _ _ rfl (arW Lb T mc drives 0 hmc hmc2 hdr h (fun _ e=>by omega) G wd wr s dom x hs hx hl H0 hH)
 | k+1,h=>fun G wd wr s dom x hs hx hl H0 hH=>hE _ _ _ rfl (arW Lb T mc drives (k+1) hmc hmc2 hdr h (fun k' e=>by
   have:k'=k:=by omega
   subst this
   exact apP Lb T mc drives hmc hmc2 hdr hE k' (by omega)) G wd wr s dom x hs hx hl H0 hH)
end Go.PM
namespace Go.PM
open Go Go.Na
theorem a1A (l:List Nat) (dN:Nat) {a:Nat} (h:a≤l.length):(nO l dN a).2≤l.length:=(abU l (1+(aC l dN a).1) (bC l dN h) (1+(aC l dN a).1)).1
theorem DD (l:List Nat) {a:Nat} (h:a≤l.length):∀ k,(fL l a k).2≤l.length∧(fL l a k).1.length=k
 | 0=>⟨h,rfl⟩
 | k+1=>by
  obtain⟨h1,h2⟩:=DD l h k
  exact⟨a1A l 2 h1,by simp only[fL,bgW,bhA,h2]⟩
theorem tV (l:List Nat) (laws:Nat) {a:Nat} (h:a≤l.length):∀ k,(dJ l laws a k).2≤l.length∧(dJ l laws a k).1.length=k
 | 0=>⟨h,rfl⟩
 | k+1=>by
  obtain⟨h1,h2⟩:=tV l laws h k
  exact⟨bC l laws (bC l 8 (bC l 4 h1)),by simp only[dJ,bgW,bhA,h2]⟩
structure FE where
 o:Nat
 o6:Nat
 o7:Nat
 drives:Nat
 volumes:Nat
abbrev flZ:bV:=flB (.int .i64 0) .nils .nils .nils .nils .nils .nils
abbrev FE.boxes (E:FE) (v ext w1 w2 w3 w4 w5 w6:PV) (a:Nat):List BX:=[(E.o,aS v a),(E.o7,flB ext w1 w2 w3 w4 w5 w6),(E.o6,flZ)]
def eR (E:FE):PF:=(((((PF.nil.set 0 (.ptr E.o 2 0 0)).set 1 (.int .i64 E.drives)).set 2 (.int .i64 E.volumes)).set 6 (.ptr E.o6 7 0 0)).set 7 (.ptr E.o7 7 0 0))
abbrev fV (l:List cM):List (List PV):=l.map cM.cells
abbrev gR (l:List cT):List (List PV):=l.map cT.cells
theorem NA {E:FE} {F:PF} (h0:F 0=some (.ptr E.o 2 0 0)) (h1:F 1=some (.int .i64 E.drives)) (h2:F 2=some (.int .i64 E.volumes)) (h6:F 6=some (.ptr E.o6 7 0 0)) (h7:F 7=some (.ptr E.o7 7 0 0)):(eR E).le F :=
 PF.aA (PF.aA (PF.aA (PF.aA (PF.aA PF.nil_le h0) h1) h2) h6) h7
theorem aVL {C:Ctx} (Lb:kN C) {l:List Nat} {v:PV} (T:Tp l v) (E:FE) (n a:Nat) (hn:n≤10) (ha:a≤l.length) (ext:PV) (K:bZ) (F:PF) (H:PH)
  (hF:(((eR E).set 8 (.int .i64 n)).set 9 (.int .i64 0)).le F) (hH:aP H (E.boxes v ext .nils .nils .nils .nils .nils .nils a) [])
  (hK:∀ w1 F' H',(eR E).le F'→aP H' (E.boxes v ext w1 .nils .nils .nils .nils .nils (fL l a n).2) [(w1,4,fV (fL l a n).1)]→K (.exit 0) F' H') :
  aD.wp C (.loop IR) K F H:=by
 refine wp_loop (α:=Nat × PV × PH) (fun t=>((eR E).set 8 (.int .i64 n)).set 9 (.int .i64 t.1)) (fun t=>t.2.2) (fun t=>t.1≤n∧aP t.2.2 (E.boxes v ext t.2.1 .nils .nils .nils .nils .nils (fL l a t.1).2) [(t.2.1,4,fV (fL l a t.1).1)]) (fun t=>n-t.1) (0,.nils,H) ⟨bhE _,hH.qL 4⟩ hF PH.le_refl ?_
 rintro⟨i,w1,H0⟩ ⟨hi,hH⟩
 simp only at hi hH ⊢
 obtain⟨k1,k2⟩:=DD l ha i
 have hstep:fL l a (i+1)=((fL l a i).1++[{ (nO l 2 (fL l a i).2).1 with name:=[108,97,119]++bO i }],(nO l 2 (fL l a i).2).2):=rfl
 simp -implicitDefEqProofs only[go_sem,γ,reduceCtorEq,IR,afK,eR]
 by_cases hlt:i<n
 ·have hlt':(i:Int)<(n:Nat):=by omega
  generalize hg:fL l a i=g at *
  simp -implicitDefEqProofs only[go_sem,reduceCtorEq,hlt',afL]
  refine fW (Lb.law l v T E.o 2 g.2 (by decide) (by decide) k1) (hH.at 0 rfl) rfl ?_
  have h1:=hH.set 0 rfl (aS v (nO l 2 g.2).2)
  generalize hz:nO l 2 g.2=z at *
  simp -implicitDefEqProofs only[go_sem,δ]
  refine aQ fun p hp=>?_
  have h2:=h1.new hp (.rows 4 [z.1.cells])
  simp -implicitDefEqProofs only[go_sem,δ,γ,reduceCtorEq,afM,bhF,bhM,or_false,forall_eq,forall_eq_or_imp]
  refine aB (Lb.name [108,97,119] i (by decide) (by omega)) rfl ?_
  have h3:=h2.set 3 rfl (.rows 4 [({ z.1 with name:=[108,97,119]++bO i }:cM).cells])
  rw[PH.set_set] at h3
  have b1:=h3.at 1 rfl
  have hne:¬ E.o7=p:=h3.ne 1 3 rfl rfl (by decide)
  have hne2:¬ E.o7=E.o:=h3.ne 1 0 rfl rfl (by decide)
  simp only[aV,if_neg hne,if_neg hne2] at b1
  have h14:(1:Nat)*4≤16777216:=by decide
  simp -implicitDefEqProofs only[go_sem,υ,δ,γ,η,θ,ζ,reduceCtorEq,afN,hne,hne2,b1,h14,bhF,bhM,or_false,forall_eq,forall_eq_or_imp]
  refine h3.append 0 (src:=[({ z.1 with name:=[108,97,119]++bO i }:cM).cells]) rfl rfl (by unfold roomFor; rw[bgT]; simp only[bhA,maxLen]; omega) fun w' H2 h4 hw=>?_
  obtain⟨q,rfl⟩:=hw (by simp)
  have b2:=h4.at 1 rfl
  simp -implicitDefEqProofs only[go_sem,δ,θ,b2,bhF,bhM,or_false,forall_eq]
  have h5:=h4.set 1 rfl (flB ext (.osl q 4 0 (fV g.1++[({ z.1 with name:=[108,97,119]++bO i }:cM).cells]).length) .nils .nils .nils .nils .nils)
  simp -implicitDefEqProofs only[go_sem,γ,reduceCtorEq,afO,aK (show i<9223372036854775807 by omega)]
  refine aI (i+1,.osl q 4 0 (fV g.1++[({ z.1 with name:=[108,97,119]++bO i }:cM).cells]).length,_) ⟨hlt,?_⟩ (by simp only; omega) ?_ PH.le_refl
  ·rw[hstep]
   have e:fV (g.1++[{ z.1 with name:=[108,97,119]++bO i }])=fV g.1++[({ z.1 with name:=[108,97,119]++bO i }:cM).cells]:=by simp[fV]
   simp only
   rw[e]
   exact h5.dropLast (B:=E.boxes v ext _ .nils .nils .nils .nils .nils z.2)
  ·(repeat' (first|exact PF.nil_le|refine PF.aA ?_ ?_))<;>first|(simp -implicitDefEqProofs only[go_sem,γ,reduceCtorEq]<;>rfl)|rfl
 ·have hlt':¬ (i:Int)<(n:Nat):=by omega
  have:i=n:=by omega
  subst this
  simp -implicitDefEqProofs only[go_sem,hlt']
  exact hK w1 _ _ (NA rfl rfl rfl rfl rfl) hH
theorem aKV {C:Ctx} (Lb:kN C) {l:List Nat} {v:PV} (T:Tp l v) (E:FE) (n a nl:Nat) (hn:n≤10) (hnl:nl≤1000) (ha:a≤l.length) (ext w1:PV) (laws:List cM) (hlw:laws.length=nl) (K:bZ) (F:PF) (H:PH)
  (hF:(((eR E).set 11 (.int .i64 n)).set 12 (.int .i64 0)).le F) (hH:aP H (E.boxes v ext w1 .nils .nils .nils .nils .nils a) [(w1,4,fV laws)])
  (hK:∀ w2 F' H',(eR E).le F'→F' 11=some (.int .i64 n)→aP H' (E.boxes v ext w1 w2 .nils .nils .nils .nils (dJ l nl a n).2) [(w1,4,fV laws),(w2,4,gR (dJ l nl a n).1)]→K (.exit 2) F' H') :
  aD.wp C (.loop DK) K F H:=by
 refine wp_loop (α:=Nat × PV × PH) (fun t=>((eR E).set 11 (.int .i64 n)).set 12 (.int .i64 t.1)) (fun t=>t.2.2) (fun t=>t.1≤n∧aP t.2.2 (E.boxes v ext w1 t.2.1 .nils .nils .nils .nils (dJ l nl a t.1).2) [(w1,4,fV laws),(t.2.1,4,gR (dJ l nl a t.1).1)]) (fun t=>n-t.1) (0,.nils,H) ⟨bhE _,hH.qL 4⟩ hF PH.le_refl ?_
 rintro⟨i,w2,H0⟩ ⟨hi,hH⟩
 simp only at hi hH ⊢
 obtain⟨k1,k2⟩:=tV l nl ha i
 have hstep:dJ l nl a (i+1)=((dJ l nl a i).1++[⟨[109]++bO i,(1+(aC l 4 (dJ l nl a i).2).1:Nat),(1+(aC l 8 (aC l 4 (dJ l nl a i).2).2).1:Nat),((aC l nl (aC l 8 (aC l 4 (dJ l nl a i).2).2).2).1:Nat)⟩],(aC l nl (aC l 8 (aC l 4 (dJ l nl a i).2).2).2).2):=rfl
 simp -implicitDefEqProofs only[go_sem,γ,reduceCtorEq,DK,WS,eR]
 by_cases hlt:i<n
 ·have hlt':(i:Int)<(n:Nat):=by omega
  generalize hg:dJ l nl a i=g at *
  have hx:=bM l (show 0<4 by decide) g.2
  have ax:=bC l 4 k1
  have hy:=bM l (show 0<8 by decide) (aC l 4 g.2).2
  have ay:=bC l 8 ax
  have az:=bC l nl ay
  have h1:=hH.set 0 rfl (aS v (aC l 4 g.2).2)
  have h2:=h1.set 0 rfl (aS v (aC l 8 (aC l 4 g.2).2).2)
  have h3:=h2.set 0 rfl (aS v (aC l nl (aC l 8 (aC l 4 g.2).2).2).2)
  generalize hx0:aC l 4 g.2=x at *
  generalize hy0:aC l 8 x.2=y at *
  generalize hz0:aC l nl y.2=z at *
  have b1:=hH.at 1 rfl
  have lw:=(hH.own 0 rfl).qG
  rw[bgT,hlw] at lw
  have hHs:(PH.nil.set E.o7 (flB ext w1 w2 .nils .nils .nils .nils)).le H0:=PH.aA PH.nil_le b1
  have ex:IntKind.i64.wrap (1+(x.1:Int))=((1+x.1:Nat):Int):=by rw[wrap_i64 (by omega) (by omega)]; omega
  have ey:IntKind.i64.wrap (1+(y.1:Int))=((1+y.1:Nat):Int):=by rw[wrap_i64 (by omega) (by omega)]; omega
  simp -implicitDefEqProofs only[go_sem,hlt']
  refine cA (PH.nil.set E.o7 (flB ext w1 w2 .nils .nils .nils .nils)) (mkS l v) hHs ?_
  simp -implicitDefEqProofs only[go_sem,δ,γ,θ,reduceCtorEq,WT]
  refine BZ Lb.topO (s:=[109]) (n:=i) (by decide) (by omega) rfl hHs ?_
  simp -implicitDefEqProofs only[go_sem,reduceCtorEq]
  refine oJ Lb.topN T (o:=E.o) (n:=4) (a:=g.2) (by decide) k1 rfl (hH.at 0 rfl) ?_ ?_
  ·rw[hx0]; exact PH.aA PH.nil_le (h1.at 1 rfl)
  rw[hx0]
  simp -implicitDefEqProofs only[go_sem,γ,reduceCtorEq,ex]
  refine oJ Lb.topN T (o:=E.o) (n:=8) (a:=x.2) (by decide) ax rfl (h1.at 0 rfl) ?_ ?_
  ·rw[hy0]; exact PH.aA PH.nil_le (h2.at 1 rfl)
  rw[hy0]
  simp -implicitDefEqProofs only[go_sem,δ,γ,θ,reduceCtorEq,ey,lw]
  rw[PH.set_set] at h2
  refine oJ Lb.topN T (o:=E.o) (n:=nl) (a:=y.2) (by omega) ay rfl (h2.at 0 rfl) ?_ ?_
  ·rw[hz0]; exact PH.aA PH.nil_le ((h2.set 0 rfl (aS v z.2)).at 1 rfl)
  rw[hz0]
  have h4:=h2.set 0 rfl (aS v z.2)
  have h14:(1:Nat)*4≤16777216:=by decide
  simp -implicitDefEqProofs only[go_sem,υ,δ,γ,η,θ,ζ,reduceCtorEq,h14,bhF,bhM,or_false,forall_eq,forall_eq_or_imp]
  rw[PH.set_set] at h4
  refine h4.append 1 (src:=[(⟨[109]++bO i,(1+x.1:Nat),(1+y.1:Nat),(z.1:Nat)⟩:cT).cells]) rfl rfl (by unfold roomFor; rw[bgT]; simp only[bhA,maxLen]; omega) fun w' H2 h5 hw=>?_
  obtain⟨q,rfl⟩:=hw (by simp)
  have b2:=h5.at 1 rfl
  refine⟨PH.aA PH.nil_le b2,?_⟩
  refine cA .nil dU PH.nil_le ?_
  simp -implicitDefEqProofs only[go_sem,δ,γ,θ,reduceCtorEq,WU,b2,bhF,bhM,or_false,forall_eq]
  have h6:=h5.set 1 rfl (flB ext w1 (.osl q 4 0 (gR g.1++[(⟨[109]++bO i,(1+x.1:Nat),(1+y.1:Nat),(z.1:Nat)⟩:cT).cells]).length) .nils .nils .nils .nils)
  refine⟨PH.nil_le,?_⟩
  simp -implicitDefEqProofs only[go_sem,γ,reduceCtorEq,WV,aK (show i<9223372036854775807 by omega)]
  refine aI (i+1,.osl q 4 0 (gR g.1++[(⟨[109]++bO i,(1+x.1:Nat),(1+y.1:Nat),(z.1:Nat)⟩:cT).cells]).length,_) ⟨hlt,?_⟩ (by simp only; omega) ?_ PH.le_refl
  ·rw[hstep]
   have e:gR (g.1++[⟨[109]++bO i,(1+x.1:Nat),(1+y.1:Nat),(z.1:Nat)⟩])=gR g.1++[(⟨[109]++bO i,(1+x.1:Nat),(1+y.1:Nat),(z.1:Nat)⟩:cT).cells]:=by simp[gR]
   simp only
   rw[e]
   exact h6
  ·(repeat' (first|exact PF.nil_le|refine PF.aA ?_ ?_))<;>first|(simp -implicitDefEqProofs only[go_sem,γ,reduceCtorEq]<;>rfl)|rfl
 ·have hlt':¬ (i:Int)<(n:Nat):=by omega
  have:i=n:=by omega
  subst this
  simp -implicitDefEqProofs only[go_sem,hlt']
  exact hK w2 _ _ (NA rfl rfl rfl rfl rfl) rfl hH
end Go.PM
namespace Go.PM
open Go Go.Na
abbrev tH (x:cG) (w:PV):List PV:=[.str x.name,.int .i64 x.k,.int .i64 x.m,.int .i64 x.quorum,.int .i64 x.s0,.int .i64 x.s1,.int .i64 x.s2,.int .i64 x.s3,.int .i64 x.s4,w,frs x.repair,
 .bool x.target.neg,aF x.target.num,aF x.target.den,.bool x.horizon.neg,aF x.horizon.num,aF x.horizon.den]
def abX (E:FE) (mc n i:Nat):PF:=(((eR E).set 11 (.int .i64 mc)).set 13 (.int .i64 n)).set 14 (.int .i64 i)
structure PAt (E:FE) (mc n i:Nat) (F:PF):Prop where
 f0:F 0=some (.ptr E.o 2 0 0)
 f1:F 1=some (.int .i64 E.drives)
 f2:F 2=some (.int .i64 E.volumes)
 f6:F 6=some (.ptr E.o6 7 0 0)
 f7:F 7=some (.ptr E.o7 7 0 0)
 f11:F 11=some (.int .i64 mc)
 f13:F 13=some (.int .i64 n)
 f14:F 14=some (.int .i64 i)
def nS (l:List Nat) (a:Nat):Nat→List Int × Nat
 | 0=>([],a)
 | j+1=>let s:=nS l a j
  let t:=fN l s.2
  (s.1++[t.1],t.2)
theorem qU (l:List Nat) {a:Nat} (h:a≤l.length):(fN l a).2≤l.length:=by
 unfold fN
 simp only
 split
 ·exact bC l 3 (bC l 3 h)
 ·exact bC l 3 h
theorem adD (l:List Nat) {a:Nat} (h:a≤l.length):∀ j,(nS l a j).2≤l.length∧(nS l a j).1.length=j
 | 0=>⟨h,rfl⟩
 | j+1=>by
  obtain⟨h1,h2⟩:=adD l h j
  exact⟨qU l h1,by simp only[nS,bgW,bhA,h2]⟩
abbrev nP (pre post:List PV) (s:List Int):List PV:=pre++(s.map fun x=>PV.int .i64 x)++bgV (4-s.length) (.int .i64 0)++post
theorem a2L {pre post:List PV} {s:List Int} (hp:pre.length=5) (hs:s.length<4) (x:Int):(nP pre post s).set (5+s.length) (.int .i64 x)=nP pre post (s++[x]):=by
 obtain⟨k,hk⟩:∃ k,4-s.length=k+1:=⟨3-s.length,by omega⟩
 unfold nP
 rw[bgW,bhA,show 4-(s.length+1)=k by omega,hk,List.replicate_succ,biS,biC,biV]
 rw[List.set_append_left _ _ (by simp[hp]),bjR _ _ (by simp[hp])]
 have:5+s.length-(pre++s.map fun x=>PV.int .i64 x).length=0:=by simp[hp]
 rw[this,List.set_cons_zero]
 simp
theorem aWW {pre post:List PV} {s:List Int} (hp:pre.length=5) (hs:s.length<4):nP pre post s=nP pre post (s++[0]):=by
 obtain⟨k,hk⟩:∃ k,4-s.length=k+1:=⟨3-s.length,by omega⟩
 unfold nP
 rw[bgW,bhA,show 4-(s.length+1)=k by omega,hk,List.replicate_succ,biS,biC,biV]
 simp
theorem aKW {C:Ctx} (Lb:kN C) {l:List Nat} {v:PV} (T:Tp l v) (E:FE) (mc n i a p:Nat) (ha:a≤l.length) (B:List BX) (L:List LI) (pre post:List PV) (hpre:pre.length=5) (hpost:post.length=8) (K:bZ) (F:PF) (H:PH)
  (hF:PAt E mc n i F) (f15:F 15=some (.ptr p 17 0 0)) (f16:F 16=some (.int .i64 1)) (hH:aP H ((E.o,aS v a)::B++[(p,.rows 17 [nP pre post []])]) L)
  (hK:∀ F' H',PAt E mc n i F'→F' 15=some (.ptr p 17 0 0)→aP H' ((E.o,aS v (nS l a 4).2)::B++[(p,.rows 17 [nP pre post (nS l a 4).1])]) L→K (.exit 6) F' H') :
  aD.wp C (.loop tM) K F H:=by
 refine wp_loop (α:=Nat × PH) (fun t=>((abX E mc n i).set 15 (.ptr p 17 0 0)).set 16 (.int .i64 (t.1+1:Nat))) (fun t=>t.2) (fun t=>t.1≤4∧aP t.2 ((E.o,aS v (nS l a t.1).2)::B++[(p,.rows 17 [nP pre post (nS l a t.1).1])]) L) (fun t=>4-t.1) (0,H) ⟨bhE _,hH⟩ ?_ PH.le_refl ?_
 ·unfold abX eR
  (repeat' (first|exact PF.nil_le|refine PF.aA ?_ ?_))<;>first|(simp -implicitDefEqProofs only[go_sem,hF.f0,hF.f1,hF.f2,hF.f6,hF.f7,hF.f11,hF.f13,hF.f14,f15,f16]<;>rfl)|rfl
 rintro⟨j,H0⟩ ⟨hj,hH⟩
 simp only at hj hH ⊢
 obtain⟨k1,k2⟩:=adD l ha j
 have hstep:nS l a (j+1)=((nS l a j).1++[(fN l (nS l a j).2).1],(fN l (nS l a j).2).2):=rfl
 simp -implicitDefEqProofs only[go_sem,γ,reduceCtorEq,tM,XB,abX,eR]
 by_cases hlt:j<4
 ·generalize hg:nS l a j=g at *
  have ei:=aK (show j+1<9223372036854775807 by omega)
  simp -implicitDefEqProofs only[go_sem,reduceCtorEq,show ((j+1:Nat):Int)<5 by omega,XC]
  refine cD Lb.topN T (o:=E.o) (n:=3) (a:=g.2) (by decide) k1 (by simp -implicitDefEqProofs only[go_sem,γ,reduceCtorEq]; rfl) (hH.at 0 rfl) ?_
  have h1:aP _ ((E.o,aS v (aC l 3 g.2).2)::B++[(p,.rows 17 [nP pre post g.1])]) L:=hH.set 0 rfl (aS v (aC l 3 g.2).2)
  by_cases c:(aC l 3 g.2).1=0
  ·have hs:fN l g.2=(((1+(aC l 3 (aC l 3 g.2).2).1:Nat):Int),(aC l 3 (aC l 3 g.2).2).2):=by unfold fN; simp only[c,if_true]
   have n2:=bM l (show 0<3 by decide) (aC l 3 g.2).2
   have e2:IntKind.i64.wrap (1+((aC l 3 (aC l 3 g.2).2).1:Int))=((1+(aC l 3 (aC l 3 g.2).2).1:Nat):Int):=by rw[wrap_i64 (by omega) (by omega)]; omega
   simp -implicitDefEqProofs only[go_sem,γ,reduceCtorEq,bS (show (((aC l 3 g.2).1:Nat):Int)=0 by omega),XD]
   refine cD Lb.topN T (o:=E.o) (n:=3) (a:=(aC l 3 g.2).2) (by decide) (bC l 3 k1) (by simp -implicitDefEqProofs only[go_sem,γ,reduceCtorEq]; rfl) (h1.at 0 rfl) ?_
   have h2:aP _ ((E.o,aS v (aC l 3 (aC l 3 g.2).2).2)::B++[(p,.rows 17 [nP pre post g.1])]) L:=h1.set 0 rfl (aS v (aC l 3 (aC l 3 g.2).2).2)
   have bp:=h2.GZ
   rw[PH.set_set] at bp h2
   have hpo:¬ p=E.o:=fun h=>by
    have hnd:=h2.ndB
    simp[dS,h] at hnd
   simp only[aV,if_neg hpo] at bp
   have hj5:((j+1:Nat):Int)<((5:Nat):Int):=by omega
   have h0j:(0:Int)≤((j+1:Nat):Int):=by omega
   have hlen:(nP pre post g.1).length=17:=by simp[nP,hpre,hpost,k2]; omega
   have hset:=a2L (pre:=pre) (post:=post) (s:=g.1) hpre (by omega) ((1+(aC l 3 (aC l 3 g.2).2).1:Nat):Int)
   rw[k2] at hset
   have hidx:4+(j+1)*1=5+j:=by omega
   have hle17:5+j+1≤17:=by omega
   simp -implicitDefEqProofs only[go_sem,γ,reduceCtorEq,e2,hj5,h0j,hidx,hpo,bp,hle17,bhF,bhM,or_false,forall_eq,hset,DP,ei]
   refine aI (j+1,_) ⟨hlt,?_⟩ (by simp only; omega) ?_ PH.le_refl
   ·rw[hstep,hs]
    exact h2.adA _
   ·(repeat' (first|exact PF.nil_le|refine PF.aA ?_ ?_))<;>first|(simp -implicitDefEqProofs only[go_sem,γ,reduceCtorEq]<;>rfl)|rfl
  ·have hs:fN l g.2=(0,(aC l 3 g.2).2):=by unfold fN; simp only[c,if_false]
   simp -implicitDefEqProofs only[go_sem,γ,reduceCtorEq,bF (show ¬ (((aC l 3 g.2).1:Nat):Int)=0 by omega),DP,ei]
   refine aI (j+1,_) ⟨hlt,?_⟩ (by simp only; omega) ?_ PH.le_refl
   ·rw[aWW (pre:=pre) (post:=post) (s:=g.1) hpre (by omega)] at h1
    rw[hstep,hs]
    exact h1
   ·(repeat' (first|exact PF.nil_le|refine PF.aA ?_ ?_))<;>first|(simp -implicitDefEqProofs only[go_sem,γ,reduceCtorEq]<;>rfl)|rfl
 ·have:j=4:=by omega
  subst this
  simp -implicitDefEqProofs only[go_sem,δ,ε,show ¬ ((4+1:Nat):Int)<5 by decide]
  exact hK _ _ ⟨by simp -implicitDefEqProofs only[go_sem,reduceCtorEq],by simp -implicitDefEqProofs only[go_sem,γ,reduceCtorEq],by simp -implicitDefEqProofs only[go_sem,γ,reduceCtorEq],by simp -implicitDefEqProofs only[go_sem,γ,reduceCtorEq],by simp -implicitDefEqProofs only[go_sem,γ,reduceCtorEq],by simp -implicitDefEqProofs only[go_sem,γ,reduceCtorEq],by simp -implicitDefEqProofs only[go_sem,γ,reduceCtorEq],by simp -implicitDefEqProofs only[go_sem,γ,reduceCtorEq]⟩ (by simp -implicitDefEqProofs only[go_sem,γ,reduceCtorEq]) hH
end Go.PM
namespace Go.PM
open Go Go.Na
theorem aP.mH {E:FE} {v ext w1 w2 w3 w4 w5 w6:PV} {a:Nat} {H:PH} {B:List BX} {L:List LI} (h:aP H (E.boxes v ext w1 w2 w3 w4 w5 w6 a++B) L) (b:Nat):aP (H.set E.o (aS v b)) (E.boxes v ext w1 w2 w3 w4 w5 w6 b++B) L:=h.set 0 rfl _
abbrev TR (s:List UInt8) (k m q:Int) (w r t1 t2 t3:PV) (h:RF):List PV:=[.str s,.int .i64 k,.int .i64 m,.int .i64 q,.int .i64 0,.int .i64 0,.int .i64 0,.int .i64 0,.int .i64 0,w,r,t1,t2,t3,.bool h.neg,aF h.num,aF h.den]
theorem aVM {C : Ctx} (Lb : kN C) {l : List Nat} {v : PV} (T : Tp l v) (E : FE) (mc n i a : Nat) (ha : a ≤ l.length) (hi : i < 50) (ext w1 w2 w3 w4 w5 w6 : PV) (L : List LI) (rest : aD) (K : bZ) (F : PF) (H : PH)
    (hF : PAt E mc n i F) (hH : aP H (E.boxes v ext w1 w2 w3 w4 w5 w6 a) L)
    (hK : ∀ p F' H', PAt E mc n i F' → F' 15 = some (.ptr p 17 0 0) →
      (let k := aC l 2 a; let m := aC l 3 k.2; let h := aC l 4 m.2; let q := aC l (m.1 + 1) h.2; let r := gY l q.2 (max m.1 1); let g := aC l 9 r.2
       aP H' (E.boxes v ext w1 w2 w3 w4 w5 w6 g.2 ++ [(p, .rows 17 [nP [.str ([112] ++ bO i), .int .i64 (1 + k.1 : Nat), .int .i64 (m.1 : Nat), .int .i64 (1 + k.1 + q.1 : Nat), .int .i64 0]
        ([.nils, frs r.1] ++ (mkT (g.1 : Nat) 8).cells ++ (mkT ((1 + h.1 : Nat) : Int) 1).cells) []])]) L) → aD.wp C rest K F' H') :
    aD.wp C (.seq (.region DN) (.seq (.seq (.draw tN) (.draw tO)) (.seq (.region tP) (.seq (.region tQ) rest)))) K F H := by
  obtain ⟨f0, f1, f2, f6, f7, f11, f13, f14⟩ := hF
  have nk := bM l (show 0 < 2 by decide) a
  have ak := bC l 2 ha
  have nm := bM l (show 0 < 3 by decide) (aC l 2 a).2
  have am := bC l 3 ak
  simp only at hK
  generalize hk : aC l 2 a = k at *
  generalize hm : aC l 3 k.2 = m at *
  have nh := bM l (show 0 < 4 by decide) m.2
  have ah := bC l 4 am
  generalize hh : aC l 4 m.2 = h at *
  have nq := bM l (show 0 < m.1 + 1 by omega) h.2
  have aq := bC l (m.1 + 1) ah
  generalize hq : aC l (m.1 + 1) h.2 = q at *
  have ar := BG l aq (max m.1 1)
  generalize hr : gY l q.2 (max m.1 1) = r at *
  have ng := bM l (show 0 < 9 by decide) r.2
  have ag := bC l 9 ar
  generalize hg : aC l 9 r.2 = g at *
  have ek : IntKind.i64.wrap (1 + (k.1 : Int)) = ((1 + k.1 : Nat) : Int) := by rw [wrap_i64 (by omega) (by omega)]; omega
  have eh : IntKind.i64.wrap (1 + (h.1 : Int)) = ((1 + h.1 : Nat) : Int) := by rw [wrap_i64 (by omega) (by omega)]; omega
  have em : IntKind.i64.wrap ((m.1 : Int) + 1) = ((m.1 + 1 : Nat) : Int) := aK (by omega)
  have eq' : IntKind.i64.wrap (((1 + k.1 : Nat) : Int) + (q.1 : Int)) = ((1 + k.1 + q.1 : Nat) : Int) := by rw [wrap_i64 (by omega) (by omega)]; omega
  have h0 : aP H (E.boxes v ext w1 w2 w3 w4 w5 w6 a ++ []) L := by rw [biN]; exact hH
  simp -implicitDefEqProofs only[go_sem,DN,f14]
  refine aB (Lb.name [112] i (by decide) (by omega)) rfl ?_
  simp -implicitDefEqProofs only[go_sem,reduceCtorEq,f0]
  refine cD Lb.topN T (o := E.o) (n := 2) (a := a) (by decide) ha rfl (h0.at 0 rfl) ?_
  have g1 := h0.mH k.2
  rw [hk]
  simp -implicitDefEqProofs only[go_sem,γ,reduceCtorEq,ek,f0]
  refine cD Lb.topN T (o := E.o) (n := 3) (a := k.2) (by decide) ak rfl (g1.at 0 rfl) ?_
  have g2 := g1.mH m.2
  rw [hm]
  rw [PH.set_set] at g2
  simp -implicitDefEqProofs only[go_sem,reduceCtorEq,f0]
  refine cD Lb.topN T (o := E.o) (n := 4) (a := m.2) (by decide) am rfl (g2.at 0 rfl) ?_
  have g3 := g2.mH h.2
  rw [hh]
  rw [PH.set_set] at g3
  simp -implicitDefEqProofs only[go_sem,γ,eh]
  refine aB (Lb.int ((1 + h.1 : Nat) : Int) (by unfold dV; omega)) rfl ?_
  simp -implicitDefEqProofs only[go_sem,δ,γ,θ,bhF,bhM,or_false,forall_eq,forall_eq_or_imp]
  refine aQ fun p hp => ?_
  have g4 := g3.new hp (.rows 17 [TR ([112] ++ bO i) (1 + k.1 : Nat) (m.1 : Nat) 0 .nils .nils (.bool false) .nils .nils (mkT ((1 + h.1 : Nat) : Int) 1)])
  have hpo : ¬ p = E.o := g4.ne 3 0 rfl rfl (by decide)
  have hop : ¬ E.o = p := fun e => hpo e.symm
  have q2 : ∀ (F2 : PF) (H2 : PH), PAt E mc n i F2 → F2 15 = some (.ptr p 17 0 0) → aP H2 (E.boxes v ext w1 w2 w3 w4 w5 w6 h.2 ++ [(p, .rows 17 [TR ([112] ++ bO i) (1 + k.1 : Nat) (m.1 : Nat) 0 .nils .nils (.bool false) .nils .nils (mkT ((1 + h.1 : Nat) : Int) 1)])]) L →
      aD.wp C (.seq (.seq (.draw tN) (.draw tO)) (.seq (.region tP) (.seq (.region tQ) rest))) K F2 H2 := by
    intro F2 H2 hF2 f15 hH2
    obtain ⟨f0, f1, f2, f6, f7, f11, f13, f14⟩ := hF2
    have bp := hH2.at 3 rfl
    have hHs : (PH.nil.set p (.rows 17 [TR ([112] ++ bO i) (1 + k.1 : Nat) (m.1 : Nat) 0 .nils .nils (.bool false) .nils .nils (mkT ((1 + h.1 : Nat) : Int) 1)])).le H2 := PH.aA PH.nil_le bp
    simp -implicitDefEqProofs only[go_sem]
    refine cA _ (mkS l v) hHs ?_
    simp -implicitDefEqProofs only[go_sem,δ,γ,θ,reduceCtorEq,tN,f15,bp,em,f0]
    refine oJ Lb.topN T (o := E.o) (n := m.1 + 1) (a := h.2) (by omega) ah rfl (hH2.at 0 rfl) ?_ ?_
    · rw [hq]; exact PH.aA PH.nil_le ((hH2.mH q.2).at 3 rfl)
    rw [hq]
    have g5 := hH2.mH q.2
    simp -implicitDefEqProofs only[go_sem,γ,eq',f15]
    refine cA .nil dU PH.nil_le ?_
    simp -implicitDefEqProofs only[go_sem,δ,γ,θ,tO,hpo,bp]
    refine ⟨PH.nil_le, ?_⟩
    have g6 : aP _ (E.boxes v ext w1 w2 w3 w4 w5 w6 q.2 ++ [(p, .rows 17 [TR ([112] ++ bO i) (1 + k.1 : Nat) (m.1 : Nat) (1 + k.1 + q.1 : Nat) .nils .nils (.bool false) .nils .nils (mkT ((1 + h.1 : Nat) : Int) 1)])]) L := g5.set 3 rfl (.rows 17 [TR ([112] ++ bO i) (1 + k.1 : Nat) (m.1 : Nat) (1 + k.1 + q.1 : Nat) .nils .nils (.bool false) .nils .nils (mkT ((1 + h.1 : Nat) : Int) 1)])
    have bq := g6.at 3 rfl
    simp -implicitDefEqProofs only[go_sem,δ,γ,θ,reduceCtorEq,tP,f0,f15]
    refine fW (Lb.rep l v T E.o q.2 m.1 (by omega) aq) (g6.at 0 rfl) rfl ?_
    have g7 := g6.mH r.2
    rw [hr]
    simp -implicitDefEqProofs only[go_sem,δ,γ,θ,hpo,f15]
    have g8 : aP _ (E.boxes v ext w1 w2 w3 w4 w5 w6 r.2 ++ [(p, .rows 17 [TR ([112] ++ bO i) (1 + k.1 : Nat) (m.1 : Nat) (1 + k.1 + q.1 : Nat) .nils (frs r.1) (.bool false) .nils .nils (mkT ((1 + h.1 : Nat) : Int) 1)])]) L := g7.set 3 rfl (.rows 17 [TR ([112] ++ bO i) (1 + k.1 : Nat) (m.1 : Nat) (1 + k.1 + q.1 : Nat) .nils (frs r.1) (.bool false) .nils .nils (mkT ((1 + h.1 : Nat) : Int) 1)])
    simp -implicitDefEqProofs only[go_sem,reduceCtorEq,tQ,f0]
    refine cD Lb.topN T (o := E.o) (n := 9) (a := r.2) (by decide) ar rfl (g8.at 0 rfl) ?_
    have g9 := g8.mH g.2
    rw [hg]
    simp -implicitDefEqProofs only[go_sem]
    refine aB (Lb.fmk (g.1 : Int) 8 (by unfold dV; omega) (by unfold dV; omega)) rfl ?_
    unfold sZ
    rw [if_neg (by decide)]
    simp -implicitDefEqProofs only[go_sem,δ,γ,θ,f15,hpo]
    have g10 := g9.set 3 rfl (.rows 17 [nP [.str ([112] ++ bO i), .int .i64 (1 + k.1 : Nat), .int .i64 (m.1 : Nat), .int .i64 (1 + k.1 + q.1 : Nat), .int .i64 0]
        ([.nils, frs r.1] ++ (mkT (g.1 : Nat) 8).cells ++ (mkT ((1 + h.1 : Nat) : Int) 1).cells) []])
    refine hK p _ _ ⟨by simp -implicitDefEqProofs only[go_sem,reduceCtorEq,f0], by simp -implicitDefEqProofs only[go_sem,γ,f1], by simp -implicitDefEqProofs only[go_sem,γ,f2], by simp -implicitDefEqProofs only[go_sem,γ,f6], by simp -implicitDefEqProofs only[go_sem,γ,f7], by simp -implicitDefEqProofs only[go_sem,γ,f11], by simp -implicitDefEqProofs only[go_sem,γ,f13], by simp -implicitDefEqProofs only[go_sem,γ,f14]⟩ (by simp -implicitDefEqProofs only[go_sem,γ,f15]) g10
  simp only [aD.wp, go_sem] at q2
  simp -implicitDefEqProofs only[go_sem,δ,γ,bhF,bhM,or_false,forall_eq,forall_eq_or_imp]
  exact q2 _ _ ⟨by simp -implicitDefEqProofs only[go_sem,reduceCtorEq,f0], by simp -implicitDefEqProofs only[go_sem,γ,f1], by simp -implicitDefEqProofs only[go_sem,γ,f2], by simp -implicitDefEqProofs only[go_sem,γ,f6], by simp -implicitDefEqProofs only[go_sem,γ,f7], by simp -implicitDefEqProofs only[go_sem,γ,f11], by simp -implicitDefEqProofs only[go_sem,γ,f13], by simp -implicitDefEqProofs only[go_sem,γ,f14]⟩ rfl g4
end Go.PM
namespace Go.PM
open Go Go.Na
abbrev FE.lists (w1 w2 w3 w4 w5:PV) (lw:List cM) (md:List cT) (dm:List cK) (dv:List cQ) (pr:List (List PV)):List LI:=[(w1,4,fV lw),(w2,4,gR md),(w3,7,gV dm),(w4,3,jY dv),(w5,17,pr)]
theorem aVN {C:Ctx} (Lb:kN C) {l:List Nat} {v:PV} (T:Tp l v) (E:FE) (mc n i a:Nat) (ha:a≤l.length) (hmc:0<mc) (hmc2:mc≤50) (ext w1 w2 w3 w4 w5:PV) (lw:List cM) (md:List cT) (dm:List cK) (dv:List cQ) (pr:List (List PV)) (hpr:pr.length≤50)
  (s:List UInt8) (k m q:Int) (r t h:RF) (rl:List RF) (p:Nat) (K:bZ) (F:PF) (H:PH)
  (hF:PAt E mc n i F) (f15:F 15=some (.ptr p 17 0 0))
  (hH:aP H (E.boxes v ext w1 w2 w3 w4 w5 .nils a++[(p,.rows 17 [nP [.str s,.int .i64 k,.int .i64 m,.int .i64 q,.int .i64 0] ([.nils,frs rl]++t.cells++h.cells) []])]) (FE.lists w1 w2 w3 w4 w5 lw md dm dv pr))
  (hK:(let sp:=nS l a 4; let f:=aC l mc sp.2; let b:=aC l 2 f.2
   let ms:List Int × Nat:=if 1<mc then (if b.1=0 then ([(f.1:Int),1-(f.1:Int)],b.2) else ([(f.1:Int)],b.2)) else ([(f.1:Int)],f.2)
   ∀ (w w5':PV) (F':PF) (H':PH) (B':List BX),PAt E mc n i F'→(∃ o,w=.osl o 1 0 ms.1.length)→aP H' (E.boxes v ext w1 w2 w3 w4 w5' .nils ms.2++B')
    (FE.lists w1 w2 w3 w4 w5' lw md dm dv (pr++[tH ⟨s,k,m,q,0,(sp.1.getD 0 0),(sp.1.getD 1 0),(sp.1.getD 2 0),(sp.1.getD 3 0),ms.1,rl,t,h⟩ w])++[(w,1,cL ms.1)])→K .normal F' H')) :
  aD.wp C (.seq (.seq (.region DO) (.block 6 (.loop tM))) (.seq (.region DQ) (.seq (.region DR) (.seq (.seq (.region DS) (.cond (.tmp 143) (.region DT) .skip)) (.region tR))))) K F H:=by
 obtain⟨f0,f1,f2,f6,f7,f11,f13,f14⟩:=hF
 simp -implicitDefEqProofs only[go_sem,DO]
 refine aKW (C:=C) Lb T E mc n i a p ha [(E.o7,flB ext w1 w2 w3 w4 w5 .nils),(E.o6,flZ)] _ _ _ rfl rfl _ _ H ⟨by simp -implicitDefEqProofs only[go_sem,reduceCtorEq,f0],by simp -implicitDefEqProofs only[go_sem,γ,f1],by simp -implicitDefEqProofs only[go_sem,γ,f2],by simp -implicitDefEqProofs only[go_sem,γ,f6],by simp -implicitDefEqProofs only[go_sem,γ,f7],by simp -implicitDefEqProofs only[go_sem,γ,f11],by simp -implicitDefEqProofs only[go_sem,γ,f13],by simp -implicitDefEqProofs only[go_sem,γ,f14]⟩ (by simp -implicitDefEqProofs only[go_sem,γ,f15]) rfl hH ?_
 clear f0 f1 f2 f6 f7 f11 f13 f14 f15 hH
 intro F1 H1 hF1 f15 hH1
 obtain⟨f0,f1,f2,f6,f7,f11,f13,f14⟩:=hF1
 obtain⟨as',ls⟩:=adD l ha 4
 have hsp:∃ x1 x2 x3 x4,(nS l a 4).1=[x1,x2,x3,x4]:=⟨_,_,_,_,rfl⟩
 simp only at hK
 generalize hspg:nS l a 4=sp at *
 obtain⟨x1,x2,x3,x4,hx⟩:=hsp
 rw[hx] at hK hH1
 replace hH1:aP H1 (E.boxes v ext w1 w2 w3 w4 w5 .nils sp.2++[(p,.rows 17 [tH ⟨s,k,m,q,0,x1,x2,x3,x4,[],rl,t,h⟩ .nils])]) (FE.lists w1 w2 w3 w4 w5 lw md dm dv pr):=hH1
 have nf:=bM l hmc sp.2
 have af:=bC l mc as'
 generalize hf:aC l mc sp.2=f at *
 have ab:=bC l 2 af
 generalize hb:aC l 2 f.2=b at *
 have hpo:¬ p=E.o:=hH1.ne 3 0 rfl rfl (by decide)
 have hp7:¬ p=E.o7:=hH1.ne 3 1 rfl rfl (by decide)
 have h7p:¬ E.o7=p:=fun e=>hp7 e.symm
 have h7o:¬ E.o7=E.o:=hH1.ne 1 0 rfl rfl (by decide)
 simp -implicitDefEqProofs only[go_sem,γ,DQ,f0,f11]
 refine cD Lb.topN T (o:=E.o) (n:=mc) (a:=sp.2) (by omega) as' rfl (hH1.at 0 rfl) ?_
 have h2:=hH1.set 0 rfl (aS v f.2)
 rw[hf]
 simp -implicitDefEqProofs only[go_sem,υ,γ,η,θ,ζ,DR]
 refine aQ fun o ho=>?_
 have h3:=h2.a4W (s:=1) (rows:=cL [(f.1:Int)]) ho
 have b3:=h3.at 3 rfl
 have ob:¬ p=o:=h3.neL 3 5 rfl rfl rfl
 have o7b:¬ E.o7=o:=h3.neL 1 5 rfl rfl rfl
 have oob:¬ E.o=o:=h3.neL 0 5 rfl rfl rfl
 simp only[aV,if_neg ob,if_neg hpo] at b3
 simp -implicitDefEqProofs only[go_sem,δ,γ,θ,f15,ob,hpo,b3,bhF,bhM,or_false,forall_eq]
 have h4:=h3.set 3 rfl (.rows 17 [tH ⟨s,k,m,q,0,x1,x2,x3,x4,[],rl,t,h⟩ (.osl o 1 0 1)])
 have fin:∀ (w:PV) (ms:List Int) (a':Nat) (F':PF) (H':PH),PAt E mc n i F'→F' 15=some (.ptr p 17 0 0)→(∃ o,w=.osl o 1 0 ms.length) →
   aP H' (E.boxes v ext w1 w2 w3 w4 w5 .nils a'++[(p,.rows 17 [tH ⟨s,k,m,q,0,x1,x2,x3,x4,ms,rl,t,h⟩ w])]) (FE.lists w1 w2 w3 w4 w5 lw md dm dv pr++[(w,1,cL ms)]) →
   (∀ (w5':PV) (F2:PF) (H2:PH),PAt E mc n i F2→aP H2 (E.boxes v ext w1 w2 w3 w4 w5' .nils a'++[(p,.rows 17 [tH ⟨s,k,m,q,0,x1,x2,x3,x4,ms,rl,t,h⟩ w])]) (FE.lists w1 w2 w3 w4 w5' lw md dm dv (pr++[tH ⟨s,k,m,q,0,x1,x2,x3,x4,ms,rl,t,h⟩ w])++[(w,1,cL ms)])→K .normal F2 H2) →
   wpOps C tR (K .normal) F' H':=by
  intro w ms a' F' H' hF' f15 hw hH' hK'
  obtain⟨wo,rfl⟩:=hw
  obtain⟨f0,f1,f2,f6,f7,f11,f13,f14⟩:=hF'
  have c1:=hH'.at 1 rfl
  have c3:=hH'.at 3 rfl
  have h17:(1:Nat)*17≤16777216:=by decide
  simp -implicitDefEqProofs only[go_sem,υ,δ,γ,η,θ,ζ,tR,f7,f15,c1,c3,h17,bhF,bhM,or_false,forall_eq,forall_eq_or_imp]
  refine hH'.append 4 (src:=[tH ⟨s,k,m,q,0,x1,x2,x3,x4,ms,rl,t,h⟩ (.osl wo 1 0 ms.length)]) rfl rfl (by unfold roomFor; simp only[bhA,maxLen]; omega) fun w5' H2 h5 hw5=>?_
  obtain⟨q5,rfl⟩:=hw5 (by simp)
  have c2:=h5.at 1 rfl
  simp -implicitDefEqProofs only[go_sem,δ,θ,c2,bhF,bhM,or_false,forall_eq]
  exact hK' _ _ _ ⟨by simp -implicitDefEqProofs only[go_sem,reduceCtorEq,f0],by simp -implicitDefEqProofs only[go_sem,γ,f1],by simp -implicitDefEqProofs only[go_sem,γ,f2],by simp -implicitDefEqProofs only[go_sem,γ,f6],by simp -implicitDefEqProofs only[go_sem,γ,f7],by simp -implicitDefEqProofs only[go_sem,γ,f11],by simp -implicitDefEqProofs only[go_sem,γ,f13],by simp -implicitDefEqProofs only[go_sem,γ,f14]⟩ (h5.set 1 rfl (flB ext w1 w2 w3 w4 _ .nils))
 simp -implicitDefEqProofs only[go_sem,γ,DS,f11]
 by_cases c:1<mc
 ·have c':(mc:Int)>1:=by omega
  simp -implicitDefEqProofs only[go_sem,γ,reduceCtorEq,c',f0]
  refine cD Lb.topN T (o:=E.o) (n:=2) (a:=f.2) (by decide) af rfl (h4.at 0 rfl) ?_
  have h5:=h4.set 0 rfl (aS v b.2)
  rw[hb]
  by_cases c2:b.1=0
  ·have c2':((b.1:Nat):Int)=0:=by omega
   rw[if_pos c,if_pos c2] at hK
   have e1:IntKind.i64.wrap (1-(f.1:Int))=1-(f.1:Int):=wrap_i64 (by omega) (by omega)
   have c3:=h5.at 3 rfl
   have h11:(1:Nat)*1≤16777216:=by decide
   simp -implicitDefEqProofs only[go_sem,υ,δ,γ,η,θ,ζ,bS c2',DT,f15,hpo,e1,h11]
   refine h5.append 5 (src:=[[.int .i64 (1-(f.1:Int))]]) rfl rfl (by unfold roomFor; simp only[cL,bgT,bhA,maxLen]; omega) fun w' H2 h6 hw=>?_
   obtain⟨q2,rfl⟩:=hw (by simp)
   have c4:=h6.at 3 rfl
   simp -implicitDefEqProofs only[go_sem,δ,θ,c4,f15,bhF,bhM,or_false,forall_eq]
   have h7:=h6.set 3 rfl (.rows 17 [tH ⟨s,k,m,q,0,x1,x2,x3,x4,[(f.1:Int),1-(f.1:Int)],rl,t,h⟩ (.osl q2 1 0 2)])
   exact fin (.osl q2 1 0 2) [(f.1:Int),1-(f.1:Int)] b.2 _ _ ⟨by simp -implicitDefEqProofs only[go_sem,reduceCtorEq,f0],by simp -implicitDefEqProofs only[go_sem,γ,f1],by simp -implicitDefEqProofs only[go_sem,γ,f2],by simp -implicitDefEqProofs only[go_sem,γ,f6],by simp -implicitDefEqProofs only[go_sem,γ,f7],by simp -implicitDefEqProofs only[go_sem,γ,f11],by simp -implicitDefEqProofs only[go_sem,γ,f13],by simp -implicitDefEqProofs only[go_sem,γ,f14]⟩ (by simp -implicitDefEqProofs only[go_sem,γ,f15]) ⟨q2,rfl⟩ h7 (fun w5' F2 H2 g1 g2=>hK _ w5' F2 H2 _ g1 ⟨q2,rfl⟩ g2)
  ·have c2':¬ ((b.1:Nat):Int)=0:=by omega
   rw[if_pos c,if_neg c2] at hK
   simp -implicitDefEqProofs only[go_sem,γ,bF c2']
   exact fin (.osl o 1 0 1) [(f.1:Int)] b.2 _ _ ⟨by simp -implicitDefEqProofs only[go_sem,reduceCtorEq,f0],by simp -implicitDefEqProofs only[go_sem,γ,f1],by simp -implicitDefEqProofs only[go_sem,γ,f2],by simp -implicitDefEqProofs only[go_sem,γ,f6],by simp -implicitDefEqProofs only[go_sem,γ,f7],by simp -implicitDefEqProofs only[go_sem,γ,f11],by simp -implicitDefEqProofs only[go_sem,γ,f13],by simp -implicitDefEqProofs only[go_sem,γ,f14]⟩ (by simp -implicitDefEqProofs only[go_sem,γ,f15]) ⟨o,rfl⟩ h5 (fun w5' F2 H2 g1 g2=>hK _ w5' F2 H2 _ g1 ⟨o,rfl⟩ g2)
 ·have c':¬ (mc:Int)>1:=by omega
  rw[if_neg c] at hK
  simp -implicitDefEqProofs only[go_sem,γ,reduceCtorEq,c']
  exact fin (.osl o 1 0 1) [(f.1:Int)] f.2 _ _ ⟨by simp -implicitDefEqProofs only[go_sem,reduceCtorEq,f0],by simp -implicitDefEqProofs only[go_sem,γ,f1],by simp -implicitDefEqProofs only[go_sem,γ,f2],by simp -implicitDefEqProofs only[go_sem,γ,f6],by simp -implicitDefEqProofs only[go_sem,γ,f7],by simp -implicitDefEqProofs only[go_sem,γ,f11],by simp -implicitDefEqProofs only[go_sem,γ,f13],by simp -implicitDefEqProofs only[go_sem,γ,f14]⟩ (by simp -implicitDefEqProofs only[go_sem,γ,f15]) ⟨o,rfl⟩ h4 (fun w5' F2 H2 g1 g2=>hK _ w5' F2 H2 _ g1 ⟨o,rfl⟩ g2)
end Go.PM
namespace Go.PM
open Go Go.Na
abbrev jR (l:List cG):List (List PV):=l.map cG.cells
abbrev lK (l:List fK):List (List PV):=l.map fK.cells
theorem lF {rows:List (List PV)} (h:∀ r∈rows,∀ c∈r,c.oid=none):Flat rows:=Flat.of fun r hr c hc q s rs=>VN (h r hr c hc) q s rs
theorem aEC (l:List cM):Flat (fV l):=lF fun r hr c hc=>by
 obtain⟨x,_,rfl⟩:=biA.1 hr
 simp only[cM.cells,bhF,bhM,or_false] at hc
 rcases hc with rfl | rfl | rfl | rfl<;>rfl
theorem aEE (l:List cT):Flat (gR l):=lF fun r hr c hc=>by
 obtain⟨x,_,rfl⟩:=biA.1 hr
 simp only[cT.cells,bhF,bhM,or_false] at hc
 rcases hc with rfl | rfl | rfl | rfl<;>rfl
theorem aBK (l:List cK):Flat (gV l):=lF fun r hr c hc=>by
 obtain⟨x,_,rfl⟩:=biA.1 hr
 simp only[cK.cells,bhF,bhM,or_false] at hc
 rcases hc with rfl | rfl | rfl | rfl | rfl | rfl | rfl<;>rfl
theorem aBM (l:List cQ):Flat (jY l):=lF fun r hr c hc=>by
 obtain⟨x,_,rfl⟩:=biA.1 hr
 simp only[cQ.cells,bhF,bhM,or_false] at hc
 rcases hc with rfl | rfl | rfl<;>rfl
theorem a3X (l:List fK):Flat (lK l):=lF fun r hr c hc=>by
 obtain⟨x,_,rfl⟩:=biA.1 hr
 simp only[fK.cells,bhF,bhM,or_false] at hc
 rcases hc with rfl | rfl<;>rfl
theorem aGR (l:List cG):Flat (jR l):=lF fun r hr c hc=>by
 obtain⟨x,_,rfl⟩:=biA.1 hr
 simp only[cG.cells,bhF,bhM,or_false] at hc
 rcases hc with rfl | rfl | rfl | rfl | rfl | rfl | rfl | rfl | rfl | rfl | rfl | rfl | rfl | rfl | rfl | rfl | rfl<;>rfl
theorem aLT (l:List Nat) (mc i:Nat) {a:Nat} (h:a≤l.length):(jV l mc i a).2≤l.length:=by
 have h1:=bC l 9 (BG l (bC l ((aC l 3 (aC l 2 a).2).1+1) (bC l 4 (bC l 3 (bC l 2 h)))) (max (aC l 3 (aC l 2 a).2).1 1))
 have h2:=bC l mc (qU l (qU l (qU l (qU l h1))))
 unfold jV
 simp only
 split
 ·split
  ·exact bC l 2 h2
  ·exact bC l 2 h2
 ·exact h2
theorem qQ (l:List Nat) (mc:Nat) {a:Nat} (h:a≤l.length):∀ k,(cV l mc a k).2≤l.length∧(cV l mc a k).1.length=k
 | 0=>⟨h,rfl⟩
 | k+1=>by
  obtain⟨h1,h2⟩:=qQ l mc h k
  exact⟨aLT l mc k h1,by simp only[cV,bgW,bhA,h2]⟩
theorem AN (l:List Nat) (pc:Nat) {a:Nat} (h:a≤l.length):∀ k,(dL l pc a k).2≤l.length∧(dL l pc a k).1.length=k
 | 0=>⟨h,rfl⟩
 | k+1=>by
  obtain⟨h1,h2⟩:=AN l pc h k
  exact⟨bC l pc h1,by simp only[dL,bgW,bhA,h2]⟩
theorem arR {C:Ctx} (Lb:kN C) {l:List Nat} {v:PV} (T:Tp l v) (E:FE) (mc n a:Nat) (hn:n≤10) (hmc:0<mc) (hmc2:mc≤50) (ha:a≤l.length) (x0:Int) (w1 w2 w3 w4:PV) (lw:List cM) (md:List cT) (dm:List cK) (dv:List cQ) (K:bZ) (F:PF) (H:PH)
  (hF:PAt E mc n 0 F) (hH:aP H (E.boxes v (.int .i64 x0) w1 w2 w3 w4 .nils .nils a) [(w1,4,fV lw),(w2,4,gR md),(w3,7,gV dm),(w4,3,jY dv)])
  (hK:∀ w5 F' H',(eR E).le F'→aP H' (E.boxes v (.int .i64 x0) w1 w2 w3 w4 w5 .nils (cV l mc a n).2) (FE.lists w1 w2 w3 w4 w5 lw md dm dv (jR (cV l mc a n).1))→K (.exit 4) F' H') :
  aD.wp C (.loop DL) K F H:=by
 refine wp_loop (α:=Nat × PV × PH) (fun t=>abX E mc n t.1) (fun t=>t.2.2) (fun t=>t.1≤n∧aP t.2.2 (E.boxes v (.int .i64 x0) w1 w2 w3 w4 t.2.1 .nils (cV l mc a t.1).2) (FE.lists w1 w2 w3 w4 t.2.1 lw md dm dv (jR (cV l mc a t.1).1))) (fun t=>n-t.1) (0,.nils,H) ⟨bhE _,hH.qL 17⟩ ?_ PH.le_refl ?_
 ·unfold abX eR
  (repeat' (first|exact PF.nil_le|refine PF.aA ?_ ?_))<;>first|(simp -implicitDefEqProofs only[go_sem,hF.f0,hF.f1,hF.f2,hF.f6,hF.f7,hF.f11,hF.f13,hF.f14]<;>rfl)|rfl
 rintro⟨i,w5,H0⟩ ⟨hi,hH⟩
 simp only at hi hH ⊢
 obtain⟨k1,k2⟩:=qQ l mc ha i
 have hstep:cV l mc a (i+1)=((cV l mc a i).1++[(jV l mc i (cV l mc a i).2).1],(jV l mc i (cV l mc a i).2).2):=rfl
 simp -implicitDefEqProofs only[go_sem,γ,reduceCtorEq,DL,XA,abX,eR]
 by_cases hlt:i<n
 ·have hlt':(i:Int)<(n:Nat):=by omega
  generalize hg:cV l mc a i=g at *
  simp -implicitDefEqProofs only[go_sem,hlt']
  refine aVM (C:=C) Lb T E mc n i g.2 k1 (by omega) (.int .i64 x0) w1 w2 w3 w4 w5 .nils _ _ _ _ H0 ⟨by simp -implicitDefEqProofs only[go_sem,reduceCtorEq],by simp -implicitDefEqProofs only[go_sem,γ,reduceCtorEq],by simp -implicitDefEqProofs only[go_sem,γ,reduceCtorEq],by simp -implicitDefEqProofs only[go_sem,γ,reduceCtorEq],by simp -implicitDefEqProofs only[go_sem,γ,reduceCtorEq],by simp -implicitDefEqProofs only[go_sem,γ,reduceCtorEq],by simp -implicitDefEqProofs only[go_sem,γ,reduceCtorEq],by simp -implicitDefEqProofs only[go_sem,γ,reduceCtorEq]⟩ hH ?_
  intro p F1 H1 hF1 f15 hH1
  simp only at hH1
  have hpT:jV l mc i g.2=_:=rfl
  have hgle:=bC l 9 (BG l (bC l ((aC l 3 (aC l 2 g.2).2).1+1) (bC l 4 (bC l 3 (bC l 2 k1)))) (max (aC l 3 (aC l 2 g.2).2).1 1))
  refine aVN (C:=C) Lb T E mc n i _ hgle hmc hmc2 (.int .i64 x0) w1 w2 w3 w4 w5 lw md dm dv _ (by rw[bgT,k2]; omega) _ _ _ _ (mkT 0 1) _ _ _ p _ F1 H1 hF1 f15 hH1 ?_
  intro sp f b ms w w5' F2 H2 B' hF2 hw hH2
  obtain⟨o,rfl⟩:=hw
  have hP:jV l mc i g.2=(⟨[112]++bO i,(1+(aC l 2 g.2).1:Nat),((aC l 3 (aC l 2 g.2).2).1:Nat),(1+(aC l 2 g.2).1+(aC l ((aC l 3 (aC l 2 g.2).2).1+1) (aC l 4 (aC l 3 (aC l 2 g.2).2).2).2).1:Nat),0,sp.1.getD 0 0,sp.1.getD 1 0,sp.1.getD 2 0,sp.1.getD 3 0,ms.1,(gY l (aC l ((aC l 3 (aC l 2 g.2).2).1+1) (aC l 4 (aC l 3 (aC l 2 g.2).2).2).2).2 (max (aC l 3 (aC l 2 g.2).2).1 1)).1,mkT ((aC l 9 (gY l (aC l ((aC l 3 (aC l 2 g.2).2).1+1) (aC l 4 (aC l 3 (aC l 2 g.2).2).2).2).2 (max (aC l 3 (aC l 2 g.2).2).1 1)).2).1:Nat) 8,mkT ((1+(aC l 4 (aC l 3 (aC l 2 g.2).2).2).1:Nat):Int) 1⟩,ms.2):=rfl
  rw[hP] at hstep
  generalize hPP:(⟨[112]++bO i,(1+(aC l 2 g.2).1:Nat),((aC l 3 (aC l 2 g.2).2).1:Nat),(1+(aC l 2 g.2).1+(aC l ((aC l 3 (aC l 2 g.2).2).1+1) (aC l 4 (aC l 3 (aC l 2 g.2).2).2).2).1:Nat),0,sp.1.getD 0 0,sp.1.getD 1 0,sp.1.getD 2 0,sp.1.getD 3 0,ms.1,(gY l (aC l ((aC l 3 (aC l 2 g.2).2).1+1) (aC l 4 (aC l 3 (aC l 2 g.2).2).2).2).2 (max (aC l 3 (aC l 2 g.2).2).1 1)).1,mkT ((aC l 9 (gY l (aC l ((aC l 3 (aC l 2 g.2).2).1+1) (aC l 4 (aC l 3 (aC l 2 g.2).2).2).2).2 (max (aC l 3 (aC l 2 g.2).2).1 1)).2).1:Nat) 8,mkT ((1+(aC l 4 (aC l 3 (aC l 2 g.2).2).2).1:Nat):Int) 1⟩:cG)=P at *
  have hPm:P.models=ms.1:=by rw[← hPP]
  obtain⟨rs,z1,z2,z3,z4,z5⟩:=hH2.frz 5 rfl
  have y1:=z4 0 _ (by decide) rfl
  have y2:=z4 1 _ (by decide) rfl
  have y3:=z4 2 _ (by decide) rfl
  have y4:=z4 3 _ (by decide) rfl
  have y5:=z4 4 _ (by decide) rfl
  simp only at y1 y2 y3 y4 y5
  have y0:=T.frz o 1 rs
  obtain⟨f0,f1,f2,f6,f7,f11,f13,f14⟩:=hF2
  simp -implicitDefEqProofs only[go_sem,γ,XE,f14,aK (show i<9223372036854775807 by omega)]
  refine IL (i+1,w5',H2.frz o 1 rs) z1 ⟨hlt,?_⟩ (by simp only; omega) ?_ PH.le_refl
  ·rw[hstep]
   have eB:(E.boxes v (.int .i64 x0) w1 w2 w3 w4 w5' .nils ms.2).map (fun b=>(b.1,b.2.frz o 1 rs))=E.boxes v (.int .i64 x0) w1 w2 w3 w4 w5' .nils ms.2:=by
    show [(E.o,bV.rows 2 [[PV.cX o 1 rs v,.int .i64 ms.2]]),(E.o7,bV.rows 7 [[.int .i64 x0,PV.cX o 1 rs w1,PV.cX o 1 rs w2,PV.cX o 1 rs w3,PV.cX o 1 rs w4,PV.cX o 1 rs w5',.nils]]),(E.o6,flZ)]=_
    rw[y0,y1,y2,y3,y4,y5]
   have e5:(jR g.1++[tH P (.osl o 1 0 ms.1.length)]).map (fun r=>r.map (PV.cX o 1 rs))=jR (g.1++[P]):=by
    rw[biS,aGR]
    have:([tH P (.osl o 1 0 ms.1.length)]:List (List PV)).map (fun r=>r.map (PV.cX o 1 rs))=[P.cells]:=by
     show [[PV.str P.name,.int .i64 P.k,.int .i64 P.m,.int .i64 P.quorum,.int .i64 P.s0,.int .i64 P.s1,.int .i64 P.s2,.int .i64 P.s3,.int .i64 P.s4,PV.cX o 1 rs (.osl o 1 0 ms.1.length),frs P.repair,.bool P.target.neg,aF P.target.num,aF P.target.den,.bool P.horizon.neg,aF P.horizon.num,aF P.horizon.den]]=_
     rw[z2,← hPm]
     rfl
    rw[this]
    simp[jR]
   have eL:(FE.lists w1 w2 w3 w4 w5' lw md dm dv (jR g.1++[tH P (.osl o 1 0 ms.1.length)])).map (fun x=>(x.1,x.2.1,x.2.2.map fun r=>r.map (PV.cX o 1 rs)))=FE.lists w1 w2 w3 w4 w5' lw md dm dv (jR (g.1++[P])):=by
    show [(w1,4,(fV lw).map _),(w2,4,(gR md).map _),(w3,7,(gV dm).map _),(w4,3,(jY dv).map _),(w5',17,(jR g.1++[tH P (.osl o 1 0 ms.1.length)]).map _)]=_
    rw[aEC,aEE,aBK,aBM,e5]
   rw[← eB,← eL]
   exact z5.sub (by rw[biS]; exact List.sublist_append_left ..) (biU.refl _)
  ·(repeat' (first|exact PF.nil_le|refine PF.aA ?_ ?_))<;>first|(simp -implicitDefEqProofs only[go_sem,γ,reduceCtorEq,f0,f1,f2,f6,f7,f11,f13]<;>rfl)|rfl
 ·have hlt':¬ (i:Int)<(n:Nat):=by omega
  have:i=n:=by omega
  subst this
  simp -implicitDefEqProofs only[go_sem,hlt']
  exact hK w5 _ _ (NA (by simp -implicitDefEqProofs only[go_sem,reduceCtorEq]) (by simp -implicitDefEqProofs only[go_sem,γ,reduceCtorEq]) (by simp -implicitDefEqProofs only[go_sem,γ,reduceCtorEq]) (by simp -implicitDefEqProofs only[go_sem,γ,reduceCtorEq]) (by simp -implicitDefEqProofs only[go_sem,γ,reduceCtorEq])) hH
end Go.PM
namespace Go.PM
open Go Go.Na
theorem aAK {C:Ctx} (Lb:kN C) {l:List Nat} {v:PV} (T:Tp l v) (E:FE) (pc n a:Nat) (hn:n≤60) (hpc:pc≤50) (ha:a≤l.length) (ext w1 w2 w3 w4 w5:PV) (pr:List cG) (hpr:pr.length=pc) (L:List LI) (K:bZ) (F:PF) (H:PH)
  (hF:(((eR E).set 18 (.int .i64 n)).set 19 (.int .i64 0)).le F) (hH:aP H (E.boxes v ext w1 w2 w3 w4 w5 .nils a) ((w5,17,jR pr)::L))
  (hK:∀ w6 F' H',(eR E).le F'→aP H' (E.boxes v ext w1 w2 w3 w4 w5 w6 (dL l pc a n).2) ((w5,17,jR pr)::L++[(w6,2,lK (dL l pc a n).1)])→K (.exit 8) F' H') :
  aD.wp C (.loop DM) K F H:=by
 refine wp_loop (α:=Nat × PV × PH) (fun t=>((eR E).set 18 (.int .i64 n)).set 19 (.int .i64 t.1)) (fun t=>t.2.2) (fun t=>t.1≤n∧aP t.2.2 (E.boxes v ext w1 w2 w3 w4 w5 t.2.1 (dL l pc a t.1).2) ((w5,17,jR pr)::L++[(t.2.1,2,lK (dL l pc a t.1).1)])) (fun t=>n-t.1) (0,.nils,H) ⟨bhE _,hH.qL 2⟩ hF PH.le_refl ?_
 rintro⟨i,w6,H0⟩ ⟨hi,hH⟩
 simp only at hi hH ⊢
 obtain⟨k1,k2⟩:=AN l pc ha i
 have hstep:dL l pc a (i+1)=((dL l pc a i).1++[⟨[118]++bO i,((aC l pc (dL l pc a i).2).1:Nat)⟩],(aC l pc (dL l pc a i).2).2):=rfl
 simp -implicitDefEqProofs only[go_sem,γ,reduceCtorEq,DM,XH,eR]
 by_cases hlt:i<n
 ·have hlt':(i:Int)<(n:Nat):=by omega
  generalize hg:dL l pc a i=g at *
  have h1:=hH.set 0 rfl (aS v (aC l pc g.2).2)
  generalize hz0:aC l pc g.2=z at *
  have b1:=hH.at 1 rfl
  have lw:=(hH.own 0 rfl).qG
  rw[bgT,hpr] at lw
  have hHs:(PH.nil.set E.o7 (flB ext w1 w2 w3 w4 w5 w6)).le H0:=PH.aA PH.nil_le b1
  simp -implicitDefEqProofs only[go_sem,hlt']
  refine cA (PH.nil.set E.o7 (flB ext w1 w2 w3 w4 w5 w6)) (mkS l v) hHs ?_
  simp -implicitDefEqProofs only[go_sem,δ,γ,reduceCtorEq,XI]
  refine BZ Lb.topO (s:=[118]) (n:=i) (by decide) (by omega) rfl hHs ?_
  simp -implicitDefEqProofs only[go_sem,δ,γ,θ,reduceCtorEq,lw]
  refine oJ Lb.topN T (o:=E.o) (n:=pc) (a:=g.2) (by omega) k1 rfl (hH.at 0 rfl) ?_ ?_
  ·rw[hz0]; exact PH.aA PH.nil_le (h1.at 1 rfl)
  rw[hz0]
  have h12:(1:Nat)*2≤16777216:=by decide
  simp -implicitDefEqProofs only[go_sem,υ,δ,γ,η,θ,ζ,reduceCtorEq,h12,bhF,bhM,or_false,forall_eq,forall_eq_or_imp]
  refine h1.append (v:=w6) (s:=2) (rows:=lK g.1) (L.length+1) (src:=[(⟨[118]++bO i,(z.1:Nat)⟩:fK).cells]) (by simp) rfl (by unfold roomFor; rw[bgT]; simp only[bhA,maxLen]; omega) fun w' H2 h5 hw=>?_
  obtain⟨q,rfl⟩:=hw (by simp)
  rw[show ((w5,17,jR pr)::L++[(w6,2,lK g.1)])=((w5,17,jR pr)::L)++[(w6,2,lK g.1)] from rfl,bjR _ _ (by simp),show L.length+1-((w5,17,jR pr)::L).length=0 by simp] at h5
  have b2:=h5.at 1 rfl
  refine⟨PH.aA PH.nil_le b2,?_⟩
  refine cA .nil dU PH.nil_le ?_
  simp -implicitDefEqProofs only[go_sem,δ,γ,reduceCtorEq,XJ,b2,bhF,bhM,or_false,forall_eq]
  have h6:=h5.set 1 rfl (flB ext w1 w2 w3 w4 w5 (.osl q 2 0 (lK g.1++[(⟨[118]++bO i,(z.1:Nat)⟩:fK).cells]).length))
  refine⟨PH.nil_le,?_⟩
  simp -implicitDefEqProofs only[go_sem,γ,reduceCtorEq,XK,aK (show i<9223372036854775807 by omega)]
  refine aI (i+1,.osl q 2 0 (lK g.1++[(⟨[118]++bO i,(z.1:Nat)⟩:fK).cells]).length,_) ⟨hlt,?_⟩ (by simp only; omega) ?_ PH.le_refl
  ·rw[hstep]
   have e:lK (g.1++[⟨[118]++bO i,(z.1:Nat)⟩])=lK g.1++[(⟨[118]++bO i,(z.1:Nat)⟩:fK).cells]:=by simp[lK]
   simp only
   rw[e]
   exact h6
  ·(repeat' (first|exact PF.nil_le|refine PF.aA ?_ ?_))<;>first|(simp -implicitDefEqProofs only[go_sem,γ,reduceCtorEq]<;>rfl)|rfl
 ·have hlt':¬ (i:Int)<(n:Nat):=by omega
  have:i=n:=by omega
  subst this
  simp -implicitDefEqProofs only[go_sem,hlt']
  exact hK w6 _ _ (NA rfl rfl rfl rfl rfl) hH
def GW (l:List Nat) (v:PV) (o drives volumes a:Nat) (r:PV) (H:PH):Prop:=Co r (.agg (fD l drives volumes a).1.cells)∧H=PH.nil.set o (aS v (fD l drives volumes a).2)
structure alU (C:Ctx):Prop extends kN C where
 grow:∀ (l:List Nat) (v:PV),Tp l v→∀ (mc drives:Nat),0<mc→mc≤1000→drives≤60→UK C l v mc drives 4
theorem aPJ {C:Ctx} (Lb:alU C) {l:List Nat} {v:PV} (T:Tp l v) (o drives volumes a:Nat) (hdr:drives≤60) (hvo:volumes≤50) (ha:a≤l.length) :
  yR.wp C (aY IQ.res (GW l v o drives volumes a)) (PF.args [.ptr o 2 0 0,.int .i64 drives,.int .i64 volumes]) (PH.nil.set o (aS v a)):=by
 have hT:fD l drives volumes a=fD l drives volumes a:=rfl
 conv at hT=>rhs; unfold fD
 dsimp only at hT
 have hR:∀ r H,GW l v o drives volumes a r H↔Co r (.agg (fD l drives volumes a).1.cells)∧H=PH.nil.set o (aS v (fD l drives volumes a).2):=fun _ _=>Iff.rfl
 have ne:=bM l (show 0<2 by decide) a
 have ae:=bC l 2 ha
 generalize he:aC l 2 a=e at *
 have nlw:=bM l (show 0<2 by decide) e.2
 have alw:=bC l 2 ae
 generalize hlw:aC l 2 e.2=lw at *
 obtain⟨alaws,llaws⟩:=DD l alw (1+lw.1)
 generalize hlaws:fL l lw.2 (1+lw.1)=laws at *
 have nmd:=bM l (show 0<2 by decide) laws.2
 have amd:=bC l 2 alaws
 generalize hmd:aC l 2 laws.2=md at *
 obtain⟨amodels,lmodels⟩:=tV l (1+lw.1) amd (1+md.1)
 generalize hmodels:dJ l (1+lw.1) md.2 (1+md.1)=models at *
 have hG0:GOk l drives ⟨[kE],[],models.2⟩:=⟨by simp,bhE _,amodels⟩
 obtain⟨hG,-⟩:=CS (mc:=1+md.1) 4 0 hG0
 generalize hg:dX l (1+md.1) drives 4 0 ⟨[kE],[],models.2⟩=g at *
 have npl:=bM l (show 0<2 by decide) g.a
 have apl:=bC l 2 hG.a
 generalize hpl:aC l 2 g.a=pl at *
 obtain⟨apols,lpols⟩:=qQ l (1+md.1) apl (1+pl.1)
 generalize hpols:cV l (1+md.1) pl.2 (1+pl.1)=pols at *
 have nvo:=bM l (show 0<volumes+1 by omega) pols.2
 have avo:=bC l (volumes+1) apols
 generalize hvo':aC l (volumes+1) pols.2=vo at *
 generalize hvols:dL l (1+pl.1) vo.2 vo.1=vols at *
 have ee:IntKind.i64.wrap (1+(e.1:Int))=((1+e.1:Nat):Int):=by rw[wrap_i64 (by omega) (by omega)]; omega
 have elw:IntKind.i64.wrap (1+(lw.1:Int))=((1+lw.1:Nat):Int):=by rw[wrap_i64 (by omega) (by omega)]; omega
 have emd:IntKind.i64.wrap (1+(md.1:Int))=((1+md.1:Nat):Int):=by rw[wrap_i64 (by omega) (by omega)]; omega
 have epl:IntKind.i64.wrap (1+(pl.1:Int))=((1+pl.1:Nat):Int):=by rw[wrap_i64 (by omega) (by omega)]; omega
 have evo:IntKind.i64.wrap ((volumes:Int)+1)=((volumes+1:Nat):Int):=aK (by omega)
 have h0:aP (PH.nil.set o (aS v a)) [(o,aS v a)] []:=aP.nil.new (H:=PH.nil) rfl (aS v a)
 simp -implicitDefEqProofs only[go_sem,δ,yR,afG,IQ]
 refine aQ fun o6 ho6=>?_
 have h1:=h0.new ho6 flZ
 simp -implicitDefEqProofs only[go_sem,reduceCtorEq,afH]
 refine cD Lb.topN T (o:=o) (n:=2) (a:=a) (by decide) ha rfl (h1.at 0 rfl) ?_
 have h2:=h1.set 0 rfl (aS v e.2)
 rw[he]
 simp -implicitDefEqProofs only[go_sem,δ,γ,θ,ee]
 refine aQ fun o7 ho7=>?_
 have h3:=h2.new ho7 (flB (.int .i64 (1+e.1:Nat)) .nils .nils .nils .nils .nils .nils)
 simp -implicitDefEqProofs only[go_sem,δ,γ,reduceCtorEq,afI,bhF,bhM,or_false,forall_eq,forall_eq_or_imp]
 refine cD Lb.topN T (o:=o) (n:=2) (a:=e.2) (by decide) ae rfl (h3.at 0 rfl) ?_
 have h4:=h3.set 0 rfl (aS v lw.2)
 rw[hlw]
 have h5:=h4.perm (B':=FE.boxes ⟨o,o6,o7,drives,volumes⟩ v (.int .i64 (1+e.1:Nat)) .nils .nils .nils .nils .nils .nils lw.2) (L':=[]) (List.Perm.cons _ (List.Perm.swap _ _ _)) (List.Perm.refl _)
 obtain⟨E,hE⟩:∃ E:FE,E=⟨o,o6,o7,drives,volumes⟩:=⟨_,rfl⟩
 rw[← hE] at h5
 simp -implicitDefEqProofs only[go_sem,γ,elw,afJ]
 refine aVL (C:=C) Lb.tokN T E (1+lw.1) lw.2 (by omega) alw _ _ _ _ ?_ h5 ?_
 ·rw[hE]
  unfold eR
  (repeat' (first|exact PF.nil_le|refine PF.aA ?_ ?_))<;>first|(simp -implicitDefEqProofs only[go_sem,γ,reduceCtorEq]<;>rfl)|rfl
 clear h5 h4 h3 h2 h1 h0 ho6 ho7
 intro w1 F1 H1 hF1 h1
 rw[hlaws] at h1
 have f0:F1 0=some (.ptr o 2 0 0):=hF1 0 _ (by rw[hE]; unfold eR; simp -implicitDefEqProofs only[go_sem,reduceCtorEq])
 have f1:F1 1=some (.int .i64 drives):=hF1 1 _ (by rw[hE]; unfold eR; simp -implicitDefEqProofs only[go_sem,γ,reduceCtorEq])
 have f2:F1 2=some (.int .i64 volumes):=hF1 2 _ (by rw[hE]; unfold eR; simp -implicitDefEqProofs only[go_sem,γ,reduceCtorEq])
 have f6:F1 6=some (.ptr o6 7 0 0):=hF1 6 _ (by rw[hE]; unfold eR; simp -implicitDefEqProofs only[go_sem,γ,reduceCtorEq])
 have f7:F1 7=some (.ptr o7 7 0 0):=hF1 7 _ (by rw[hE]; unfold eR; simp -implicitDefEqProofs only[go_sem,γ,reduceCtorEq])
 have q0:=h1.at 0 rfl
 rw[hE] at q0
 simp -implicitDefEqProofs only[go_sem,WQ,f0]
 refine cD Lb.topN T (o:=o) (n:=2) (a:=laws.2) (by decide) alaws rfl q0 ?_
 have h2:=h1.set 0 rfl (aS v md.2)
 rw[hmd]
 simp -implicitDefEqProofs only[go_sem,γ,emd,WR]
 refine aKV (C:=C) Lb.tokN T E (1+md.1) md.2 (1+lw.1) (by omega) (by omega) amd (.int .i64 (1+e.1:Nat)) w1 laws.1 llaws _ _ _ ?_ (by rw[hE] at h2 ⊢; exact h2) ?_
 ·rw[hE]
  unfold eR
  repeat' first|exact PF.nil_le|refine PF.aA ?_ ?_|rfl|assumption
 clear q0 h2 h1 f0 f1 f2 f6 f7 hF1
 intro w2 F2 H2 hF2 f11 h2
 rw[hmodels] at h2
 have f0:F2 0=some (.ptr o 2 0 0):=hF2 0 _ (by rw[hE]; unfold eR; simp -implicitDefEqProofs only[go_sem,reduceCtorEq])
 have f1:F2 1=some (.int .i64 drives):=hF2 1 _ (by rw[hE]; unfold eR; simp -implicitDefEqProofs only[go_sem,γ,reduceCtorEq])
 have f2:F2 2=some (.int .i64 volumes):=hF2 2 _ (by rw[hE]; unfold eR; simp -implicitDefEqProofs only[go_sem,γ,reduceCtorEq])
 have f6:F2 6=some (.ptr o6 7 0 0):=hF2 6 _ (by rw[hE]; unfold eR; simp -implicitDefEqProofs only[go_sem,γ,reduceCtorEq])
 have f7:F2 7=some (.ptr o7 7 0 0):=hF2 7 _ (by rw[hE]; unfold eR; simp -implicitDefEqProofs only[go_sem,γ,reduceCtorEq])
 obtain⟨qm,hqm⟩:=(h2.own 1 rfl).one (by rw[bgT]; omega)
 rw[bgT,lmodels] at hqm
 subst hqm
 have h17:(1:Nat)*7≤16777216:=by decide
 simp -implicitDefEqProofs only[go_sem,ο,WW]
 refine aB (Lb.int 0 (by unfold dV; omega)) rfl ?_
 simp -implicitDefEqProofs only[go_sem,ο,υ,δ,γ,η,θ,ζ,bhF,bhM,or_false,forall_eq,forall_eq_or_imp,h17]
 refine aQ fun od hod=>?_
 have h3:=h2.a4W (s:=7) (rows:=gV [kE]) hod
 have b7:=h2.at 1 rfl
 rw[hE] at b7
 have n7:¬ o7=od:=by
  have:=h3.neL 1 2 rfl rfl rfl
  rw[hE] at this; exact this
 simp -implicitDefEqProofs only[go_sem,ο,δ,γ,θ,f7,b7,n7,bhF,bhM,or_false,forall_eq]
 have h4:=(h3.set 1 rfl (flB (.int .i64 (1+e.1:Nat)) w1 (.osl qm 4 0 (1+md.1)) (.osl od 7 0 1) .nils .nils .nils)).qL 3
 rw[hE] at h4
 have h5:=h4.perm (B':=(GE.mk o o7 qm (.int .i64 (1+e.1:Nat)) w1 .nils .nils).boxes v (1+md.1) (.osl od 7 0 1) .nils models.2++[(o6,flZ)]) (L':=jQ ⟨[kE],[],models.2⟩ (.osl od 7 0 1) .nils++[(w1,4,fV laws.1),(.osl qm 4 0 (1+md.1),4,gR models.1)]) (List.Perm.refl _)
  (List.perm_append_comm (l₁:=[(w1,4,fV laws.1),(.osl qm 4 0 (1+md.1),4,gR models.1)]) (l₂:=jQ ⟨[kE],[],models.2⟩ (.osl od 7 0 1) .nils))
 simp -implicitDefEqProofs only[go_sem,ο,γ,reduceCtorEq,WX,f0,f1,f7]
 refine QW h5 (fun H0 hH0=>Lb.grow l v T (1+md.1) drives (by omega) (by omega) hdr (GE.mk o o7 qm (.int .i64 (1+e.1:Nat)) w1 .nils .nils) (.osl od 7 0 1) .nils ⟨[kE],[],models.2⟩ 0 kE hG0 rfl rfl H0 hH0) (by simp -implicitDefEqProofs only[go_sem,ο,γ,f0,f1,f7]; rfl) ?_
 rintro r B' L' H3 ⟨rfl,w3,w4,rfl,rfl⟩ h6
 rw[hg] at h6
 have h7:=h6.perm (B':=E.boxes v (.int .i64 (1+e.1:Nat)) w1 (.osl qm 4 0 (1+md.1)) w3 w4 .nils .nils g.a) (L':=[(w1,4,fV laws.1),(.osl qm 4 0 (1+md.1),4,gR models.1),(w3,7,gV g.doms),(w4,3,jY g.drvs)]) (by rw[hE]; exact List.Perm.refl _)
  (List.perm_append_comm (l₁:=jQ g w3 w4) (l₂:=[(w1,4,fV laws.1),(.osl qm 4 0 (1+md.1),4,gR models.1)]))
 have q0:=h7.at 0 rfl
 rw[hE] at q0
 simp -implicitDefEqProofs only[go_sem,ο,reduceCtorEq,WY,f0]
 refine cD Lb.topN T (o:=o) (n:=2) (a:=g.a) (by decide) hG.a rfl q0 ?_
 have h8:=h7.set 0 rfl (aS v pl.2)
 rw[hpl]
 simp -implicitDefEqProofs only[go_sem,ο,γ,epl,WZ]
 refine arR (C:=C) Lb.tokN T E (1+md.1) (1+pl.1) pl.2 (by omega) (by omega) (by omega) apl ((1+e.1:Nat):Int) w1 (.osl qm 4 0 (1+md.1)) w3 w4 laws.1 models.1 g.doms g.drvs _ _ _ (by rw[hE]; exact⟨by simp -implicitDefEqProofs only[go_sem,ο,reduceCtorEq,f0],by simp -implicitDefEqProofs only[go_sem,ο,γ,f1],by simp -implicitDefEqProofs only[go_sem,ο,γ,f2],by simp -implicitDefEqProofs only[go_sem,ο,γ,f6],by simp -implicitDefEqProofs only[go_sem,ο,γ,f7],by simp -implicitDefEqProofs only[go_sem,ο,γ,f11],by simp -implicitDefEqProofs only[go_sem,ο,γ],by simp -implicitDefEqProofs only[go_sem,ο,γ]; rfl⟩) (by rw[hE] at h8 ⊢; exact h8) ?_
 clear h8 h7 h6 h5 h4 h3 h2 q0 b7 f0 f1 f2 f6 f7 hF2
 intro w5 F4 H4 hF4 h1
 rw[hpols] at h1
 have f0:F4 0=some (.ptr o 2 0 0):=hF4 0 _ (by rw[hE]; unfold eR; simp -implicitDefEqProofs only[go_sem,reduceCtorEq])
 have f1:F4 1=some (.int .i64 drives):=hF4 1 _ (by rw[hE]; unfold eR; simp -implicitDefEqProofs only[go_sem,γ,reduceCtorEq])
 have f2:F4 2=some (.int .i64 volumes):=hF4 2 _ (by rw[hE]; unfold eR; simp -implicitDefEqProofs only[go_sem,γ,reduceCtorEq])
 have f6:F4 6=some (.ptr o6 7 0 0):=hF4 6 _ (by rw[hE]; unfold eR; simp -implicitDefEqProofs only[go_sem,γ,reduceCtorEq])
 have f7:F4 7=some (.ptr o7 7 0 0):=hF4 7 _ (by rw[hE]; unfold eR; simp -implicitDefEqProofs only[go_sem,γ,reduceCtorEq])
 have q0:=h1.at 0 rfl
 rw[hE] at q0
 simp -implicitDefEqProofs only[go_sem,γ,XF,f0,f2,evo]
 refine cD Lb.topN T (o:=o) (n:=volumes+1) (a:=pols.2) (by omega) apols rfl q0 ?_
 have h2:=h1.set 0 rfl (aS v vo.2)
 rw[hvo']
 have h3:=h2.perm (B':=E.boxes v (.int .i64 (1+e.1:Nat)) w1 (.osl qm 4 0 (1+md.1)) w3 w4 w5 .nils vo.2) (L':=(w5,17,jR pols.1)::[(w1,4,fV laws.1),(.osl qm 4 0 (1+md.1),4,gR models.1),(w3,7,gV g.doms),(w4,3,jY g.drvs)]) (List.Perm.refl _)
  (List.perm_append_comm (l₁:=[(w1,4,fV laws.1),(.osl qm 4 0 (1+md.1),4,gR models.1),(w3,7,gV g.doms),(w4,3,jY g.drvs)]) (l₂:=[(w5,17,jR pols.1)]))
 simp -implicitDefEqProofs only[go_sem,γ,XG]
 refine aAK (C:=C) Lb.tokN T E (1+pl.1) vo.1 vo.2 (by omega) (by omega) avo _ _ _ _ _ w5 pols.1 lpols _ _ _ _ ?_ (by rw[hE] at h3 ⊢; exact h3) ?_
 ·rw[hE]
  unfold eR
  repeat' first|exact PF.nil_le|refine PF.aA ?_ ?_|rfl|assumption
 clear h3 h2 h1 q0 f0 f1 f2 f6 f7 hF4
 intro w6 F5 H5 hF5 h1
 rw[hvols] at h1
 have f6:F5 6=some (.ptr o6 7 0 0):=hF5 6 _ (by rw[hE]; unfold eR; simp -implicitDefEqProofs only[go_sem,γ,reduceCtorEq])
 have f7:F5 7=some (.ptr o7 7 0 0):=hF5 7 _ (by rw[hE]; unfold eR; simp -implicitDefEqProofs only[go_sem,γ,reduceCtorEq])
 rw[hE] at h1
 have b7:=h1.at 1 rfl
 have b6:=h1.at 2 rfl
 have one:∀ (x:PV),x∈[w1,w3,w4,w5,w6]→(∃ q s n,x=.osl q s 0 n)∨x=.nils:=by
  intro x hx
  have key:∀ {s:Nat} {rows:List (List PV)},bB H5 s x rows→(∃ q s n,x=.osl q s 0 n)∨x=.nils:=by
   rintro s rows (⟨_,h⟩ | ⟨q,rs,h,_⟩)
   ·exact .inr h
   ·exact .inl ⟨q,s,_,h⟩
  simp only[bhF,bhM,or_false] at hx
  rcases hx with rfl | rfl | rfl | rfl | rfl
  ·exact key (h1.own 1 rfl)
  ·exact key (h1.own 3 rfl)
  ·exact key (h1.own 4 rfl)
  ·exact key (h1.own 0 rfl)
  ·exact key (h1.own 5 rfl)
 have one':∀ (x:PV),x∈[w1,w3,w4,w5,w6]→PV.one x=true:=fun x hx=>by
  rcases one x hx with ⟨q,s,n,rfl⟩ | rfl<;>rfl
 have o1:=one' w1 (by simp)
 have o3:=one' w3 (by simp)
 have o4:=one' w4 (by simp)
 have o5:=one' w5 (by simp)
 have o6':=one' w6 (by simp)
 simp only[PV.one] at o1 o3 o4 o5 o6'
 simp -implicitDefEqProofs only[go_sem,δ,γ,XL,f6,f7,b7,b6,bhF,bhM,or_false,forall_eq,forall_eq_or_imp,o1,o3,o4,o5,o6']
 have h2:=h1.set 2 rfl (flB (.int .i64 (1+e.1:Nat)) w1 (.osl qm 4 0 (1+md.1)) w3 w4 w5 w6)
 have h3:=h2.sub (B':=[(o,aS v vols.2)]) (biU.cons_cons _ (List.nil_sublist _)) (biU.refl _)
 obtain⟨φ,H6,k1,k2,k3,k4⟩:=aP.giveUp _ h3 (fun x hx=>by
  simp only[List.cons_append,List.nil_append,bhF,bhM,or_false] at hx
  rcases hx with rfl | rfl | rfl | rfl | rfl | rfl
  ·exact aGR _
  ·exact aEC _
  ·exact aEE _
  ·exact aBK _
  ·exact aBM _
  ·exact a3X _) (fun b hb q s rs=>by
  simp only[bhF,bhM,or_false] at hb
  subst hb
  simp only[bV.frz,biC,biV,T.frz]
  rfl)
 refine BI (vs:=[.agg [.int .i64 (1+e.1:Nat),w1,.osl qm 4 0 (1+md.1),w3,w4,w5,w6]]) (.inr rfl) (by simp -implicitDefEqProofs only[go_sem,δ,γ,f6]) (k4 _ _ (.done (H2:=PH.nil.set o (aS v vols.2)) ?_ (PH.aA PH.nil_le (k3.at 0 rfl))))
 rw[hR,hT]
 refine⟨CoL.agg ?_,rfl⟩
 have s5:=k1 (w5,17,jR pols.1) (by simp)
 have s1:=k1 (w1,4,fV laws.1) (by simp)
 have s2:=k1 (.osl qm 4 0 (1+md.1),4,gR models.1) (by simp)
 have s3:=k1 (w3,7,gV g.doms) (by simp)
 have s4:=k1 (w4,3,jY g.drvs) (by simp)
 have s6:=k1 (w6,2,lK vols.1) (by simp)
 have s0:φ (.int .i64 (1+e.1:Nat))=.int .i64 (1+e.1:Nat):=k2 _ rfl
 show CoL [φ (.int .i64 (1+e.1:Nat)),φ w1,φ (.osl qm 4 0 (1+md.1)),φ w3,φ w4,φ w5,φ w6] _
 rw[s0]
 exact CoL.cons (.refl _) (CoL.cons s1.co (CoL.cons s2.co (CoL.cons s3.co (CoL.cons s4.co (CoL.cons s5.co (CoL.cons s6.co .nil))))))
end Go.PM
namespace Go.PM
open Go Go.Na
structure aNA (C:Ctx):Prop extends alU C where
 new:∀ (l:List Nat),(∀ x∈l,x<256)→l.length≤9223372036854775807→aJ C 28 [.sl 1 (gK l)] .nil (alW l)
 fleet:∀ (l:List Nat) (v:PV),Tp l v→∀ (o drives volumes a:Nat),drives≤60→volumes≤50→a≤l.length →
  aJ C 0 [.ptr o 2 0 0,.int .i64 drives,.int .i64 volumes] (PH.nil.set o (aS v a)) (fun r H=>r=.agg (fD l drives volumes a).1.cells∧H=PH.nil.set o (aS v (fD l drives volumes a).2))
theorem GW.exact {C:Ctx} {name:Nat} {args:List PV} {H:PH} {l:List Nat} {v:PV} {o drives volumes a:Nat} (h:aJ C name args H (GW l v o drives volumes a)):aJ C name args H (fun r H=>r=.agg (fD l drives volumes a).1.cells∧H=PH.nil.set o (aS v (fD l drives volumes a).2)) :=
 h.post fun r H' hr=>⟨_,hr.1,rfl,hr.2⟩
theorem aPG {C:Ctx} (Lb:aNA C) (l:List Nat) (hb:∀ x∈l,x<256) (hl:l.length≤9223372036854775807) (drives volumes:Nat) (hdr:drives≤60) (hvo:volumes≤50) :
  yQ.wp C (aY IN.res (bY (.agg (fD (l.take 400) drives volumes 0).1.cells))) (PF.args [.sl 1 (gK l),.int .i64 drives,.int .i64 volumes]) .nil:=by
 simp -implicitDefEqProofs only[go_sem,δ,yQ,afB,IN]
 refine aQ fun o6 ho6=>?_
 simp -implicitDefEqProofs only[go_sem,reduceCtorEq,afC]
 refine lH (Lb.new l hb hl) rfl PH.nil_le ?_
 rintro r H' ⟨o,v,rfl,T,rfl⟩ ha
 have hne:¬ o6=o:=by
  intro e
  subst e
  have:=ha o6 (aS v 0) (by rw[aV,if_pos rfl]) rfl
  rw[aV,if_pos rfl] at this
  cases this
 rw[PH.kU]
 simp -implicitDefEqProofs only[go_sem,γ]
 refine fW (Lb.fleet _ v T o drives volumes 0 hdr hvo (bhE _)) (by rw[aV,if_pos rfl]) rfl ?_
 simp -implicitDefEqProofs only[go_sem,δ,γ,hne]
 exact aW (vs:=[.agg (fD (l.take 400) drives volumes 0).1.cells]) (.inr rfl) .nil (by simp -implicitDefEqProofs only[go_sem,δ,γ]) PH.nil_le ⟨.refl _,rfl⟩
end Go.PM
namespace Go.PM
open Go Go.Na
theorem CoL.aLI:CoL [] []:=⟨rfl,fun j p q h=>by simp at h⟩
theorem CoL.kK {p q:PV} {ps qs:List PV} (h:Co p q) (hs:CoL ps qs):CoL (p::ps) (q::qs):=by
 refine⟨by simp[hs.len],fun j x y a b=>?_⟩
 cases j with
 | zero =>
  simp only[List.getElem?_cons_zero,biY.injEq] at a b
  subst a; subst b; exact h
 | succ j=>exact hs.at_ j x y (by simpa using a) (by simpa using b)
theorem aJ.aqU {C:Ctx} {name:Nat} {R:PV→PH→Prop} {x y:PV} {s:Nat} (h:aJ C name [x,y,.sl s []] .nil R):aJ C name [x,y,.nils] .nil R :=
 h.args (.kK (.refl _) (.kK (.refl _) (.kK (.nil s) .aLI)))
theorem aJ.seen {C:Ctx} {name:Nat} {args:List PV} {H:PH} {v:PV} (h:aJ C name args H (bY v)):aJ C name args H (aL v) :=
 h.post fun r H' hr=>⟨v,hr.1,rfl,hr.2⟩
structure UL (C:Ctx):Prop where
 at_:∀ f:aG,f.Ok→∀ d level:Int,aJ C 147 [.agg f.cells,.int .i64 d,.int .i64 level] .nil (aL (.int .i64 (atP f d level)))
 child:∀ f:aG,f.Ok→∀ d:Int,aJ C 148 [.agg f.cells,.int .i64 d] .nil (aL (ints (amO f d)))
 drives:∀ f:aG,f.Ok→∀ d:Int,aJ C 149 [.agg f.cells,.int .i64 d] .nil (aL (ints (AU f d)))
 holds:∀ (f:aG) (l:List (List Int)) (room:List Int),f.Ok→jP l→aJ C 150 [.agg f.cells,lay l,ints room] .nil (aL (.bool (jJ f l room)))
 loads:∀ (f:aG) (l:List (List Int)),f.Ok→jP l→aJ C 151 [.agg f.cells,lay l] .nil (aL (ints (arG f l)))
 room:∀ (f:aG) (room:List Int),f.Ok→aJ C 152 [.agg f.cells,ints room] .nil (aL (ints (wV f room)))
 shaped:∀ (f:aG) (l:List (List Int)),f.Ok→jP l→aJ C 153 [.agg f.cells,lay l] .nil (aL (.bool (adB f l)))
 viol:∀ (f:aG) (l:List (List Int)) (room:List Int),f.Ok→jP l→aJ C 154 [.agg f.cells,lay l,ints room] .nil (aL (UF (nJ f l room)))
 fleet:∀ (l:List Nat),(∀ x∈l,x<256)→l.length≤9223372036854775807→∀ drives volumes:Nat,drives≤60→volumes≤50 →
  aJ C 27 [.sl 1 (gK l),.int .i64 drives,.int .i64 volumes] .nil (aL (.agg (fD (l.take 400) drives volumes 0).1.cells))
theorem abJ {f:aG} {vs:List fK} (h:cU f=true) (hl:vs.length≤12) (hv:vs.all (lW f)=true) (hd:distinct (vs.map fK.name)=true):cU { f with volumes:=vs }=true:=by
 unfold cU at h ⊢
 simp only[bhO] at h ⊢
 obtain⟨⟨⟨h1,h2⟩,⟨⟨⟨h3,h4⟩,h5⟩,h6⟩,h7⟩,⟨⟨⟨h8,h9⟩,h10⟩,h11⟩,h12⟩:=h
 refine⟨⟨⟨?_,h2⟩,⟨⟨⟨h3,h4⟩,h5⟩,h6⟩,hv⟩,⟨⟨⟨h8,h9⟩,h10⟩,h11⟩,hd⟩
 unfold mO at h1 ⊢
 simp only[bhO] at h1 ⊢
 exact⟨h1.1,decide_eq_true hl⟩
theorem aAO {f:aG} {vs:List fK} (h:f.Ok) (hl:vs.length≤12) (hv:∀ x∈vs,dV x.policy):({ f with volumes:=vs }:aG).Ok :=
 ⟨h.laws,h.models,h.domains,h.drives,h.policies,show vs.length≤_ by omega,h.law,h.dom,h.drive,h.policy,hv⟩
noncomputable def kF:aG:={ (fD [] 1 0 0).1 with volumes:=[⟨[118,48],0⟩] }
theorem qT:cU kF=true:=abJ (mJ [] 1 0 0 (by decide) (by decide)).1 (by decide) (by decide +kernel) (by decide +kernel)
theorem wY:kF.Ok:=aAO (mJ [] 1 0 0 (by decide) (by decide)).2 (by decide) (fun x hx=>by
 rw[List.mem_singleton] at hx
 subst hx
 unfold dV
 decide)
theorem aPE {C:Ctx} (L:UL C):yP.wp C (aY IM.res (aL (.agg kF.cells))) (PF.args []) .nil:=by
 simp -implicitDefEqProofs only[go_sem,δ,yP,aeX,IM]
 refine aQ fun o0 h0=>?_
 simp -implicitDefEqProofs only[go_sem,aeY]
 have h:=L.fleet [] (fun x hx=>by cases hx) (by decide) 1 0 (by decide) (by decide)
 refine aB (h.args (.kK (.nil 1) (.kK (.refl _) (.kK (.refl _) .aLI)))) rfl ?_
 simp -implicitDefEqProofs only[go_sem,δ]
 refine aQ fun o1 h1=>?_
 have n1:¬ o0=o1:=by
  intro e
  subst e
  rw[aV,if_pos rfl] at h1
  cases h1
 have n2:¬ o1=o0:=fun e=>n1 e.symm
 simp -implicitDefEqProofs only[go_sem,δ,γ,reduceCtorEq,n1,n2]
 have h12:(1:Nat)*2≤16777216:=by decide
 simp -implicitDefEqProofs only[go_sem,υ,δ,γ,η,θ,ζ,reduceCtorEq,aeZ,h12,n1,n2,bhF,bhM,or_false,forall_eq,afA]
 refine cC (.inr rfl) (vs:=[.agg kF.cells]) ?_ rfl
 simp -implicitDefEqProofs only[go_sem,δ,reduceCtorEq,n1,n2]
 rfl
theorem aWV:atP kF 0 4=4:=by
 unfold atP
 rw[if_pos ⟨qT,by decide,by decide +kernel,by decide,by decide⟩]
 decide +kernel
theorem awI:AU kF 0=[0]:=by
 unfold AU
 rw[if_pos ⟨qT,by decide,by decide +kernel⟩]
 decide +kernel
theorem aMD:(nJ kF [[-1]] []).map gT.cells=[[.int .i64 2,.int .i64 0,.int .i64 0]]:=by
 unfold nJ
 rw[if_pos qT,if_pos (by decide +kernel)]
 rfl
theorem aAT:jJ kF [[0]] []=true:=by
 unfold jJ nJ
 rw[qT,if_pos rfl,if_pos (by decide +kernel)]
 decide +kernel
def BF:aG:=⟨0,[],[],[],[],[],[]⟩
theorem aLP:BF.Ok:=⟨by decide,by decide,by decide,by decide,by decide,by decide,(fun _ h=>by cases h),(fun _ h=>by cases h),(fun _ h=>by cases h),(fun _ h=>by cases h),(fun _ h=>by cases h)⟩
theorem akW:jJ BF [] []=false:=rfl
theorem aLO:Co (.agg [.int .i64 0,.nils,.nils,.nils,.nils,.nils,.nils]) (.agg BF.cells):=by
 have:CoL [.int .i64 0,.nils,.nils,.nils,.nils,.nils,.nils] BF.cells :=
  .kK (.refl _) (.kK (.nil _) (.kK (.nil _) (.kK (.nil _) (.kK (.nil _) (.kK (.nil _) (.kK (.nil _) .aLI))))))
 exact .agg this.len this.at_
theorem xY {l:List (List Int)} (h:l.length≤16777216) (h2:l.flatten.length≤16777216):jP l:=⟨h,h2⟩
theorem aOK {C:Ctx} (L:UL C) (hs:aJ C 23 [] .nil (aL (.agg kF.cells))):xX.wp C (aY IJ.res (aL (.bool true))) (PF.args []) .nil:=by
 simp -implicitDefEqProofs only[go_sem,xX,aeN,aeO,IJ]
 refine aB hs rfl ?_
 simp -implicitDefEqProofs only[go_sem,δ]
 refine aQ fun o1 h1=>?_
 have h12:(1:Nat)*1≤16777216:=by decide
 have hv:=L.viol kF [[-1]] [] wY (xY (by decide) (by decide))
 have hh:=L.holds kF [[0]] [] wY (xY (by decide) (by decide))
 have hn:=L.holds BF [] [] aLP (xY (by decide) (by decide))
 rw[aAT] at hh
 rw[akW] at hn
 rw[show UF (nJ kF [[-1]] [])=.sl 3 [[.int .i64 2,.int .i64 0,.int .i64 0]] from by unfold UF; rw[aMD]] at hv
 simp -implicitDefEqProofs only[go_sem,ο,υ,δ,γ,η,ζ,reduceCtorEq,aeP,h12]
 refine aB hv.aqU rfl ?_
 have c1:(((1:Nat):Int)==1)=true:=rfl
 have ha:=L.at_ kF wY 0 4
 rw[aWV] at ha
 have hd:=L.drives kF wY 0
 rw[awI] at hd
 simp -implicitDefEqProofs only[go_sem,ο,δ,γ,reduceCtorEq,aeQ]
 refine aB ha rfl ?_
 simp -implicitDefEqProofs only[go_sem,ρ,ο,δ,γ,reduceCtorEq]
 refine aB hd rfl ?_
 simp -implicitDefEqProofs only[go_sem,ρ,ο,ν,υ,δ,γ,η,θ,ζ,reduceCtorEq,h12,c1]
 refine aB hh.aqU rfl ?_
 simp -implicitDefEqProofs only[go_sem,ο,γ,reduceCtorEq]
 refine aB (hn.args (.kK aLO (.kK (.nil 1) (.kK (.nil 1) .aLI)))) rfl ?_
 simp -implicitDefEqProofs only[go_sem,ο,γ,reduceCtorEq]
 refine cC (.inr rfl) rfl ?_
 rfl
end Go.PM
namespace Go.PM
open Go
def ajX:Rg:=[iA 4 (.mv (.const .nils))]
def ajY:Rg:=[iA 5 (.mv (.const .nils))]
def ajZ:Rg:=[iA 6 (.mv (.const (.int .u64 0)))]
def akA:Rg:=[iI 7 0]
def akB:Rg:=[iM 10 7,iM 11 0,iN 12 11,iB 13 .lss 10 12]
def akC:Rg:=[iM 16 6,iM 8 16]
def akD:Rg:=[iM 17 7,iM 18 1,iN 19 18,iB 20 .lss 17 19]
def akE:Rg:=[iM 21 8,iM 22 1,iM 23 7,iX 24 1 22 23,iL 25 24,iA 26 (.conv .u64 (Tm 25)),iB 27 .add 21 26,iM 8 27]
def LT:Rg:=[iM 28 0,iM 29 7,iX 30 1 28 29,iL 31 30,iA 32 (.conv .u64 (Tm 31)),iM 9 32]
def LW:Rg:=[iA 6 (.mv (.const (.int .u64 0)))]
def FQ:Rg:=[iM 33 9,iM 34 8,iB 35 .lss 33 34]
def FS:Rg:=[iM 36 9,iA 37 (.bin .add (Tm 36) (.const (.int .u64 4294967296))),iM 9 37]
def FT:Rg:=[iA 6 (.mv (.const (.int .u64 1)))]
def uD:Rg:=[iM 38 5,iM 39 9,iM 40 8,iB 41 .sub 39 40,iA 42 (.conv .u32 (Tm 41)),iA 43 (.bslice true 1 1 [(.int .u32 0)] [(0,(Tm 42))]),iA 44 (.append 1 4 (Tm 38) (Tm 43)),iM 5 44]
def uE:Rg:=[iM 14 7,iC 15 .add 14 1,iM 7 15]
def aaG:aD:=(.seq (.seq (.region akB) (.cond (Tm 13) .skip (.exit 0))) (.seq (.block 1 (.seq (.region akC) (.seq (.seq (.region akD) (.cond (Tm 20) (.region akE) .skip)) (.seq (.region LT) (.seq (.region LW) (.seq (.seq (.region FQ) (.cond (Tm 35) (.seq (.region FS) (.region FT)) .skip)) (.region uD))))))) (.region uE)))
def aaH:Rg:=[iM 45 5,iA 46 (.call 38 [(Tm 45)]),iM 4 46]
def AL:aD:=(.seq (.region ajX) (.seq (.region ajY) (.seq (.region ajZ) (.seq (.seq (.region akA) (.block 0 (.loop aaG))) (.seq (.region aaH) .ret)))))
def aSO:List Nat:=[43]
def LS:bG:=⟨2,47,AL,[.tmp 4]⟩
def ayZ:Rg:=[iA 4 (.mv (.const .nils))]
def azA:Rg:=[iA 5 (.mv (.const .nils))]
def azB:Rg:=[iA 6 (.mv (.const (.int .u64 0)))]
def azC:Rg:=[iI 7 0]
def azD:Rg:=[iM 9 7,iM 10 0,iN 11 10,iB 12 .lss 9 11,iM 13 12,iG 14 (.mv (Tm 7)) 13 false,iG 15 (.mv (Tm 1)) 13 false,iG 16 (.len (Tm 15)) 13 false,iG 17 (.bin .lss (Tm 14) (Tm 16)) 13 false,iA 18 (.pick (Tm 13) (.const (.bool true)) (Tm 17)),iM 19 18,iG 20 (.mv (Tm 6)) 19 false,iG 21 (.bin .gtr (Tm 20) (.const (.int .u64 0))) 19 false,iA 22 (.pick (Tm 19) (.const (.bool true)) (Tm 21))]
def UA:Rg:=[iM 25 6,iM 8 25]
def UB:Rg:=[iM 26 7,iM 27 0,iN 28 27,iB 29 .lss 26 28]
def UC:Rg:=[iM 30 8,iM 31 0,iM 32 7,iX 33 1 31 32,iL 34 33,iA 35 (.conv .u64 (Tm 34)),iB 36 .add 30 35,iM 8 36]
def FW:Rg:=[iM 37 7,iM 38 1,iN 39 38,iB 40 .lss 37 39]
def FX:Rg:=[iM 41 8,iM 42 1,iM 43 7,iX 44 1 42 43,iL 45 44,iA 46 (.conv .u64 (Tm 45)),iB 47 .add 41 46,iM 8 47]
def xK:Rg:=[iM 48 5,iM 49 8,iA 50 (.conv .u32 (Tm 49)),iA 51 (.bslice true 1 1 [(.int .u32 0)] [(0,(Tm 50))]),iA 52 (.append 1 4 (Tm 48) (Tm 51)),iM 5 52]
def xL:Rg:=[iM 53 8,iA 54 (.bin .shr (Tm 53) (.const (.int .u64 32))),iM 6 54]
def xM:Rg:=[iM 23 7,iC 24 .add 23 1,iM 7 24]
def akF:aD:=(.seq (.seq (.region azD) (.cond (Tm 22) .skip (.exit 0))) (.seq (.block 1 (.seq (.region UA) (.seq (.seq (.region UB) (.cond (Tm 29) (.region UC) .skip)) (.seq (.seq (.region FW) (.cond (Tm 40) (.region FX) .skip)) (.seq (.region xK) (.region xL)))))) (.region xM)))
def MB:Rg:=[iM 55 5,iA 56 (.call 38 [(Tm 55)]),iM 4 56]
def FU:aD:=(.seq (.region ayZ) (.seq (.region azA) (.seq (.region azB) (.seq (.seq (.region azC) (.block 0 (.loop akF))) (.seq (.region MB) .ret)))))
def aYA:List Nat:=[51]
def aaJ:bG:=⟨2,57,FU,[.tmp 4]⟩
def akG:Rg:=[iA 4 (.mv (.const .nils))]
def akH:Rg:=[iM 10 0,iN 11 10,iM 12 1,iN 13 12,iB 14 .add 11 13,iA 15 (.mkslice 1 4 [(.int .u32 0)] (Tm 14) (Tm 14)),iM 5 15]
def akI:Rg:=[iI 6 0]
def akJ:Rg:=[iM 16 6,iM 17 0,iN 18 17,iB 19 .lss 16 18]
def ME:Rg:=[iA 7 (.mv (.const (.int .u64 0)))]
def MF:Rg:=[iI 8 0]
def akK:Rg:=[iM 22 8,iM 23 1,iN 24 23,iB 25 .lss 22 24]
def akL:Rd:=[(iM 28 0,false),(iM 29 6,false),(iX 30 1 28 29,false),(iL 31 30,false),(iA 32 (.conv .u64 (Tm 31)),false),(iM 33 1,false),(iM 34 8,false),(iX 35 1 33 34,false),(iL 36 35,false),(iA 37 (.conv .u64 (Tm 36)),false),(iB 38 .mul 32 37,false),(iM 39 5,false),(iM 40 6,false),(iM 41 8,false),(iB 42 .add 40 41,false),(iX 43 1 39 42,false),(iL 44 43,false),(iA 45 (.conv .u64 (Tm 44)),false),(iB 46 .add 38 45,false),(iM 47 7,false),(iB 48 .add 46 47,false),(iM 9 48,false)]
def akM:Rg:=[iM 49 5,iM 50 6,iM 51 8,iB 52 .add 50 51,iM 53 9,iA 54 (.conv .u32 (Tm 53)),iX 55 1 49 52,iS 1 55 54]
def akN:Rg:=[iM 56 9,iA 57 (.bin .shr (Tm 56) (.const (.int .u64 32))),iM 7 57]
def aaL:Rg:=[iM 26 8,iC 27 .add 26 1,iM 8 27]
def FY:aD:=(.seq (.seq (.region akK) (.cond (Tm 25) .skip (.exit 2))) (.seq (.block 3 (.seq (.draw akL) (.seq (.region akM) (.region akN)))) (.region aaL)))
def FZ:Rg:=[iM 58 5,iM 59 6,iM 60 1,iN 61 60,iB 62 .add 59 61,iM 63 7,iA 64 (.conv .u32 (Tm 63)),iX 65 1 58 62,iS 1 65 64]
def aaM:Rg:=[iM 20 6,iC 21 .add 20 1,iM 6 21]
def aaK:aD:=(.seq (.seq (.region akJ) (.cond (Tm 19) .skip (.exit 0))) (.seq (.block 1 (.seq (.region ME) (.seq (.seq (.region MF) (.block 2 (.loop FY))) (.region FZ)))) (.region aaM)))
def aaN:Rg:=[iM 66 5,iA 67 (.call 38 [(Tm 66)]),iM 4 67]
def AM:aD:=(.seq (.region akG) (.seq (.region akH) (.seq (.seq (.region akI) (.block 0 (.loop aaK))) (.seq (.region aaN) .ret))))
def aSS:List Nat:=[]
def MD:bG:=⟨2,68,AM,[.tmp 4]⟩
def a2Q:Rg:=[iA 4 (.mv (.const .nils)),iI 5 0]
def a2R:Rg:=[iM 7 0,iA 8 (.call 41 [(Tm 7)]),iM 9 8,iG 10 (.mv (Tm 1)) 9 false,iG 11 (.call 41 [(Tm 10)]) 9 false,iA 12 (.pick (Tm 9) (.const (.bool true)) (Tm 11))]
def a2S:Rg:=[iA 4 (.mv (.const .nils)),iI 5 2]
def a2T:Rg:=[iM 13 0,iA 14 (.call 38 [(Tm 13)]),iM 15 1,iA 16 (.call 38 [(Tm 15)]),iA 17 (.call 43 [(Tm 14),(Tm 16)]),iM 6 17]
def a2U:Rg:=[iM 18 6,iA 19 (.call 41 [(Tm 18)])]
def a2V:Rg:=[iA 4 (.mv (.const .nils)),iI 5 2]
def a2W:Rg:=[iM 20 6,iM 4 20,iI 5 0]
def aSI:aD:=(.seq (.region a2Q) (.seq (.seq (.region a2R) (.cond (Tm 12) (.seq (.region a2S) .ret) .skip)) (.seq (.region a2T) (.seq (.seq (.region a2U) (.cond (Tm 19) (.seq (.region a2V) .ret) .skip)) (.seq (.region a2W) .ret)))))
def a2X:List Nat:=[]
def aXL:bG:=⟨2,21,aSI,[.tmp 4,.tmp 5]⟩
def a3O:Rg:=[iA 4 (.mv (.const .nils)),iI 5 0]
def a3P:Rg:=[iM 6 0,iA 7 (.call 41 [(Tm 6)]),iM 8 7,iG 9 (.mv (Tm 1)) 8 false,iG 10 (.call 41 [(Tm 9)]) 8 false,iA 11 (.pick (Tm 8) (.const (.bool true)) (Tm 10))]
def a3Q:Rg:=[iA 4 (.mv (.const .nils)),iI 5 2]
def a3R:Rg:=[iM 12 0,iM 13 1,iA 14 (.call 32 [(Tm 12),(Tm 13)]),iC 15 .lss 14 0]
def a3S:Rg:=[iA 4 (.mv (.const .nils)),iI 5 4]
def a3T:Rg:=[iM 16 0,iA 17 (.call 38 [(Tm 16)]),iM 18 1,iA 19 (.call 38 [(Tm 18)]),iA 20 (.call 42 [(Tm 17),(Tm 19)]),iM 4 20,iI 5 0]
def aSQ:aD:=(.seq (.region a3O) (.seq (.seq (.region a3P) (.cond (Tm 11) (.seq (.region a3Q) .ret) .skip)) (.seq (.seq (.region a3R) (.cond (Tm 15) (.seq (.region a3S) .ret) .skip)) (.seq (.region a3T) .ret))))
def a3U:List Nat:=[]
def aYC:bG:=⟨2,21,aSQ,[.tmp 4,.tmp 5]⟩
def a3E:Rg:=[iA 4 (.mv (.const .nils)),iI 5 0]
def a3F:Rg:=[iM 7 0,iA 8 (.call 41 [(Tm 7)]),iM 9 8,iG 10 (.mv (Tm 1)) 9 false,iG 11 (.call 41 [(Tm 10)]) 9 false,iA 12 (.pick (Tm 9) (.const (.bool true)) (Tm 11))]
def a3G:Rg:=[iA 4 (.mv (.const .nils)),iI 5 2]
def a3H:Rg:=[iM 13 0,iA 14 (.call 38 [(Tm 13)]),iM 15 1,iA 16 (.call 38 [(Tm 15)]),iA 17 (.call 44 [(Tm 14),(Tm 16)]),iM 6 17]
def a3I:Rg:=[iM 18 6,iA 19 (.call 41 [(Tm 18)])]
def a3J:Rg:=[iA 4 (.mv (.const .nils)),iI 5 2]
def a3K:Rg:=[iM 20 6,iM 4 20,iI 5 0]
def aSP:aD:=(.seq (.region a3E) (.seq (.seq (.region a3F) (.cond (Tm 12) (.seq (.region a3G) .ret) .skip)) (.seq (.region a3H) (.seq (.seq (.region a3I) (.cond (Tm 19) (.seq (.region a3J) .ret) .skip)) (.seq (.region a3K) .ret)))))
def a3L:List Nat:=[]
def aXU:bG:=⟨2,21,aSP,[.tmp 4,.tmp 5]⟩
def axX:Rg:=[iI 2 0]
def axY:Rg:=[iM 5 0,iA 6 (.call 38 [(Tm 5)]),iM 0 6]
def axZ:Rg:=[iM 7 0,iN 8 7,iC 9 .eql 8 0]
def ayA:Rg:=[iI 2 0]
def ayB:Rg:=[iM 10 0,iN 11 10,iC 12 .sub 11 1,iA 13 (.bin .mul (Ci 32) (Tm 12)),iM 3 13]
def ayC:Rg:=[iM 14 0,iM 15 0,iN 16 15,iC 17 .sub 16 1,iX 18 1 14 17,iL 19 18,iM 4 19]
def ayD:Rg:=[iM 20 4,iA 21 (.bin .gtr (Tm 20) (.const (.int .u32 0)))]
def ayE:Rg:=[iM 24 3,iC 25 .add 24 1,iM 3 25]
def ayF:Rg:=[iM 22 4,iA 23 (.bin .quo (Tm 22) (.const (.int .u32 2))),iM 4 23]
def axW:aD:=(.seq (.seq (.region ayD) (.cond (Tm 21) .skip (.exit 0))) (.seq (.block 1 (.region ayE)) (.region ayF)))
def ajS:Rg:=[iM 26 3,iM 2 26]
def FK:aD:=(.seq (.region axX) (.seq (.region axY) (.seq (.seq (.region axZ) (.cond (Tm 9) (.seq (.region ayA) .ret) .skip)) (.seq (.region ayB) (.seq (.seq (.region ayC) (.block 0 (.loop axW))) (.seq (.region ajS) .ret))))))
def aXN:List Nat:=[]
def ZW:bG:=⟨1,27,FK,[.tmp 2]⟩
def aST:Rg:=[iA 4 (.mv (.const .nils))]
def aSU:Rg:=[iM 9 0,iN 10 9,iC 11 .eql 10 0]
def aSV:Rg:=[iA 4 (.mv (.const .nils))]
def aSW:Rg:=[iM 12 1,iC 13 .quo 12 32,iA 14 (.mkslice 1 4 [(.int .u32 0)] (Tm 13) (Tm 13)),iM 5 14]
def aSX:Rg:=[iA 6 (.mv (.const (.int .u64 0)))]
def aSY:Rg:=[iI 7 0]
def aSZ:Rg:=[iM 15 7,iM 16 0,iN 17 16,iB 18 .lss 15 17]
def aTA:Rg:=[iM 21 0,iM 22 7,iX 23 1 21 22,iL 24 23,iA 25 (.conv .u64 (Tm 24)),iM 26 1,iC 27 .rem 26 32,iA 28 (.conv .u64 (Tm 27)),iB 29 .shl 25 28,iM 30 6,iB 31 .or 29 30,iM 8 31]
def aTB:Rg:=[iM 32 5,iM 33 8,iA 34 (.conv .u32 (Tm 33)),iA 35 (.bslice true 1 1 [(.int .u32 0)] [(0,(Tm 34))]),iA 36 (.append 1 4 (Tm 32) (Tm 35)),iM 5 36]
def aTC:Rg:=[iM 37 8,iA 38 (.bin .shr (Tm 37) (.const (.int .u64 32))),iM 6 38]
def aHW:Rg:=[iM 19 7,iC 20 .add 19 1,iM 7 20]
def aHV:aD:=(.seq (.seq (.region aSZ) (.cond (Tm 18) .skip (.exit 0))) (.seq (.block 1 (.seq (.region aTA) (.seq (.region aTB) (.region aTC)))) (.region aHW)))
def aHX:Rg:=[iM 39 5,iM 40 6,iA 41 (.conv .u32 (Tm 40)),iA 42 (.bslice true 1 1 [(.int .u32 0)] [(0,(Tm 41))]),iA 43 (.append 1 4 (Tm 39) (Tm 42)),iA 44 (.call 38 [(Tm 43)]),iM 4 44]
def UE:aD:=(.seq (.region aST) (.seq (.seq (.region aSU) (.cond (Tm 11) (.seq (.region aSV) .ret) .skip)) (.seq (.region aSW) (.seq (.region aSX) (.seq (.seq (.region aSY) (.block 0 (.loop aHV))) (.seq (.region aHX) .ret))))))
def a5U:List Nat:=[35,42]
def uup:bG:=⟨2,45,UE,[.tmp 4]⟩
def ayM:Rg:=[iA 4 (.mv (.const .nils))]
def ayN:Rg:=[iM 8 1,iC 9 .quo 8 32,iM 10 0,iN 11 10,iB 12 .geq 9 11]
def ayO:Rg:=[iA 4 (.mv (.const .nils))]
def ayP:Rg:=[iA 5 (.mv (.const .nils))]
def ayQ:Rg:=[iM 13 1,iC 14 .quo 13 32,iM 6 14]
def ayR:Rg:=[iM 15 6,iM 16 0,iN 17 16,iB 18 .lss 15 17]
def ayS:Rg:=[iM 21 0,iM 22 6,iX 23 1 21 22,iL 24 23,iA 25 (.conv .u64 (Tm 24)),iM 7 25]
def ayT:Rg:=[iM 26 6,iC 27 .add 26 1,iM 28 0,iN 29 28,iB 30 .lss 27 29]
def ayU:Rg:=[iM 31 7,iM 32 0,iM 33 6,iC 34 .add 33 1,iX 35 1 32 34,iL 36 35,iA 37 (.conv .u64 (Tm 36)),iA 38 (.bin .shl (Tm 37) (.const (.int .u64 32))),iB 39 .or 31 38,iM 7 39]
def TZ:Rg:=[iM 40 5,iM 41 7,iM 42 1,iC 43 .rem 42 32,iA 44 (.conv .u64 (Tm 43)),iB 45 .shr 41 44,iA 46 (.conv .u32 (Tm 45)),iA 47 (.bslice true 1 1 [(.int .u32 0)] [(0,(Tm 46))]),iA 48 (.append 1 4 (Tm 40) (Tm 47)),iM 5 48]
def LO:Rg:=[iM 19 6,iC 20 .add 19 1,iM 6 20]
def ajT:aD:=(.seq (.seq (.region ayR) (.cond (Tm 18) .skip (.exit 0))) (.seq (.block 1 (.seq (.region ayS) (.seq (.seq (.region ayT) (.cond (Tm 30) (.region ayU) .skip)) (.region TZ)))) (.region LO)))
def ajU:Rg:=[iM 49 5,iA 50 (.call 38 [(Tm 49)]),iM 4 50]
def FO:aD:=(.seq (.region ayM) (.seq (.seq (.region ayN) (.cond (Tm 12) (.seq (.region ayO) .ret) .skip)) (.seq (.region ayP) (.seq (.seq (.region ayQ) (.block 0 (.loop ajT))) (.seq (.region ajU) .ret)))))
def aXR:List Nat:=[47]
def aaE:bG:=⟨2,51,FO,[.tmp 4]⟩
end Go.PM
