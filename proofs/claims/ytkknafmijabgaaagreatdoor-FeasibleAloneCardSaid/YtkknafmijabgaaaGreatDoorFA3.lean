/-
  Texts of ours, joined. No condition.
-/
import Derived.Test.YtkknafmijabgaaaGreatDoorFA1
import Derived.Test.YtkknafmijabgaaaGreatDoorFA2
import Derived.Lib.ItoaNum
set_option linter.unusedSimpArgs false
set_option linter.unusedVariables false
open Nat renaming reduceEqDiff → γ, reduceAdd → δ, reduceSub → ε, reduceMul → ζ, reduceLT → η, reduceLeDiff → θ, reduceBEq → τ
open Int renaming reduceLT → ι, reduceLE → κ, reduceEq → μ, reduceToNat → ν, reduceAdd → ξ, reduceNeg → ο, reduceBEq → ρ, reduceBNe → σ
open List renaming reduceReplicate → υ
open List renaming length_map → azT, range → azU, replicate → azV, length_append → azX, getElem_mem → azZ, getElem?_eq_getElem → aAA, length_singleton → aAC, mem_cons → aAD, getD_eq_getElem?_getD → aAG, length_take → aAJ, take_of_length_le → aAK, mem_range → aAO, not_mem_nil → aAP, getElem?_map → aAR, mem_map → aAS, getElem?_eq_some_iff → aAW, append_assoc → aAY, map_cons → aBA, mem_append → aBB, drop_zero → aBE, mem_singleton → aBF, getElem?_eq_none → aBG, all_eq_true → aBI, map_append → aBL, take_length → aBM, append_nil → aBN, getElem_of_mem → aBQ, mem_of_getElem? → aBR, length_set → aBX, map_congr_left → aBY, Sublist → aCA, length_nil → aCE, drop_eq_getElem_cons → aCG, map_nil → aCH, take_succ_eq_append_getElem → aCI, Perm → aCM, getElem_map → aCN, range_succ → aCO, nodup_append → aCR, take_append_drop → aCS, getElem?_range → aCV, map_map → aCY, mem_cons_of_mem → aDE, nil_append → aDF, set_append_right → aDJ, drop_of_length_le → aDO, sublist_append_left → aDP
open Nat renaming gcd → azW, le_refl → azY, zero_le → aAH, lt_or_ge → aAM, zero_add → aAU, add_zero → aAZ, mod_eq_of_lt → aBJ, mod_lt → aBP, eq_zero_or_pos → aBU, min_eq_left → aCB, le_trans → aCF, pos_of_ne_zero → aCL
open Option renaming map_some → aBD, some → aCD, getD_some → aCP
open Bool renaming and_eq_true → aAF, false_and → aAI, not_true → aAL, true_and → aAN, not_false → aAX, and_false → aBH, and_true → aBZ, false_eq_true → aCX
open Array renaming getElem?_eq_some_iff → aDQ
open Int renaming toNat_natCast → aDD
namespace Go.PM
open Go Go.Na
theorem aW {t:Nat} {b j:Bool} {F:PF} {H:PH} (h:F t=some (.bool b)) (e:b=j):aS [.tmp t] (cK (.bool j)) .ret F H:=by
 subst e;exact aU (.inr rfl) .nil (vs:=[.bool b]) (by rw[kM,nM,h,oS]) a_ ⟨.refl _,rfl⟩
theorem apE {C:Ctx} (n lo hi:Int):zA.wp C (aS gin.res (cK (.bool (within n lo hi)))) (PF.args [.int .i64 n,.int .i64 lo,.int .i64 hi]) .nil:=by
 by_cases a:lo≤n
 ·by_cases b:n≤hi
  ·simp only[go_sem,zA,ZF,ZG,gin,show n≥lo from a,b];exact aW Ev (by simp[within,a,b])
  ·simp only[go_sem,zA,ZF,ZG,gin,show n≥lo from a,b];exact aW Ev (by simp[within,a,b])
 ·have e:¬ n≥lo:=a;simp only[go_sem,zA,ZF,ZG,gin,e];exact aW Ev (by simp[within,a])
theorem Xe {C:Ctx} (L:sN C) (x:RF) (e:x.Ok):BK.wp C (aS y8.res (cK (.bool (bT x)))) (PF.args [.agg x.cells]) .nil:=by
 simp only[go_sem,BK,lg,lh,y8];refine aB (L.bits x.num e.1 e.2.2.1) Ev ?_;simp only[go_sem];refine aW Ev ?_;have:=@kA (val x.num);rw[bT,decide_eq_decide];omega
structure ug (C:Ctx):Prop extends EL C where
 frac:∀ n d:Int,dS n→dS d→aG C 115 [.int .i64 n,.int .i64 d] .nil (aM (ZQ n d))
 red:∀ x:RF,x.Ok→aG C 116 [.agg x.cells] .nil (aM (frV (uL x)))
 ord:∀ x y:RF,x.Ok→y.Ok→aG C 114 [.agg x.cells,.agg y.cells] .nil (aM (AA x.neg (val x.num) (val x.den) y.neg (val y.num) (val y.den)))
 plus:∀ x y:RF,x.Ok→y.Ok→aG C 113 [.agg x.cells,.agg y.cells] .nil (aM (frV (kJ x.v y.v)))
 tot:∀ l:List RF,oL l→aG C 117 [frs l] .nil (aM (frV (qL (l.map RF.v))))
theorem GO {neg:Bool} {a b:Nat} {e:Int} (h:kX neg a b=.error e):e=2:=by
 unfold kX at h;split at h
 ·injection h with h; exact h.symm
 ·cases h
theorem afW {x:RF} {e:Int} (h:uL x=.error e):e≠0:=by
 unfold uL at h;split at h
 ·rw[GO h]; decide
 ·injection h with h; subst h; decide
theorem amX {x:RF} {r:FV} (h:uL x=.ok r):r.rf.Ok:=by
 unfold uL at h;split at h
 ·exact (tB h).2
 ·cases h
theorem akJ {C:Ctx} (L:ug C) (x:RF) (y:x.Ok):LG.wp C (aS acO.res (cK (.bool (fK x)))) (PF.args [.agg x.cells]) .nil:=by
 simp only[go_sem,LG,M6,M7,acO];refine aB (L.red x y) Ev ?_;unfold fK;cases u:uL x with
 | error e =>have:=bB (afW u);simp only[go_sem,frV];refine aP fun o w=>?_;simp only[go_sem,PG,this];exact aW Ev rfl
 | ok r =>
  obtain⟨n,a,b⟩:=r;obtain⟨A,B,E,F⟩:=amX u;simp only[go_sem,frV];refine aP fun o w=>?_;cases n with
  | true =>simp only[go_sem,PG];exact aW Ev rfl
  | false =>
   simp only[go_sem,PG];refine aB (L.bits _ A E) Ev ?_;rw[show val (FV.rf (false,a,b)).num=a from aY a];by_cases l:cP a≤32
   ·have j:((cP a:Nat):Int)≤32:=Om;simp only[go_sem,j];refine aB (L.bits _ B F) Ev ?_;rw[show val (FV.rf (false,a,b)).den=b from aY b];simp only[go_sem];refine aW Ev ?_;rw[decide_eq_true l];simp;omega
   ·have j:¬ ((cP a:Nat):Int)≤32:=Om;simp only[go_sem,j];refine aW Ev ?_;rw[decide_eq_false l];rfl
theorem Cc:kX false 1 1=.ok (false,1,1):=by
 have:cP 1=1:=by rw[rB (by decide),lE]
 simp[kX,this]
theorem Ch:ZQ 1 1=frV (.ok (false,1,1)):=by
 rw[ZQ,if_neg (by decide),ik];show frV (kX false 1 1)=_;rw[Cc]
theorem Y4:(FV.rf (false,1,1)).Ok:=(tB Cc).2
theorem sk:dY 1 1=true:=by
 have:cP 1=1:=by rw[rB (by decide),lE]
 simp[dY,this]
theorem akN {C:Ctx} (L:ug C) (x:RF) (e:x.Ok):LJ.wp C (aS gone.res (cK (.bool (WR x)))) (PF.args [.agg x.cells]) .nil:=by
 simp only[go_sem,LJ,Nc,Nd,gone];refine aB (L.frac 1 1 (by decide) (by decide)) Ev ?_;rw[Ch];simp only[go_sem,frV];refine aP fun o j=>?_;simp only[go_sem,Nf];refine aB (L.ord x (FV.rf (false,1,1)) e Y4) Ev ?_;rw[show val (FV.rf (false,1,1)).num=1 from aY 1,show val (FV.rf (false,1,1)).den=1 from aY 1,show (FV.rf (false,1,1)).neg=false from rfl];unfold AA WR;rw[sk,aBZ];cases l:dY (val x.num) (val x.den) with
 | false =>simp only[go_sem,gz];exact aW Ev rfl
 | true =>simp only[go_sem,gz];exact aW Ev rfl
theorem acG {C:Ctx} (p:RF→Bool) (fn:Nat) (l:List RF) (y:Fits l) (h:∀ x∈l,aG C fn [.agg x.cells] .nil (aM (.bool (p x)))) :
  FN.wp C (aS S6.res (cK (.bool (l.all p)))) (PF.args [frs l,.fn fn []]) .nil:=by
 simp only[go_sem,FN,zj,zk,S6];refine wp_loop (α:=Nat) (fun k=>((((PF.nil.set 1 (.fn fn [])).set 7 (frs l)).set 8 (.int .i64 (l.length:Nat))).set 9 (.int .i64 k))) (fun _=>.nil) (fun k=>k≤l.length∧(l.take k).all p=true) (fun k=>l.length-k) 0 ⟨aAH _,rfl⟩ ?_ a_ ?_
 ·(repeat' (first|exact c_|refine d_ ?_ ?_))<;>first|(simp only[go_sem,azT]<;>rfl)|rfl
 rintro k ⟨A,j⟩;simp only[go_sem,zi,zl];by_cases hlt:k<l.length
 ·have e:(k:Int)<(l.length:Nat):=Om;have w:(l.map RF.cells)[k]?=some (l[k]).cells:=by simp[hlt]
  simp only[go_sem,e,zm,w];refine aP fun o B=>?_;simp only[go_sem,zn];refine aB (h _ (azZ hlt)) Ev ?_;cases u:p l[k] with
  | false =>simp only[go_sem,zo];exact aW (b:=false) Ev (EO (p:=p) hlt u).symm
  | true =>simp only[go_sem,zp,wZz k];refine aJ (k+1) ⟨hlt,aBI.1 (EN hlt j u)⟩ Om ?_ a_;exact Lq
 ·have e:¬ (k:Int)<(l.length:Nat):=Om;simp only[go_sem,e,zq];have:k=l.length:=Om;subst this;rw[aAK (azY _)] at j;exact aW Ev j.symm
theorem acI {C:Ctx} (p:Int→Bool) (fn:Nat) (l:List Int) (y:Fits l) (h:∀ x∈l,aG C fn [.int .i64 x] .nil (aM (.bool (p x)))) :
  FO.wp C (aS S7.res (cK (.bool (l.all p)))) (PF.args [ints l,.fn fn []]) .nil:=by
 simp only[go_sem,FO,zt,zu,S7];refine wp_loop (α:=Nat) (fun k=>((((PF.nil.set 1 (.fn fn [])).set 7 (ints l)).set 8 (.int .i64 (l.length:Nat))).set 9 (.int .i64 k))) (fun _=>.nil) (fun k=>k≤l.length∧(l.take k).all p=true) (fun k=>l.length-k) 0 ⟨aAH _,rfl⟩ ?_ a_ ?_
 ·(repeat' (first|exact c_|refine d_ ?_ ?_))<;>first|(simp only[go_sem,azT]<;>rfl)|rfl
 rintro k ⟨A,j⟩;simp only[go_sem,zr,zw];by_cases hlt:k<l.length
 ·have e:(k:Int)<(l.length:Nat):=Om;have w:(l.map fun n=>[PV.int .i64 n])[k]?=some [.int .i64 l[k]]:=by simp[hlt]
  simp only[go_sem,e,zx,w,zy];refine aB (h _ (azZ hlt)) Ev ?_;cases u:p l[k] with
  | false =>simp only[go_sem,zz];exact aW (b:=false) Ev (EO (p:=p) hlt u).symm
  | true =>simp only[go_sem,z8,wZz k];refine aJ (k+1) ⟨hlt,aBI.1 (EN hlt j u)⟩ Om ?_ a_;exact Lq
 ·have e:¬ (k:Int)<(l.length:Nat):=Om;simp only[go_sem,e,Aa];have:k=l.length:=Om;subst this;rw[aAK (azY _)] at j;exact aW Ev j.symm
abbrev kF (l:List Bool):PV:=.sl 1 (l.map fun b=>[PV.bool b])
theorem acE {C:Ctx} (p:Bool→Bool) (fn:Nat) (l:List Bool) (y:Fits l) (h:∀ x∈l,aG C fn [.bool x] .nil (aM (.bool (p x)))) :
  FL.wp C (aS S5.res (cK (.bool (l.all p)))) (PF.args [kF l,.fn fn []]) .nil:=by
 simp only[go_sem,FL,za,zb,S5];refine wp_loop (α:=Nat) (fun k=>((((PF.nil.set 1 (.fn fn [])).set 7 (kF l)).set 8 (.int .i64 (l.length:Nat))).set 9 (.int .i64 k))) (fun _=>.nil) (fun k=>k≤l.length∧(l.take k).all p=true) (fun k=>l.length-k) 0 ⟨aAH _,rfl⟩ ?_ a_ ?_
 ·(repeat' (first|exact c_|refine d_ ?_ ?_))<;>first|(simp only[go_sem,azT]<;>rfl)|rfl
 rintro k ⟨A,j⟩;simp only[go_sem,y9,zc];by_cases hlt:k<l.length
 ·have e:(k:Int)<(l.length:Nat):=Om;have w:(l.map fun b=>[PV.bool b])[k]?=some [.bool l[k]]:=by simp[hlt]
  simp only[go_sem,e,zd,w,ze];refine aB (h _ (azZ hlt)) Ev ?_;cases u:p l[k] with
  | false =>simp only[go_sem,zf];exact aW (b:=false) Ev (EO (p:=p) hlt u).symm
  | true =>simp only[go_sem,zg,wZz k];refine aJ (k+1) ⟨hlt,aBI.1 (EN hlt j u)⟩ Om ?_ a_;exact Lq
 ·have e:¬ (k:Int)<(l.length:Nat):=Om;simp only[go_sem,e,zh];have:k=l.length:=Om;subst this;rw[aAK (azY _)] at j;exact aW Ev j.symm
theorem Xg {C:Ctx} (b:Bool):BL.wp C (aS Ae.res (cK (.bool b))) (PF.args [.bool b]) .nil:=by
 simp only[go_sem,BL,lk,ll,Ae];exact aW Ev rfl
theorem acQ {C:Ctx} (e:∀ n lo hi:Int,aG C 104 [.int .i64 n,.int .i64 lo,.int .i64 hi] .nil (aM (.bool (within n lo hi)))) (n:Int):FT.wp C (aS Td.res (cK (.bool (within n 0 8)))) (PF.args [.int .i64 n]) .nil:=by
 simp only[go_sem,FT,An,Ao,Td];refine aB (e n 0 8) Ev ?_;simp only[go_sem];exact aW Ev rfl
theorem Xj {C:Ctx} (j:∀ x:RF,x.Ok→aG C 105 [.agg x.cells] .nil (aM (.bool (fK x)))) (l:∀ x:RF,x.Ok→aG C 97 [.agg x.cells] .nil (aM (.bool (bT x)))) (x:RF) (e:x.Ok) :
  BM.wp C (aS As.res (cK (.bool (fK x&&bT x)))) (PF.args [.agg x.cells]) .nil:=by
 simp only[go_sem,BM,l4,l5,As];refine aB (j x e) Ev ?_;cases u:fK x with
 | false =>simp only[go_sem];exact aW Ev rfl
 | true =>simp only[go_sem];refine aB (l x e) Ev ?_;simp only[go_sem];exact aW Ev rfl
structure sJ (C:Ctx):Prop extends ug C where
 inn:∀ n lo hi:Int,aG C 104 [.int .i64 n,.int .i64 lo,.int .i64 hi] .nil (aM (.bool (within n lo hi)))
 uT:∀ x:RF,x.Ok→aG C 97 [.agg x.cells] .nil (aM (.bool (bT x)))
 lim:∀ x:RF,x.Ok→aG C 105 [.agg x.cells] .nil (aM (.bool (fK x)))
 one:∀ x:RF,x.Ok→aG C 101 [.agg x.cells] .nil (aM (.bool (WR x)))
 allf:∀ (p:RF→Bool) (fn:Nat) (l:List RF),Fits l→(∀ x∈l,aG C fn [.agg x.cells] .nil (aM (.bool (p x))))→aG C 99 [frs l,.fn fn []] .nil (aM (.bool (l.all p)))
 alli:∀ (p:Int→Bool) (fn:Nat) (l:List Int),Fits l→(∀ x∈l,aG C fn [.int .i64 x] .nil (aM (.bool (p x))))→aG C 100 [ints l,.fn fn []] .nil (aM (.bool (l.all p)))
 allb:∀ (p:Bool→Bool) (fn:Nat) (l:List Bool),Fits l→(∀ x∈l,aG C fn [.bool x] .nil (aM (.bool (p x))))→aG C 98 [kF l,.fn fn []] .nil (aM (.bool (l.all p)))
 ends1:∀ b:Bool,aG C 103 [.bool b] .nil (aM (.bool b))
 num1:∀ n:Int,aG C 107 [.int .i64 n] .nil (aM (.bool (within n 0 8)))
 rate1:∀ x:RF,x.Ok→aG C 109 [.agg x.cells] .nil (aM (.bool (fK x&&bT x)))
 name:∀ s:List UInt8,aG C 123 [.str s] .nil (aM (.bool (isName s)))
theorem sJ.adK {C:Ctx} (L:sJ C) (l:List RF) (h:oL l):aG C 99 [frs l,.fn 105 []] .nil (aM (.bool (l.all fK))) :=
 L.allf fK 105 l h.fits fun x e=>L.lim x (h.all x e)
theorem within_iff {n lo hi:Int}:within n lo hi=true↔lo≤n∧n≤hi:=by simp[within]
theorem akL {C:Ctx} (L:sJ C) (p:cX) (F:p.Ok) :
  LH.wp C (aS acP.res (cK (.bool (WP p)))) (PF.args [.int .i64 p.k,.int .i64 p.m,.int .i64 p.azE,.agg [.int .i64 p.s0,.int .i64 p.s1,.int .i64 p.s2,.int .i64 p.s3,.int .i64 p.s4]]) .nil:=by
 simp only[go_sem,LH,M8,M9,acP];refine aB (L.inn p.k 1 6) rfl ?_;unfold WP;cases y:within p.k 1 6 with
 | false =>simp only[go_sem,aAX,yI];exact aW rfl (by simp only[aAI])
 | true =>
  obtain⟨k1,k2⟩:=within_iff.1 y;simp only[go_sem,aAL];refine aB (L.inn p.m 0 4) rfl ?_;cases A:within p.m 0 4 with
  | false =>simp only[go_sem,aAX,yI];exact aW rfl (by simp only[aAI,aBH])
  | true =>
   obtain⟨I,J⟩:=within_iff.1 A;have w:IntKind.i64.wrap (p.k+p.m)=p.k+p.m:=wrap_i64 Om Om;by_cases u:p.k+p.m≤8
   ·have e:¬ p.k+p.m>8:=Om;simp only[go_sem,aAL,w,e];refine aB (L.inn p.azE p.k (p.k+p.m)) rfl ?_;cases E:within p.azE p.k (p.k+p.m) with
    | false =>simp only[go_sem,aAX,yI];exact aW rfl (by simp only[aAI,aBH])
    | true =>
     have j:(0:Int)<((5:Nat):Int):=by decide
     by_cases h5:p.s0=0
     ·have l:chunks 1 5 [PV.int .i64 p.s0,.int .i64 p.s1,.int .i64 p.s2,.int .i64 p.s3,.int .i64 p.s4]=([p.s0,p.s1,p.s2,p.s3,p.s4].map fun n=>[PV.int .i64 n]):=rfl;have B:5≤maxLen:=by decide
      simp only[go_sem,aAL,j,cM h5,Nb,l,B];refine aB (L.alli (fun n=>within n 0 8) 107 [p.s0,p.s1,p.s2,p.s3,p.s4] (show 5≤9223372036854775807 by decide) fun x _=>L.num1 x) rfl ?_;simp only[go_sem];exact aW rfl (by rw[decide_eq_true u,decide_eq_true h5]; simp only[aAN])
     ·simp only[go_sem,aAL,j,eF h5,yI];exact aW rfl (by rw[decide_eq_false h5]; simp only[aAI,aBH])
   ·have e:p.k+p.m>8:=Om;simp only[go_sem,aAL,w,e,yI];exact aW rfl (by rw[decide_eq_false u]; simp only[aAI,aBH])
theorem max_eq (a b:Int):(if a<b then b else a)=max a b:=by
 rw[Int.max_def];by_cases h:a<b
 ·rw[if_pos h,if_pos Om]
 ·by_cases e:a≤b
  ·rw[if_neg h,if_pos e]; omega
  ·rw[if_neg h,if_neg e]
theorem acT {C:Ctx} (L:sJ C) (p:cX) (e:p.Ok) :
  FU.wp C (aS Te.res (cK (.bool (QB p)))) (PF.args [.int .i64 p.m,frs p.repair,.agg p.target.cells,.agg p.ayQ.cells]) .nil:=by
 simp only[go_sem,FU,At,Au,Te,max_eq,azT];unfold QB;by_cases j:(p.repair.length:Int)=max p.m 1
 ·simp only[go_sem,bM j];refine aB (L.allf (fun x=>fK x&&bT x) 109 p.repair e.repair.fits fun x l=>L.rate1 x (e.repair.all x l)) rfl ?_;rw[decide_eq_true j,aAN];cases u:p.repair.all fun x=>fK x&&bT x with
  | false =>simp only[go_sem];exact aW rfl rfl
  | true =>
   simp only[go_sem];refine aB (L.lim _ e.target) rfl ?_;cases w:fK p.target with
   | false =>simp only[go_sem];exact aW rfl rfl
   | true =>
    simp only[go_sem];refine aB (L.one _ e.target) rfl ?_;cases y:WR p.target with
    | false =>simp only[go_sem];exact aW rfl rfl
    | true =>simp only[go_sem];refine aB (L.lim _ e.ayQ) rfl ?_;simp only[go_sem];exact aW rfl rfl
 ·simp only[go_sem,bB j];exact aW rfl (by rw[decide_eq_false j]; rfl)
def qE (l:List (List UInt8)) (k:List KS):Option PV:=match k with
 | [.str s]=>if l.contains s then some (.bool true) else none
 | _=>none
theorem Zh (l:List (List UInt8)) (s:List UInt8):(fun k=>if k=[KS.str s] then some (PV.bool true) else qE l k)=qE (l++[s]):=by
 funext k
 match k with
 | []=>rfl
 | [.int a b]=>simp[qE]
 | [.bool a]=>simp[qE]
 | [.str t] =>
  by_cases h:t=s
  ·subst h; simp[qE]
  ·simp[qE,h]
 | a::b::c=>simp[qE]
abbrev texts (l:List (List UInt8)):PV:=.sl 1 (l.map fun s=>[PV.str s])
theorem Zg:qE []=(fun _=>none:jQ):=by
 funext k
 match k with
 | []=>rfl
 | [.int a b]=>rfl
 | [.bool a]=>rfl
 | [.str t]=>rfl
 | a::b::c=>cases a<;>rfl
theorem Zi (l:List (List UInt8)) (s:List UInt8):jQ.upd (qE l) [KS.str s] (.bool true)=qE (l++[s]):=Zh l s
theorem Gr (l:List (List UInt8)) (s:List UInt8):(qE l [KS.str s]).getD (.bool false)=.bool (l.contains s):=by
 show (if l.contains s then some (PV.bool true) else none).getD (.bool false)=_;cases l.contains s<;>rfl
theorem jn {p:Nat→Bool} {k:Nat} (h:(azU k).all p=true) (e:p k=true):(azU (k+1)).all p=true:=by
 rw[aCO,List.all_append,h]; simp[e]
theorem fC {p:Nat→Bool} {n k:Nat} (e:k<n) (j:p k=false):(azU n).all p=false:=by
 rw[List.all_eq_false];exact⟨k,aAO.2 e,by simp[j]⟩
def qR (p:Nat→Bool) (k:Nat):Prop:=(azU k).all p=true
theorem qR.zero {p:Nat→Bool}:qR p 0:=rfl
theorem qR.step {p:Nat→Bool} {k:Nat} (h:qR p k) (e:p k=true):qR p (k+1):=jn h e
def Vn (l:List (List UInt8)) (o k:Nat):PF:=((((PF.nil.set 3 (.map o)).set 7 (texts l)).set 8 (.int .i64 (l.length:Nat))).set 9 (.int .i64 k))
theorem acW {C:Ctx} (L:sJ C) (l:List (List UInt8)) (F:Fits l):FX.wp C (aS Th.res (cK (.bool (distinct l)))) (PF.args [texts l]) .nil:=by
 simp only[go_sem,FX,A0,A1,Th];refine aP fun o J=>?_;simp only[go_sem,A2];have A:(PH.nil.set o (.map (false,[.str]) (fun _=>none)))=PH.nil.set o (.map (false,[.str]) (qE (l.take 0))):=by rw[List.take_zero,Zg]
 unfold distinct;generalize B:(fun i=>isName (l.getD i [])&&!(l.take i).contains (l.getD i []))=p;have w:∀ k (h:k<l.length),p k=(isName l[k]&&!(l.take k).contains l[k]):=by intro k h;rw[← B];simp only[aAG,aAA h,aCP]
 refine wp_loop (α:=Nat) (fun k=>Vn l o k) (fun k=>PH.nil.set o (.map (false,[.str]) (qE (l.take k)))) (fun k=>k≤l.length∧qR p k) (fun k=>l.length-k) 0 ⟨aAH _,.zero⟩ ?_ ?_ ?_
 ·unfold Vn
  (repeat' (first|exact c_|refine d_ ?_ ?_))<;>first|(simp only[go_sem,azT]<;>rfl)|rfl
 ·rw[A]; exact b_
 rintro k ⟨I,y⟩;simp only[go_sem,Az,A3,Vn];by_cases hlt:k<l.length
 ·have j:(k:Int)<(l.length:Nat):=Om;have E:(l.map fun s=>[PV.str s])[k]?=some [.str l[k]]:=by simp[hlt]
  simp only[go_sem,j,A4,E,A5];refine aB (L.name l[k]) rfl ?_;have e:=w k hlt;cases x:isName l[k] with
  | false =>rw[x,aAI] at e;simp only[go_sem,aAX,UC];exact aW (b:=false) rfl (fC hlt e).symm
  | true =>
   rw[x,aAN] at e;cases u:(l.take k).contains l[k] with
   | true =>rw[u] at e;simp only[go_sem,aAL,Gr,u,UC];exact aW (b:=false) rfl (fC hlt e).symm
   | false =>
    rw[u] at e;simp only[go_sem,aAL,Gr,u,A6,Zi,A7,wZz k];refine aJ (k+1) ⟨hlt,y.step e⟩ Om ?_ ?_
    ·exact Lq
    ·rw[aCI hlt];exact e_ a_ Sq
 ·have j:¬ (k:Int)<(l.length:Nat):=Om;simp only[go_sem,j,l6];have:k=l.length:=Om;subst this;exact aW (b:=true) rfl (show qR p l.length from y).symm
def marks (n:Nat) (l:List Int):List Bool:=(azU n).map fun (i:Nat)=>l.contains (i:Int)
theorem X1 (n:Nat) (l:List Int):(marks n l).length=n:=by simp[marks]
theorem mp (n:Nat):marks n []=azV n false:=by
 refine List.ext_getElem (by simp[marks]) fun i e j=>by simp[marks]
theorem UT {n:Nat} {l:List Int} {m:Int} (e:0≤m) (j:m<n):(marks n l)[m.toNat]?=some (l.contains m):=by
 have:m.toNat<n:=Om;simp only[marks,aAR,aCV this,aBD];rw[Int.toNat_of_nonneg e]
theorem mq {n:Nat} {l:List Int} {m:Int} (j:0≤m) (u:m<n):(marks n l).set m.toNat true=marks n (l++[m]):=by
 refine List.ext_getElem (by simp[marks]) fun i w x=>?_;simp only[marks,aCN,List.getElem_range,List.getElem_set,List.contains_append];by_cases h:m.toNat=i
 ·subst h;rw[if_pos rfl,Int.toNat_of_nonneg j]; simp
 ·have e:((i:Nat):Int)≠m:=Om;rw[if_neg h]; simp[e]
abbrev bD (l:List Bool):List (List PV):=l.map fun b=>[PV.bool b]
theorem rR (l:List Bool) (i:Nat) (b:Bool):(bD l).set i [.bool b]=bD (l.set i b):=by unfold bD; rw[List.map_set]
structure va (C:Ctx):Prop extends sJ C where
 num:∀ p:cX,p.Ok→aG C 106 [.int .i64 p.k,.int .i64 p.m,.int .i64 p.azE,.agg [.int .i64 p.s0,.int .i64 p.s1,.int .i64 p.s2,.int .i64 p.s3,.int .i64 p.s4]] .nil (aM (.bool (WP p)))
 rate:∀ p:cX,p.Ok→aG C 108 [.int .i64 p.m,frs p.repair,.agg p.target.cells,.agg p.ayQ.cells] .nil (aM (.bool (QB p)))
 uniq:∀ l:List (List UInt8),Fits l→aG C 110 [texts l] .nil (aM (.bool (distinct l)))
def afP (p:cX) (ayG:Nat) (o k:Nat):PF:=(((((PF.nil.set 1 (.int .i64 ayG)).set 5 (.osl o 1 0 ayG)).set 39 (ints p.ayG)).set 40 (.int .i64 (p.ayG.length:Nat))).set 41 (.int .i64 k))
theorem akP {C:Ctx} (L:va C) (p:cX) (I:p.Ok) (ayG:Nat) (V:ayG≤4):LK.wp C (aS acS.res (cK (.bool (kL ayG p)))) (PF.args [.agg p.cells,.int .i64 ayG]) .nil:=by
 simp only[go_sem,LK,Ng,Nh,acS];refine aB (L.num p I) rfl ?_;unfold kL;cases x:WP p with
 | false =>simp only[go_sem,aAX,PI];exact aW rfl (by simp only[aAI])
 | true =>
  by_cases w:p.ayG.length=0
  ·simp only[go_sem,aAL,azT,bM (Om:(p.ayG.length:Int)=0),PI];refine aW rfl ?_;have:decide (p.ayG.length≠0)=false:=by simp[w]
   rw[this]; simp only[aAI,aBH]
  ·have B:decide (p.ayG.length≠0)=true:=by simp[w]
   simp only[go_sem,aAL,azT,bB (Om:(p.ayG.length:Int)≠0)];refine aB (L.rate p I) rfl ?_;rw[B];cases S:QB p with
   | false =>simp only[go_sem,aAX,PI];exact aW rfl (by simp only[aAI,aBH])
   | true =>
    have E:((ayG:Nat):Int)*((1:Nat):Int)≤140737488355328:=Om;have F:((ayG:Nat):Int)≤9223372036854775807:=Om;simp only[aAN];simp only[go_sem,aAL,Ni,E,F];refine aP fun o W=>?_;simp only[go_sem,Nj];have N:azV ayG [PV.bool false]=bD (marks ayG (p.ayG.take 0)):=by rw[List.take_zero,mp]; simp[bD]
    rw[N];generalize hq:(fun j=>within (p.ayG.getD j 0) 0 ((ayG:Int)-1)&&!(p.ayG.take j).contains (p.ayG.getD j 0))=q;have J:∀ k (h:k<p.ayG.length),q k=(within p.ayG[k] 0 ((ayG:Int)-1)&&!(p.ayG.take k).contains p.ayG[k]):=by intro k h;rw[← hq];simp only[aAG,aAA h,aCP]
    refine wp_loop (α:=Nat) (fun k=>afP p ayG o k) (fun k=>PH.nil.set o (.rows 1 (bD (marks ayG (p.ayG.take k))))) (fun k=>k≤p.ayG.length∧qR q k) (fun k=>p.ayG.length-k) 0 ⟨aAH _,.zero⟩ ?_ (b_) ?_
    ·unfold afP
     (repeat' (first|exact c_|refine d_ ?_ ?_))<;>first|(simp only[go_sem,azT]<;>rfl)|rfl
    rintro k ⟨U,K⟩;simp only[go_sem,Ap,Nk,afP];have M:=I.ayG;by_cases hlt:k<p.ayG.length
    ·have l:(k:Int)<(p.ayG.length:Nat):=Om;have O:(p.ayG.map fun n=>[PV.int .i64 n])[k]?=some [.int .i64 p.ayG[k]]:=by simp[hlt]
     have R:IntKind.i64.wrap ((ayG:Int)-1)=(ayG:Int)-1:=wrap_i64 Om Om;simp only[go_sem,l,Nl,O,Nm,R];refine aB (L.inn p.ayG[k] 0 ((ayG:Int)-1)) rfl ?_;have e:=J k hlt;cases x:within p.ayG[k] 0 ((ayG:Int)-1) with
     | false =>rw[x,aAI] at e;simp only[go_sem,aAX,ia];exact aW (b:=false) rfl (fC hlt e).symm
     | true =>
      rw[x,aAN] at e;obtain⟨y,X⟩:=within_iff.1 x;have A:p.ayG[k]<(ayG:Nat):=Om;have u:(bD (marks ayG (p.ayG.take k)))[p.ayG[k].toNat]?=some [.bool ((p.ayG.take k).contains p.ayG[k])]:=by unfold bD;rw[aAR,UT y A]; rfl
      cases w:(p.ayG.take k).contains p.ayG[k] with
      | true =>rw[w] at e u;simp only[go_sem,aAL,y,A,aAU,u,ia];exact aW (b:=false) rfl (fC hlt e).symm
      | false =>
       rw[w] at e u;simp only[go_sem,aAL,y,A,aAU,u,Nn,rR,mq y A,Aq,wZz k];refine aJ (k+1) ⟨hlt,K.step e⟩ Om ?_ ?_
       ·exact Lq
       ·rw[aCI hlt];exact e_ a_ Sq
    ·have l:¬ (k:Int)<(p.ayG.length:Nat):=Om;simp only[go_sem,l,Ar];have:k=p.ayG.length:=Om;subst this;exact aW (b:=true) rfl (show qR q p.ayG.length from K).symm
def abI:PV→RF
 | .agg [.bool n,a,b]=>⟨n,lP a,lP b⟩
 | _=>⟨false,[],[]⟩
theorem Sj (x:RF):abI (.agg x.cells)=x:=by
 show (⟨x.neg,lP (aI x.num),lP (aI x.den)⟩:RF)=x;rw[fN,fN]
def flS:Spec:=fun name vs=>match name,vs with
 | 104,[.int _ n,.int _ lo,.int _ hi]=>some ([],fun _=>aM (.bool (within n lo hi)))
 | 105,[x]=>some ([],fun _=>aM (.bool (fK (abI x))))
 | 97,[x]=>some ([],fun _=>aM (.bool (bT (abI x))))
 | _,_=>none
theorem w9 (n lo hi:Int):flS 104 [.int .i64 n,.int .i64 lo,.int .i64 hi]=some ([],fun _=>aM (.bool (within n lo hi))):=rfl
theorem ajW (x:RF):flS 105 [.agg x.cells]=some ([],fun _=>aM (.bool (fK x))):=by
 show some _=_; rw[Sj]
def Ta (f:aC) (t:List cS) (k:Nat):PF:=((((PF.nil.set 1 (.cZ f.cells)).set 45 (.sl 7 (t.map cS.cells))).set 46 (.int .i64 (t.length:Nat))).set 47 (.int .i64 k))
theorem akF {C:Ctx} (L:sJ C) (f:aC) (hf:f.Ok):AD.wp C (aS S9.res (cK (.bool (nA f)))) (PF.args [.agg f.cells]) .nil:=by
 obtain⟨azL,ayN,ayG,ayI,ayF,ayJ,ayH⟩:=f;cases ayI with
 | nil =>rw[show nA ⟨azL,ayN,ayG,[],ayF,ayJ,ayH⟩=false from rfl];simp only[go_sem,AD,gx,gy,S9,aCH,aCE];have:(((0:Nat):Int)==0)=true:=rfl;simp only[go_sem,this,Ms];exact aW rfl rfl
 | cons r t =>
  generalize hF:(⟨azL,ayN,ayG,r::t,ayF,ayJ,ayH⟩:aC)=f at *
  have B:f.ayI=r::t:=by rw[← hF]
  have hP:nA f=OY f r t:=by unfold nA; rw[B]
  rw[hP];unfold OY;have j:f.ayI.length=t.length+1:=by rw[B]; rfl
  have β:=hf.ayI;have J:(f.ayI.map cS.cells)[0]?=some r.cells:=by rw[B]; rfl
  have γ:(f.ayI.map cS.cells)[Int.toNat 0]?=some r.cells:=J;have F:=hf.dom;have w:=F r (by rw[B]; exact List.mem_cons_self ..);simp only[go_sem,AD,gx,gy,S9,azT,j,bB (Om:((t.length+1:Nat):Int)≠0),Mt,J];refine aP fun o ho=>?_;by_cases x:r.name=[]
  ·rw[decide_eq_true x];by_cases A:r.level=0
   ·rw[decide_eq_true A];by_cases E:r.parent=-1
    ·rw[decide_eq_true E];by_cases K:r.azA=0
     ·rw[decide_eq_true K];simp only[go_sem,yG,pS x,aAL,cM A,cM E,cM K];refine aB (L.lim r.ayV w.1) rfl ?_;cases c5:fK r.ayV with
      | false =>simp only[go_sem,aAX,uD];exact aW rfl (by simp only[aBH,aAI])
      | true =>
       simp only[go_sem,aAL];refine aB (L.uT r.ayV w.1) rfl ?_;cases c6:bT r.ayV with
       | true =>simp only[go_sem,uD];exact aW rfl (by simp only[aAL,aBH,aAI])
       | false =>
        have V:(0:Int)≤1∧(1:Int)≤((t.length+1:Nat):Int):=Om;have y:((f.ayI.map cS.cells).take (t.length+1)).drop (Int.toNat 1)=t.map cS.cells:=by rw[aAK (by simp[j]),B]; rfl
        have u:((f.ayI.map cS.cells).take (t.length+1)).drop 1=t.map cS.cells:=y;simp only[go_sem,Mu,azT,j,V,u,aDD];generalize hq:(fun i=>match t[i]? with | some d=>TD f i d | none=>false)=q;have S:∀ k (h:k<t.length),q k=TD f k t[k]:=by intro k h;rw[← hq];simp only[aAA h]
        refine wp_loop (α:=Nat) (fun k=>Ta f t k) (fun k=>.nil) (fun k=>k≤t.length∧qR q k) (fun k=>t.length-k) 0 ⟨aAH _,.zero⟩ ?_ a_ ?_
        ·unfold Ta
         (repeat' (first|exact c_|refine d_ ?_ ?_))<;>first|(simp only[go_sem,azT]<;>rfl)|rfl
        rintro k ⟨hk,Z⟩;simp only[go_sem,Ab,Mv,Ta];by_cases hlt:k<t.length
        ·have l:(k:Int)<(t.length:Nat):=Om;have U:(t.map cS.cells)[k]?=some (t[k]).cells:=by simp[hlt]
         have O:=F t[k] (by rw[B]; exact aDE _ (azZ hlt));have e:=S k hlt;unfold TD at e;simp only[go_sem,l,Mw,U];refine aP fun o2 δ=>?_;simp only[go_sem];refine bO .nil flS a_ ?_;simp only[go_sem,Mx];refine dJ (w9 _ 0 k) (L.inn (t[k]).parent 0 k) rfl a_ ?_;cases N:within (t[k]).parent 0 k with
         | false =>simp only[N,aAI] at e;simp only[go_sem,aAX,uC];exact aW (b:=false) rfl (fC hlt e).symm
         | true =>
          obtain⟨i1,i2⟩:=within_iff.1 N;have i3:(t[k]).parent.toNat<f.ayI.length:=Om;have I:(f.ayI.map cS.cells)[(t[k]).parent.toNat]?=some (f.ayI[(t[k]).parent.toNat]).cells:=by simp[i3]
          have R:(f.ayI.map cS.level).getD (t[k]).parent.toNat 0=(f.ayI[(t[k]).parent.toNat]).level:=by simp[i3]
          rw[R,N,aAN] at e;by_cases M:(f.ayI[(t[k]).parent.toNat]).level=IntKind.i64.wrap ((t[k]).level-1)
          ·rw[decide_eq_true M,aAN] at e;simp only[go_sem,aAL,i1,I,cM M];refine dJ (w9 _ 1 4) (L.inn (t[k]).level 1 4) rfl a_ ?_;cases W:within (t[k]).level 1 4 with
           | false =>simp only[W,aAI] at e;simp only[go_sem,aAX,uC];exact aW (b:=false) rfl (fC hlt e).symm
           | true =>
            rw[W,aAN] at e;simp only[go_sem,aAL];refine dJ (w9 _ 1 64) (L.inn (t[k]).azA 1 64) rfl a_ ?_;cases X:within (t[k]).azA 1 64 with
            | false =>simp only[X,aAI] at e;simp only[go_sem,aAX,uC];exact aW (b:=false) rfl (fC hlt e).symm
            | true =>
             rw[X,aAN] at e;simp only[go_sem,aAL];refine dJ (ajW (t[k]).ayV) (L.lim _ O.1) rfl a_ ?_;cases Y:fK (t[k]).ayV with
             | false =>rw[Y] at e;simp only[go_sem,aAX,uC];exact aW (b:=false) rfl (fC hlt e).symm
             | true =>rw[Y] at e;simp only[go_sem,aAL,Ac,wZz k];refine aJ (k+1) ⟨hlt,Z.step e⟩ Om ?_ a_;exact Lq
          ·simp only[decide_eq_false M,aAI] at e;simp only[go_sem,aAL,i1,I,eF M,uC];exact aW (b:=false) rfl (fC hlt e).symm
        ·have l:¬ (k:Int)<(t.length:Nat):=Om;simp only[go_sem,l,Ad];have:k=t.length:=Om;subst this;exact aW (b:=true) rfl (show qR q t.length from Z).symm
     ·simp only[go_sem,yG,pS x,aAL,cM A,cM E,eF K,uD];exact aW rfl (by rw[decide_eq_false K]; simp only[aBH,aAI])
    ·simp only[go_sem,yG,pS x,aAL,cM A,eF E,uD];exact aW rfl (by rw[decide_eq_false E]; simp only[aBH,aAI])
   ·simp only[go_sem,yG,pS x,aAL,eF A,uD];exact aW rfl (by rw[decide_eq_false A]; simp only[aBH,aAI])
  ·simp only[go_sem,yG,YB x,aAX,uD];exact aW rfl (by rw[decide_eq_false x]; simp only[aBH,aAI])
theorem zM (R:List Bool) (i:Nat) (row:List RF):∀ k,(eI R i row k).length=R.length
 | 0=>rfl
 | k+1=>by simp only[eI,aBX,zM R i row k]
theorem Gg (l:cW) (R:List Bool) (i:Nat):(mC l R i).length=R.length:=by
 unfold mC; rw[zM,aBX]
theorem uK (l:cW) (R:List Bool):∀ i,(fF l R i).length=R.length
 | 0=>rfl
 | i+1=>by simp only[fF,Gg,uK l R i]
theorem da (l:cW):∀ r,(hZ l r).length=l.exit.length
 | 0=>by simp[hZ]
 | r+1=>by simp only[hZ,uK,da l r]
theorem lN {R:List Bool} {i:Nat} (h:i<R.length):(bD R)[i]?=some [.bool (R.getD i false)]:=by
 unfold bD;rw[aAR,aAA h,aAG,aAA h]; rfl
theorem iY (R:List Bool):(bD R).length=R.length:=by simp[bD]
def OZ (l:cW) (o r:Nat):PF:=(((PF.nil.set 1 (.cZ l.cells)).set 3 (.osl o 1 0 l.exit.length)).set 4 (.int .i64 r))
def EW (l:cW) (o r i:Nat):PF:=(((((PF.nil.set 1 (.cZ l.cells)).set 3 (.osl o 1 0 l.exit.length)).set 4 (.int .i64 r)).set 19 (.int .i64 (l.exit.length:Nat))).set 20 (.int .i64 i))
def sV (l:cW) (o r i:Nat) (row:List RF) (k:Nat):PF:=(((((((((PF.nil.set 1 (.cZ l.cells)).set 3 (.osl o 1 0 l.exit.length)).set 4 (.int .i64 r)).set 19 (.int .i64 (l.exit.length:Nat))).set 20 (.int .i64 i)).set 5 (.int .i64 i)).set 42 (frs row)).set 43 (.int .i64 (row.length:Nat))).set 44 (.int .i64 k))
def sW (o:Nat) (R:List Bool):PH:=PH.nil.set o (.rows 1 (bD R))
theorem Jr {C:Ctx} (L:sJ C) (l:cW) (o r i:Nat) (row:List RF) (I:oL row) (W:row.length=l.exit.length) (hi:i<l.exit.length) (hn:l.exit.length≤4) (e:List Bool) (X:e.length=l.exit.length) (K:cN) (F:PF) (H:PH)
  (N:(sV l o r i row 0).le F) (J:(sW o e).le H)
  (U:∀ F H,(sV l o r i row row.length).le F→(sW o (eI e i row row.length)).le H→K .normal F H) :
  aE.wp C (.block 4 (.loop AE)) K F H:=by
 simp only[go_sem];refine wp_loop (α:=Nat) (fun k=>sV l o r i row k) (fun k=>sW o (eI e i row k)) (fun k=>k≤row.length) (fun k=>row.length-k) 0 (aAH _) N J ?_;intro k Z;simp only[go_sem,AE,Al,sV,sW];have O:=zM e i row k;by_cases hlt:k<row.length
 ·have j:(k:Int)<(row.length:Nat):=Om;have V:(row.map RF.cells)[k]?=some (row[k]).cells:=by simp[hlt]
  simp only[go_sem,j,ln,V];refine aP fun o7 E=>?_;have M:o≠o7:=by rintro rfl; simp only[aQ,if_true] at E; cases E
  have w:(i:Int)<(l.exit.length:Nat):=Om;have B:(k:Int)<(l.exit.length:Nat):=Om;have u:=lN (R:=eI e i row k) (i:=i) Om;have x:=lN (R:=eI e i row k) (i:=k) Om;have y:eI e i row (k+1)=(eI e i row k).set i ((eI e i row k).getD i false||bT row[k]&&(eI e i row k).getD k false):=by simp only[eI,aAG,aAR,aAA hlt,aBD,aCP]
  have fin:∀ (b:Bool) (F:PF) (H:PH),b=((eI e i row k).getD i false||bT row[k]&&(eI e i row k).getD k false)→(sV l o r i row (k+1)).le F→H o=some (.rows 1 ((bD (eI e i row k)).set i [.bool b])) →
    jT (fun k=>sV l o r i row k) (fun k=>sW o (eI e i row k)) (fun k=>k≤row.length) (fun k=>row.length-k) (row.length-k) (fZ 4 K) .normal F H:=by
   intro b F H hb N J;refine aJ (k+1) hlt Om N ?_;rw[rR,hb,← y] at J;exact e_ a_ J
  unfold sV sW at fin;generalize hb:(eI e i row k).getD i false=b at *
  generalize Y:(eI e i row k).getD k false=c at *
  generalize S:bT row[k]=A at *
  cases b with
  | true =>simp only[go_sem,LD,M,w,aAU,u,AG,wZz k];exact fin true _ _ (by simp) Lq Sq
  | false =>
   simp only[go_sem,LD,M,w,aAU,u];refine aB (L.uT _ (I.all _ (azZ hlt))) rfl ?_;rw[S];cases A with
   | false =>simp only[go_sem,w,B,M,aAU,u,x,AG,wZz k];exact fin false _ _ (by simp) Lq Sq
   | true =>simp only[go_sem,w,B,M,aAU,u,x,AG,wZz k];exact fin c _ _ (by simp) Lq Sq
 ·have j:¬ (k:Int)<(row.length:Nat):=Om;simp only[go_sem,j];have:k=row.length:=Om;subst this;exact U _ _ (by unfold sV; exact Lq) (b_)
structure XQ (l:cW):Prop where
 n:l.exit.length≤4
 ayK:l.ayK.length=l.exit.length
 row:∀ r∈l.ayK,r.length=l.exit.length
theorem Js {C:Ctx} (L:sJ C) (l:cW) (U:l.Ok) (he:XQ l) (o r:Nat) (R:List Bool) (hR:R.length=l.exit.length) (K:cN) (F:PF) (H:PH)
  (x:(EW l o r 0).le F) (N:(sW o R).le H)
  (hK:∀ F H,(OZ l o r).le F→(sW o (fF l R l.exit.length)).le H→K .normal F H) :
  aE.wp C (.block 2 (.loop AF)) K F H:=by
 simp only[go_sem];refine wp_loop (α:=Nat) (fun i=>EW l o r i) (fun i=>sW o (fF l R i)) (fun i=>i≤l.exit.length) (fun i=>l.exit.length-i) 0 (aAH _) x N ?_;intro i hi;have V:=uK l R i;have hn:=he.n;by_cases hlt:i<l.exit.length
 ·have e:(i:Int)<(l.exit.length:Nat):=Om;have w:i<l.ayK.length:=by rw[he.ayK]; exact hlt
  have y:=lN (R:=fF l R i) (i:=i) Om;have hx:(l.exit.map RF.cells)[i]?=some (l.exit[i]).cells:=by simp[hlt]
  have I:(l.ayK.map fun r=>[frs r])[i]?=some [frs l.ayK[i]]:=by simp[w]
  have S:(l.ayK[i]).length=l.exit.length:=he.row _ (azZ w);generalize u:(fF l R i).set i ((fF l R i).getD i false||bT l.exit[i])=J;have E:J.length=l.exit.length:=by rw[← u,aBX]; omega
  have A:fF l R (i+1)=eI J i l.ayK[i] (l.ayK[i]).length:=by
   simp only[fF,mC];have X:(l.exit.map bT).getD i false=bT l.exit[i]:=by simp[aAG,hlt]
   have Y:l.ayK.getD i []=l.ayK[i]:=by simp[aAG,w]
   rw[X,Y,u]
  have j:∀ (F:PF) (H:PH),(((((((PF.nil.set 1 (.cZ l.cells)).set 3 (.osl o 1 0 l.exit.length)).set 4 (.int .i64 r)).set 19 (.int .i64 (l.exit.length:Nat))).set 20 (.int .i64 i)).set 5 (.int .i64 i)):PF).le F→H o=some (.rows 1 (bD J)) →
    aE.wp C (.seq (.region TY) (.block 4 (.loop AE))) (fZ 3 (mD C (aE.wp C (.region LE)) (jT (fun i=>EW l o r i) (fun i=>sW o (fF l R i)) (fun i=>i≤l.exit.length) (fun i=>l.exit.length-i) (l.exit.length-i) (fZ 2 K)))) F H:=by
   intro F H x N;have f1:F 1=some (.cZ l.cells):=x 1 _ rfl;have f3:F 3=some (.osl o 1 0 l.exit.length):=x 3 _ rfl;have f4:F 4=some (.int .i64 r):=x 4 _ rfl;have Z:F 19=some (.int .i64 (l.exit.length:Nat)):=x 19 _ rfl;have β:F 20=some (.int .i64 i):=x 20 _ rfl;have f5:F 5=some (.int .i64 i):=x 5 _ rfl;rw[ka];simp only[go_sem,TY,f1,f5,I,azT];have inner:=Jr L l o r i l.ayK[i] (U.row _ (azZ w)) S hlt hn J E;simp only[aE.wp,go_sem] at inner;refine inner _ _ _ ?_ (e_ a_ N) ?_
   ·unfold sV;exact Lq
   ·intro W H' B O;have M:W 20=some (.int .i64 i):=B 20 _ (by unfold sV; simp only[go_sem]);simp only[go_sem,LE,M,wZz i];refine aJ (i+1) hlt Om ?_ (by rw[A]; exact O);have g:=fun (q:Nat) v h=>B q v h;unfold EW;unfold sV at g;refine d_ (d_ (d_ (d_ (d_ c_ ?_) ?_) ?_) ?_) ?_
    ·simp only[go_sem]; exact g 1 _ rfl
    ·simp only[go_sem]; exact g 3 _ rfl
    ·simp only[go_sem]; exact g 4 _ rfl
    ·simp only[go_sem]; exact g 19 _ rfl
    ·simp only[go_sem]
  simp only[aE.wp,go_sem] at j;simp only[go_sem,AF,TW,EW,sW,e,Ak];generalize hb:(fF l R i).getD i false=b at *
  cases b with
  | true =>simp only[go_sem,TX,e,aAU,y];refine j _ _ Lq ?_;rw[← u];simp only[go_sem,rR,Bool.true_or]
  | false =>simp only[go_sem,TX,e,aAU,y,hx];refine aB (L.uT _ (U.exit.all _ (azZ hlt))) rfl ?_;simp only[go_sem,e,aAU,y];refine j _ _ Lq ?_;rw[← u];simp only[go_sem,rR,Bool.false_or]
 ·have e:¬ (i:Int)<(l.exit.length:Nat):=Om;simp only[go_sem,AF,TW,EW,sW,e];have:i=l.exit.length:=Om;subst this;exact hK _ _ (by unfold OZ; exact Lq) b_
theorem acL {C:Ctx} (L:sJ C) (l:cW) (I:l.Ok) (he:XQ l):FP.wp C (aS Tb.res (cK (.bool (sX l)))) (PF.args [.agg l.cells]) .nil:=by
 have J:=he.n;have A:(l.exit.length:Int)*((1:Nat):Int)≤140737488355328:=Om;have B:(l.exit.length:Int)≤9223372036854775807:=Om;simp only[go_sem,FP,Af,Ag,Tb,azT,A,B];refine aP fun o K=>?_;simp only[go_sem,Ah];refine wp_loop (α:=Nat) (fun r=>OZ l o r) (fun r=>sW o (hZ l r)) (fun r=>r≤l.exit.length+1) (fun r=>l.exit.length+1-r) 0 (aAH _) ?_ ?_ ?_
 ·unfold OZ;exact Lq
 ·refine e_ a_ ?_;simp only[go_sem,hZ];simp[bD]
 intro r M;have j:=da l r;simp only[go_sem,lm,Ai,OZ,sW];by_cases hlt:r≤l.exit.length
 ·have e:(r:Int)≤(l.exit.length:Nat):=Om;simp only[go_sem,e,Aj];have inner:=Js L l I he o r (hZ l r) j;simp only[aE.wp,go_sem] at inner;refine inner _ _ _ ?_ b_ ?_
  ·unfold EW;exact Lq
  ·intro E H' w y;have g:=fun (q:Nat) v h=>w q v h;unfold OZ at g;have g4:E 4=some (.int .i64 r):=g 4 _ rfl;simp only[go_sem,lz,g4,wZz r];refine aJ (r+1) Om Om ?_ y;refine d_ (d_ (d_ c_ ?_) ?_) ?_
   ·simp only[go_sem]; exact g 1 _ rfl
   ·simp only[go_sem]; exact g 3 _ rfl
   ·simp only[go_sem]
 ·have e:¬ (r:Int)≤(l.exit.length:Nat):=Om;have:r=l.exit.length+1:=Om;subst this;simp only[go_sem,e,l3];have u:=L.allb id 103 (hZ l (l.exit.length+1)) (Om:(hZ l (l.exit.length+1)).length≤_) fun x _=>L.ends1 x;have F:(bD (hZ l (l.exit.length+1))).length=l.exit.length:=by rw[iY,j]
  refine qQ u (rs:=bD (hZ l (l.exit.length+1))) (o:=o) (s:=1) Sq ?_ ?_
  ·simp only[go_sem,yF (show l.exit.length≤(bD (hZ l (l.exit.length+1))).length by omega),aAK (show (bD (hZ l (l.exit.length+1))).length≤l.exit.length by omega)]
  ·simp only[go_sem];exact aW rfl rfl
structure XR (C:Ctx):Prop extends va C where
 ends:∀ l:cW,l.Ok→XQ l→aG C 102 [.agg l.cells] .nil (aM (.bool (sX l)))
def NN (l:cW) (i:Nat):Bool:=decide ((l.ayK.getD i []).length=l.start.length)&&(l.ayK.getD i []).all fK&&!((l.ayK.getD i []).map bT).getD i false
def XG (l:cW):Bool:=match qL (l.start.map RF.v) with
 | .ok (n,a,b)=>decide (wM n a b false 1 1=0)
 | .error _=>false
theorem alC (l:cW):rG l=(within l.start.length 1 4&&decide (l.exit.length=l.start.length)&&decide (l.ayK.length=l.start.length)&&l.start.all fK&&l.exit.all fK&&(azU l.ayK.length).all (NN l)&&XG l&&sX l):=rfl
theorem agF {l:List FV} {e:Int} (h:qL l=.error e):e≠0:=by
 have:∀ (l:List FV) (b:FV) (e:Int),l.foldlM kJ b=.error e→e≠0:=by
  intro l
  induction l with
  | nil=>intro b e h; cases h
  | cons x t w =>
   intro b e h;rw[List.foldlM_cons] at h;cases j:kJ b x with
   | error u =>
    rw[j] at h;have:u=e:=by injection h
    subst this;obtain⟨E,a1,A⟩:=b;obtain⟨F,a2,B⟩:=x;simp only[kJ] at j;split at j
    ·split at j
     ·rw[GO j]; decide
     ·split at j
      ·rw[GO j]; decide
      ·rw[GO j]; decide
    ·injection j with j; subst j; decide
   | ok y=>rw[j] at h; exact w y e h
 exact this l _ e h
theorem anJ {l:List FV} {r:FV} (h:qL l=.ok r):r.rf.Ok:=by
 have:∀ (l:List FV) (b r:FV),b.rf.Ok→l.foldlM kJ b=.ok r→r.rf.Ok:=by
  intro l
  induction l with
  | nil=>intro b r hb h; injection h with h; subst h; exact hb
  | cons x t j =>
   intro b r hb h;rw[List.foldlM_cons] at h;cases e:kJ b x with
   | error u=>rw[e] at h; cases h
   | ok y=>rw[e] at h; exact j y r (Kg e) h
 refine this l _ r ⟨bA _,bA _,?_,?_⟩ h
 ·show (aK 0).length≤_;rw[gS]; simp
 ·show (aK 1).length≤_;rw[oN (by decide) (by decide)]; simp
theorem GP {neg:Bool} {a b:Nat} {r:FV} (hb:b≠0) (h:kX neg a b=.ok r):dY r.2.1 r.2.2=true:=by
 unfold kX at h;split at h
 ·cases h
 ·rename_i u;injection h with h
  subst h;have e:azW a b ∣ b:=Nat.gcd_dvd_right _ _;have j:b/azW a b≠0:=by have:=Nat.div_pos (Nat.le_of_dvd (aCL hb) e) (aCL fun h=>hb (Nat.gcd_eq_zero_iff.1 h).2);omega
  have l:=@kA (b/azW a b);simp only[dY,aAF,decide_eq_true_eq];omega
theorem R4 {x y r:FV} (h:kJ x y=.ok r):dY r.2.1 r.2.2=true:=by
 obtain⟨w,a1,l⟩:=x;obtain⟨A,a2,u⟩:=y;simp only[kJ] at h;split at h
 ·rename_i j;rw[aAF] at j;have e:l*u≠0:=Nat.mul_ne_zero (mV.1 j.1).1 (mV.1 j.2).1;split at h
  ·exact GP e h
  ·split at h
   ·exact GP e h
   ·exact GP e h
 ·cases h
theorem Vu:dY 0 1=true:=by
 have:cP 1=1:=by rw[rB (by decide),lE]
 simp[dY,this,lE]
theorem Vc {l:List FV} {r:FV} (h:qL l=.ok r):dY r.2.1 r.2.2=true:=by
 have:∀ (l:List FV) (b r:FV),dY b.2.1 b.2.2=true→l.foldlM kJ b=.ok r→dY r.2.1 r.2.2=true:=by
  intro l
  induction l with
  | nil=>intro b r hb h; injection h with h; subst h; exact hb
  | cons x t j =>
   intro b r hb h;rw[List.foldlM_cons] at h;cases e:kJ b x with
   | error u=>rw[e] at h; cases h
   | ok y=>rw[e] at h; exact j y r (R4 e) h
 exact this l _ r Vu h
theorem abL:(⟨false,[],[]⟩:RF).Ok:=⟨fun _ h=>absurd h (aAP),fun _ h=>absurd h (aAP),show 0≤35184372087808 by decide,show 0≤35184372087808 by decide⟩
def adE (l:cW) (k:Nat):PF:=(((((PF.nil.set 1 (.cZ l.cells)).set 3 (.int .i64 (l.start.length:Nat))).set 45 (U2 l.ayK)).set 46 (.int .i64 (l.ayK.length:Nat))).set 47 (.int .i64 k))
theorem Xi {C:Ctx} (L:XR C) (l:cW) (E:l.Ok) (he:XQ l) (F:PF) (B:F 1=some (.cZ l.cells)) :
  aE.wp C (.seq (.region TZ) (.seq (.region FQ) (.seq (.region FS) (.seq (.region uE) .ret)))) (aS [.tmp 2] (cK (.bool (XG l&&sX l)))) F .nil:=by
 simp only[go_sem,TZ,B];refine aB (L.tot l.start E.start) rfl ?_;obtain⟨I,x,y,e,S⟩:=PC (qL (l.start.map RF.v));have go:∀ (z:RF) (e:Int),z.Ok→(e=0→(AA z.neg (val z.num) (val z.den) false 1 1=.tup [.int .i64 (wM z.neg (val z.num) (val z.den) false 1 1),.int .i64 0])∧XG l=decide (wM z.neg (val z.num) (val z.den) false 1 1=0))→(e≠0→XG l=false) →
   frV (qL (l.start.map RF.v))=.tup [.agg z.cells,.int .i64 e] →
   wpOps C [⟨(some 69),.mv (.tmp 72),none⟩,⟨(some 73),.extract (.tmp 69) 0,none⟩,⟨(some 74),.extract (.tmp 69) 1,none⟩,⟨(some 6),.alloc [(.bool false),.aA,.aA],none⟩,⟨none,.store 3 (.tmp 6) (.tmp 73),none⟩,⟨(some 7),.mv (.tmp 74),none⟩]
    (aE.wp C (.seq (.region FQ) (.seq (.region FS) (.seq (.region uE) .ret))) (aS [.tmp 2] (cK (.bool (XG l&&sX l))))) ((((F.set 70 (.cZ [frs l.start,U2 l.ayK,frs l.exit])).set 71 (frs l.start))).set 72 (.tup [.agg z.cells,.int .i64 e])) .nil:=by
  intro z e O J K _;simp only[go_sem];refine aP fun o6 M=>?_;simp only[go_sem,FQ];refine aB (L.frac 1 1 (by decide) (by decide)) rfl ?_;rw[Ch];simp only[go_sem,frV];refine aP fun o8 u=>?_;have R:o6≠o8:=by rintro rfl; simp only[aQ,if_true] at u; cases u
  simp only[go_sem,FS,R];refine aB (L.ord z (FV.rf (false,1,1)) O Y4) rfl ?_;rw[show val (FV.rf (false,1,1)).num=1 from aY 1,show val (FV.rf (false,1,1)).den=1 from aY 1,show (FV.rf (false,1,1)).neg=false from rfl];by_cases c:e=0
  ·obtain⟨g1,g2⟩:=J c;rw[g1,g2];by_cases d:wM z.neg (val z.num) (val z.den) false 1 1=0
   ·simp only[go_sem,uE,bM c,bM d,B];refine aB (L.ends l E he) rfl ?_;simp only[go_sem];exact aW rfl (by rw[decide_eq_true d,aAN])
   ·simp only[go_sem,uE,bM c,bB d];exact aW rfl (by rw[decide_eq_false d,aAI])
  ·rw[K c];have:∃ v w,AA z.neg (val z.num) (val z.den) false 1 1=.tup [.int .i64 v,.int .i64 w]:=by
    unfold AA;split
    ·exact⟨_,_,rfl⟩
    ·exact⟨_,_,rfl⟩
   obtain⟨v,w,A⟩:=this;rw[A];simp only[go_sem,uE,bB c];exact aW rfl rfl
 cases j:qL (l.start.map RF.v) with
 | error e =>rw[j] at go;exact go ⟨false,[],[]⟩ e abL (fun h=>absurd h (agF j)) (fun _=>by rw[XG,j]) rfl
 | ok r =>obtain⟨n,a,b⟩:=r;rw[j] at go;have N:=anJ j;refine go (FV.rf (n,a,b)) 0 N (fun _=>?_) (fun h=>absurd rfl h) rfl;rw[show val (FV.rf (n,a,b)).num=a from aY a,show val (FV.rf (n,a,b)).den=b from aY b,show (FV.rf (n,a,b)).neg=n from rfl];refine⟨?_,by rw[XG,j]⟩;have A:dY a b=true:=Vc j;rw[AA,A,sk];rfl
theorem akH {C:Ctx} (L:XR C) (l:cW) (A:l.Ok):LF.wp C (aS acN.res (cK (.bool (rG l)))) (PF.args [.agg l.cells]) .nil:=by
 rw[alC];simp only[go_sem,LF,My,Mz,acN,M0,azT];refine aB (L.inn l.start.length 1 4) rfl ?_;cases O:within l.start.length 1 4 with
 | false =>simp only[go_sem,aAX,yH];exact aW rfl (by simp only[aAI])
 | true =>
  obtain⟨W,X⟩:=within_iff.1 O;by_cases F:l.exit.length=l.start.length
  ·rw[decide_eq_true F];by_cases I:l.ayK.length=l.start.length
   ·rw[decide_eq_true I];simp only[go_sem,aAL,azT,cM (Om:(l.exit.length:Int)=(l.start.length:Nat)),cM (Om:(l.ayK.length:Int)=(l.start.length:Nat))];refine aB (L.adK l.start A.start) rfl ?_;cases S:l.start.all fK with
    | false =>simp only[go_sem,aAX,yH];exact aW rfl (by simp only[aAI])
    | true =>
     simp only[go_sem,aAL];refine aB (L.adK l.exit A.exit) rfl ?_;cases U:l.exit.all fK with
     | false =>simp only[go_sem,aAX,yH];exact aW rfl (by simp only[aAI])
     | true =>
      simp only[go_sem,aAL,M1,azT];have y:∀ k (h:k<l.ayK.length),NN l k=(decide ((l.ayK[k]).length=l.start.length)&&(l.ayK[k]).all fK&&!((l.ayK[k]).map bT).getD k false):=by
       intro k h;have:l.ayK.getD k []=l.ayK[k]:=by simp[aAG,h]
       rw[NN,this]
      refine wp_loop (α:=Nat) (fun k=>adE l k) (fun _=>.nil) (fun k=>k≤l.ayK.length∧qR (NN l) k) (fun k=>l.ayK.length-k) 0 ⟨aAH _,.zero⟩ ?_ a_ ?_
      ·unfold adE
       (repeat' (first|exact c_|refine d_ ?_ ?_))<;>first|(simp only[go_sem,azT]<;>rfl)|rfl
      rintro k ⟨V,N⟩;simp only[go_sem,Am,M2,adE];by_cases hlt:k<l.ayK.length
      ·have j:(k:Int)<(l.ayK.length:Nat):=Om;have E:(l.ayK.map fun r=>[frs r])[k]?=some [frs l.ayK[k]]:=by simp[hlt]
       have e:=y k hlt;have w:=A.row l.ayK[k] (azZ hlt);simp only[go_sem,j,M3,E,M4,azT];by_cases J:(l.ayK[k]).length=l.start.length
       ·rw[decide_eq_true J,aAN] at e;simp only[go_sem,cM (show (((l.ayK[k]).length:Nat):Int)=(l.start.length:Nat) by omega)];refine aB (L.adK _ w) rfl ?_;cases K:(l.ayK[k]).all fK with
        | false =>rw[K,aAI] at e;simp only[go_sem,aAX,PE];refine aW (b:=false) rfl ?_;have:(azU l.ayK.length).all (NN l)=false:=fC hlt e;rw[this]; simp only[aAI,aBH]
        | true =>
         have x:k<(l.ayK[k]).length:=Om;have R:((l.ayK[k]).map RF.cells)[k]?=some ((l.ayK[k])[k]).cells:=by simp[x]
         have B:((l.ayK[k]).map bT).getD k false=bT (l.ayK[k])[k]:=by simp[aAG,x]
         rw[K,aAN,B] at e;simp only[go_sem,aAL,R];refine aB (L.uT _ (w.all _ (azZ x))) rfl ?_;cases M:bT (l.ayK[k])[k] with
         | true =>rw[M] at e;simp only[go_sem,PE];refine aW (b:=false) rfl ?_;have:(azU l.ayK.length).all (NN l)=false:=fC hlt e;rw[this]; simp only[aAI,aBH]
         | false =>rw[M] at e;simp only[go_sem,M5,wZz k];refine aJ (k+1) ⟨hlt,N.step e⟩ Om ?_ a_;exact Lq
       ·simp only[decide_eq_false J,aAI] at e;simp only[go_sem,eF (show (((l.ayK[k]).length:Nat):Int)≠(l.start.length:Nat) by omega),PE];refine aW (b:=false) rfl ?_;have:(azU l.ayK.length).all (NN l)=false:=fC hlt e;rw[this]; simp only[aAI,aBH]
      ·have j:¬ (k:Int)<(l.ayK.length:Nat):=Om;have:k=l.ayK.length:=Om;subst this;have u:(azU l.ayK.length).all (NN l)=true:=N;have he:XQ l:=⟨by omega,by omega,fun r E=>by obtain⟨i,hi,rfl⟩:=aBQ E;have:=aBI.1 u i (aAO.2 hi);rw[y i hi] at this;simp only[aAF,decide_eq_true_eq] at this;omega⟩
       have tail:=Xi L l A he;simp only[aE.wp,go_sem] at tail;rw[u];simp only[go_sem,j,aAN,aBZ];exact tail _ rfl
   ·simp only[go_sem,aAL,azT,cM (Om:(l.exit.length:Int)=(l.start.length:Nat)),eF (Om:(l.ayK.length:Int)≠(l.start.length:Nat)),yH];exact aW rfl (by rw[decide_eq_false I]; simp only[aAI,aBH])
  ·simp only[go_sem,aAL,azT,eF (Om:(l.exit.length:Int)≠(l.start.length:Nat)),yH];exact aW rfl (by rw[decide_eq_false F]; simp only[aAI,aBH])
structure kP (C:Ctx):Prop extends XR C where
 law:∀ l:cW,l.Ok→aG C 95 [.agg l.cells] .nil (aM (.bool (rG l)))
 pol:∀ (p:cX) (n:Nat),p.Ok→n≤4→aG C 112 [.agg p.cells,.int .i64 n] .nil (aM (.bool (kL n p)))
 ayP:∀ f:aC,f.Ok→aG C 111 [.agg f.cells] .nil (aM (.bool (nA f)))
abbrev fG (l:List (List UInt8)):List (List PV):=l.map fun s=>[PV.str s]
theorem wB (l:List (List UInt8)) {k:Nat} (h:k<l.length):fG (l.take k)++[[.str l[k]]]=fG (l.take (k+1)):=by
 unfold fG;rw[aCI h,aBL]; rfl
theorem sD {l:List (List UInt8)} (h:l.length≤1000):roomFor (fG l).length 1 16:=by
 unfold roomFor fG;simp only[azT,maxLen]; omega
def jD {α:Type} (l:List α) (p:α→Bool) (k:Nat):Bool:=(l.take k).all p
theorem sQ {α:Type} (l:List α) (p:α→Bool):jD l p 0=true:=rfl
theorem sP {α:Type} (l:List α) (p:α→Bool) {k:Nat} (h:k<l.length):jD l p (k+1)=(jD l p k&&p l[k]):=by
 unfold jD;rw[aCI h,List.all_append]; simp
theorem vK {α:Type} (l:List α) (p:α→Bool):jD l p l.length=l.all p:=by unfold jD; rw[aBM]
def jG (f:aC) (e j l u w:PV) (ok:Bool):PF:=(((((((PF.nil.set 1 (.cZ f.cells)).set 3 (e)).set 4 (j)).set 5 (l)).set 6 (u)).set 7 (w)).set 8 (.bool ok))
structure kV (F:PF) (f:aC) (w3 w4 w5 w6 w7:PV) (ok:Bool):Prop where
 a1:F 1=some (.cZ f.cells)
 a3:F 3=some w3
 a4:F 4=some w4
 a5:F 5=some w5
 a6:F 6=some w6
 a7:F 7=some w7
 a8:F 8=some (.bool ok)
theorem Ti {C:Ctx} (L:kP C) (f:aC) (S:f.Ok) (Y:f.ayN.length≤4) (I J M N:PV) (K:cN) (F:PF) (H:PH) (u:kV F f .aA I J M N true)
  (A:F 67=some (.sl 4 (f.ayN.map cW.cells))) (B:F 68=some (.int .i64 (f.ayN.length:Nat))) (E:F 69=some (.int .i64 0))
  (R:∀ v O H',kV O f v I J M N (f.ayN.all rG)→bZ H' 1 v (fG (f.ayN.map cW.name))→K (.exit 0) O H') :
  aE.wp C (.loop FY) K F H:=by
 refine wp_loop (α:=Nat × PV × PH) (fun t=>(((jG f t.2.1 I J M N (jD f.ayN rG t.1)).set 67 (.sl 4 (f.ayN.map cW.cells))).set 68 (.int .i64 (f.ayN.length:Nat))).set 69 (.int .i64 t.1)) (fun t=>t.2.2)
  (fun t=>t.1≤f.ayN.length∧bZ t.2.2 1 t.2.1 (fG ((f.ayN.map cW.name).take t.1))) (fun t=>f.ayN.length-t.1) (0,.aA,.nil) ⟨aAH _,.nil⟩ ?_ a_ ?_
 ·unfold jG
  (repeat' (first|exact c_|refine d_ ?_ ?_))<;>first|(simp only[go_sem,u.a1,u.a3,u.a4,u.a5,u.a6,u.a7,u.a8,A,B,E,sQ]<;>rfl)|rfl
 rintro⟨k,v,X⟩ ⟨U,y⟩;simp only at U y ⊢;simp only[go_sem,FY,Ns,jG];by_cases hlt:k<f.ayN.length
 ·have j:(k:Int)<(f.ayN.length:Nat):=Om;have W:(f.ayN.map cW.cells)[k]?=some (f.ayN[k]).cells:=by simp[hlt]
  have x:=wB (f.ayN.map cW.name) (k:=k) (by simpa using hlt);rw[aCN] at x;simp only[go_sem,j,Nt,W];refine aP fun o V=>?_;simp only[go_sem,Nu];refine nF y V (sD (by simp; omega)) fun v' H' l w=>?_;rw[x] at l;have e:=sP f.ayN rG hlt;cases hb:jD f.ayN rG k with
  | false =>rw[hb,aAI] at e;simp only[go_sem,ic,w,UD,wZz k];refine aJ (k+1,v',H') ⟨hlt,l⟩ (by simp only; omega) ?_ b_;simp only[e];exact Lq
  | true =>rw[hb,aAN] at e;simp only[go_sem,ic,w];refine aB (L.law _ (S.law _ (azZ hlt))) Ev ?_;simp only[go_sem,UD,wZz k];refine aJ (k+1,v',H') ⟨hlt,l⟩ (by simp only; omega) ?_ b_;simp only[e];exact Lq
 ·have j:¬ (k:Int)<(f.ayN.length:Nat):=Om;have:k=f.ayN.length:=Om;subst this;rw[aAK (by simp)] at y;rw[vK];simp only[go_sem,j];exact R v _ _ ⟨by simp only[go_sem],by simp only[go_sem],by simp only[go_sem],by simp only[go_sem],by simp only[go_sem],by simp only[go_sem],by simp only[go_sem]⟩ y
theorem BB {n:Nat} (h:n≤1000):IntKind.i64.wrap ((n:Int)-1)=(n:Int)-1:=wrap_i64 Om Om
theorem Tj {C:Ctx} (L:kP C) (f:aC) (hs:f.ayG.length≤4) (hl:f.ayN.length≤4) (x:Bool) (E I J M:PV) (K:cN) (F:PF) (H:PH) (u:kV F f E .aA I J M x)
  (R:F 85=some (.sl 4 (f.ayG.map dT.cells))) (S:F 86=some (.int .i64 (f.ayG.length:Nat))) (U:F 87=some (.int .i64 0))
  (X:∀ v w H',kV w f E v I J M (x&&f.ayG.all (mQ f))→bZ H' 1 v (fG (f.ayG.map dT.name))→K (.exit 2) w H') :
  aE.wp C (.loop FZ) K F H:=by
 refine wp_loop (α:=Nat × PV × PH) (fun t=>(((jG f E t.2.1 I J M (x&&jD f.ayG (mQ f) t.1)).set 85 (.sl 4 (f.ayG.map dT.cells))).set 86 (.int .i64 (f.ayG.length:Nat))).set 87 (.int .i64 t.1)) (fun t=>t.2.2)
  (fun t=>t.1≤f.ayG.length∧bZ t.2.2 1 t.2.1 (fG ((f.ayG.map dT.name).take t.1))) (fun t=>f.ayG.length-t.1) (0,.aA,.nil) ⟨aAH _,.nil⟩ ?_ a_ ?_
 ·unfold jG
  (repeat' (first|exact c_|refine d_ ?_ ?_))<;>first|(simp only[go_sem,u.a1,u.a3,u.a4,u.a5,u.a6,u.a7,u.a8,R,S,U,sQ,aBZ]<;>rfl)|rfl
 rintro⟨k,v,H0⟩ ⟨Z,N⟩;simp only at Z N ⊢;simp only[go_sem,FZ,A8,jG];by_cases hlt:k<f.ayG.length
 ·have e:(k:Int)<(f.ayG.length:Nat):=Om;have hr:(f.ayG.map dT.cells)[k]?=some (f.ayG[k]).cells:=by simp[hlt]
  have B:=wB (f.ayG.map dT.name) (k:=k) (by simpa using hlt);rw[aCN] at B;simp only[go_sem,e,A9,hr];refine aP fun o ho=>?_;simp only[go_sem,Ba];refine nF N ho (sD (by simp; omega)) fun v' H' y j=>?_;rw[B] at y;have l:=sP f.ayG (mQ f) hlt;have fin:∀ (c:Bool) (w:PF),c=(x&&jD f.ayG (mQ f) (k+1))→((((jG f E v' I J M c).set 85 (.sl 4 (f.ayG.map dT.cells))).set 86 (.int .i64 (f.ayG.length:Nat))).set 87 (.int .i64 (k+1:Nat))).le w →
    jT (fun (t:Nat × PV × PH)=>(((jG f E t.2.1 I J M (x&&jD f.ayG (mQ f) t.1)).set 85 (.sl 4 (f.ayG.map dT.cells))).set 86 (.int .i64 (f.ayG.length:Nat))).set 87 (.int .i64 t.1)) (fun (t:Nat × PV × PH)=>t.2.2)  (fun (t:Nat × PV × PH)=>t.1≤f.ayG.length∧bZ t.2.2 1 t.2.1 (fG ((f.ayG.map dT.name).take t.1))) (fun (t:Nat × PV × PH)=>f.ayG.length-t.1) (f.ayG.length-k) K .normal w H':=by
   intro c w Y A;refine aJ (α:=Nat × PV × PH) (k+1,v',H') ⟨hlt,y⟩ (by simp only; omega) ?_ b_;rw[Y] at A;exact A
  unfold jG at fin;rw[l,← Bool.and_assoc] at fin;have V:mQ f f.ayG[k]=(within (f.ayG[k]).ayW 1 16&&within (f.ayG[k]).port 1 64&&within (f.ayG[k]).law 0 ((f.ayN.length:Int)-1)):=rfl;cases hb:(x&&jD f.ayG (mQ f) k) with
  | false =>rw[hb,aAI] at fin;simp only[go_sem,UF,j,zE,wZz k];refine fin false _ rfl ?_;exact Lq
  | true =>
   rw[hb,aAN] at fin;simp only[go_sem,UF,j];refine aB (L.inn _ 1 16) Ev ?_;cases O:within (f.ayG[k]).ayW 1 16 with
   | false =>simp only[go_sem,zE,wZz k];refine fin false _ (by rw[V,O]; simp only[aAI]) ?_;exact Lq
   | true =>
    simp only[go_sem,j];refine aB (L.inn _ 1 64) Ev ?_;cases W:within (f.ayG[k]).port 1 64 with
    | false =>simp only[go_sem,zE,wZz k];refine fin false _ (by rw[V,O,W]; simp only[aAI,aBH]) ?_;exact Lq
    | true =>simp only[go_sem,j,azT,BB (Om:f.ayN.length≤1000)];refine aB (L.inn _ 0 _) Ev ?_;simp only[go_sem,zE,wZz k];refine fin (within (f.ayG[k]).law 0 ((f.ayN.length:Int)-1)) _ (by rw[V,O,W]; simp only[aAN]) ?_;exact Lq
 ·have e:¬ (k:Int)<(f.ayG.length:Nat):=Om;have:k=f.ayG.length:=Om;subst this;rw[aAK (by simp)] at N;rw[vK];simp only[go_sem,e];exact X v _ _ ⟨by simp only[go_sem],by simp only[go_sem],by simp only[go_sem],by simp only[go_sem],by simp only[go_sem],by simp only[go_sem],by simp only[go_sem]⟩ N
theorem Tk {C:Ctx} (L:kP C) (f:aC) (t:List cS) (X:t.length≤40) (x:Bool) (E I J M:PV) (K:cN) (F:PF) (H:PH) (j:kV F f E I .aA J M x)
  (y:F 119=some (.sl 7 (t.map cS.cells))) (A:F 120=some (.int .i64 (t.length:Nat))) (B:F 121=some (.int .i64 0))
  (O:∀ v N H',kV N f E I v J M x→bZ H' 1 v (fG (t.map cS.name))→K (.exit 4) N H') :
  aE.wp C (.loop GA) K F H:=by
 refine wp_loop (α:=Nat × PV × PH) (fun a=>(((jG f E I a.2.1 J M x).set 119 (.sl 7 (t.map cS.cells))).set 120 (.int .i64 (t.length:Nat))).set 121 (.int .i64 a.1)) (fun a=>a.2.2)
  (fun a=>a.1≤t.length∧bZ a.2.2 1 a.2.1 (fG ((t.map cS.name).take a.1))) (fun a=>t.length-a.1) (0,.aA,.nil) ⟨aAH _,.nil⟩ ?_ a_ ?_
 ·unfold jG
  (repeat' (first|exact c_|refine d_ ?_ ?_))<;>first|(simp only[go_sem,j.a1,j.a3,j.a4,j.a5,j.a6,j.a7,j.a8,y,A,B]<;>rfl)|rfl
 rintro⟨k,v,W⟩ ⟨R,w⟩;simp only at R w ⊢;simp only[go_sem,GA,Bb,jG];by_cases hlt:k<t.length
 ·have e:(k:Int)<(t.length:Nat):=Om;have V:(t.map cS.cells)[k]?=some (t[k]).cells:=by simp[hlt]
  have u:=wB (t.map cS.name) (k:=k) (by simpa using hlt);rw[aCN] at u;simp only[go_sem,e,Bc,V];refine aP fun o S=>?_;simp only[go_sem,Bd];refine nF w S (sD (by simp; omega)) fun v' H' l U=>?_;rw[u] at l;simp only[go_sem,Be,wZz k];refine aJ (k+1,v',H') ⟨hlt,l⟩ (by simp only; omega) ?_ b_;exact Lq
 ·have e:¬ (k:Int)<(t.length:Nat):=Om;have:k=t.length:=Om;subst this;rw[aAK (by simp)] at w;simp only[go_sem,e];exact O v _ _ ⟨by simp only[go_sem],by simp only[go_sem],by simp only[go_sem],by simp only[go_sem],by simp only[go_sem],by simp only[go_sem],by simp only[go_sem]⟩ w
theorem Tl {C:Ctx} (L:kP C) (f:aC) (e:List (List UInt8)) (hn:e.length≤40) (hs:f.ayF.length≤24) (hm:f.ayG.length≤4) (hd:f.ayI.length≤40) (A:Bool) (J M v0 N O:PV) (K:cN) (F:PF) (H:PH) (x:kV F f J M v0 N O A)
  (h0:bZ H 1 v0 (fG e))
  (W:F 132=some (.sl 3 (f.ayF.map dL.cells))) (X:F 133=some (.int .i64 (f.ayF.length:Nat))) (Y:F 134=some (.int .i64 0))
  (hK:∀ v y H',kV y f J M v N O (A&&f.ayF.all (kS f))→bZ H' 1 v (fG (e++f.ayF.map dL.name))→K (.exit 6) y H') :
  aE.wp C (.loop GB) K F H:=by
 refine wp_loop (α:=Nat × PV × PH) (fun t=>(((jG f J M t.2.1 N O (A&&jD f.ayF (kS f) t.1)).set 132 (.sl 3 (f.ayF.map dL.cells))).set 133 (.int .i64 (f.ayF.length:Nat))).set 134 (.int .i64 t.1)) (fun t=>t.2.2)
  (fun t=>t.1≤f.ayF.length∧bZ t.2.2 1 t.2.1 (fG (e++(f.ayF.map dL.name).take t.1))) (fun t=>f.ayF.length-t.1) (0,v0,H) ⟨aAH _,by rw[List.take_zero,aBN]; exact h0⟩ ?_ b_ ?_
 ·unfold jG
  (repeat' (first|exact c_|refine d_ ?_ ?_))<;>first|(simp only[go_sem,x.a1,x.a3,x.a4,x.a5,x.a6,x.a7,x.a8,W,X,Y,sQ,aBZ]<;>rfl)|rfl
 rintro⟨k,v,H0⟩ ⟨hk,V⟩;simp only at hk V ⊢;simp only[go_sem,GB,Bf,jG];by_cases hlt:k<f.ayF.length
 ·have j:(k:Int)<(f.ayF.length:Nat):=Om;have hr:(f.ayF.map dL.cells)[k]?=some (f.ayF[k]).cells:=by simp[hlt]
  have β:fG (e++(f.ayF.map dL.name).take k)++[[.str (f.ayF[k]).name]]=fG (e++(f.ayF.map dL.name).take (k+1)):=by rw[aCI (by simpa using hlt),← aAY,aCN];unfold fG;simp only[aBL,aBA,aCH]
  simp only[go_sem,j,Bg,hr];refine aP fun o ho=>?_;simp only[go_sem,Bh];refine nF V ho (sD (by simp; omega)) fun v' H' B u=>?_;rw[β] at B;have w:=sP f.ayF (kS f) hlt;have fin:∀ (c:Bool) (y:PF),c=(A&&jD f.ayF (kS f) (k+1))→((((jG f J M v' N O c).set 132 (.sl 3 (f.ayF.map dL.cells))).set 133 (.int .i64 (f.ayF.length:Nat))).set 134 (.int .i64 (k+1:Nat))).le y →
    jT (fun (t:Nat × PV × PH)=>(((jG f J M t.2.1 N O (A&&jD f.ayF (kS f) t.1)).set 132 (.sl 3 (f.ayF.map dL.cells))).set 133 (.int .i64 (f.ayF.length:Nat))).set 134 (.int .i64 t.1)) (fun (t:Nat × PV × PH)=>t.2.2)  (fun (t:Nat × PV × PH)=>t.1≤f.ayF.length∧bZ t.2.2 1 t.2.1 (fG (e++(f.ayF.map dL.name).take t.1))) (fun (t:Nat × PV × PH)=>f.ayF.length-t.1) (f.ayF.length-k) K .normal y H':=by
   intro c y hc E;refine aJ (α:=Nat × PV × PH) (k+1,v',H') ⟨hlt,B⟩ (by simp only; omega) ?_ b_;rw[hc] at E;exact E
  unfold jG at fin;rw[w,← Bool.and_assoc] at fin;have l:kS f f.ayF[k]=(within (f.ayF[k]).model 0 ((f.ayG.length:Int)-1)&&within (f.ayF[k]).machine 0 ((f.ayI.length:Int)-1)&&decide ((f.ayI.map cS.level).getD (f.ayF[k]).machine.toNat 0=4)):=rfl;cases hb:(A&&jD f.ayF (kS f) k) with
  | false =>rw[hb,aAI] at fin;simp only[go_sem,UI,u,uF,wZz k];refine fin false _ rfl ?_;exact Lq
  | true =>
   rw[hb,aAN] at fin;simp only[go_sem,UI,u,azT,BB (Om:f.ayG.length≤1000)];refine aB (L.inn _ 0 _) Ev ?_;cases R:within (f.ayF[k]).model 0 ((f.ayG.length:Int)-1) with
   | false =>simp only[go_sem,uF,wZz k];refine fin false _ (by rw[l,R]; simp only[aAI]) ?_;exact Lq
   | true =>
    simp only[go_sem,u,azT,BB (Om:f.ayI.length≤1000)];refine aB (L.inn _ 0 _) Ev ?_;cases S:within (f.ayF[k]).machine 0 ((f.ayI.length:Int)-1) with
    | false =>simp only[go_sem,uF,wZz k];refine fin false _ (by rw[l,R,S]; simp only[aAI,aBH]) ?_;exact Lq
    | true =>
     obtain⟨i1,i2⟩:=within_iff.1 S;have i3:(f.ayF[k]).machine.toNat<f.ayI.length:=Om;have I:(f.ayI.map cS.cells)[(f.ayF[k]).machine.toNat]?=some (f.ayI[(f.ayF[k]).machine.toNat]).cells:=by simp[i3]
     have Z:(f.ayI.map cS.level).getD (f.ayF[k]).machine.toNat 0=(f.ayI[(f.ayF[k]).machine.toNat]).level:=by simp[i3]
     rw[Z] at l;by_cases U:(f.ayI[(f.ayF[k]).machine.toNat]).level=4
     ·simp only[go_sem,u,i1,I,bM U,uF,wZz k];refine fin true _ (by rw[l,R,S,decide_eq_true U]; rfl) ?_;exact Lq
     ·simp only[go_sem,u,i1,I,bB U,uF,wZz k];refine fin false _ (by rw[l,R,S,decide_eq_false U]; rfl) ?_;exact Lq
 ·have j:¬ (k:Int)<(f.ayF.length:Nat):=Om;have:k=f.ayF.length:=Om;subst this;rw[aAK (by simp)] at V;rw[vK];simp only[go_sem,j];exact hK v _ _ ⟨by simp only[go_sem],by simp only[go_sem],by simp only[go_sem],by simp only[go_sem],by simp only[go_sem],by simp only[go_sem],by simp only[go_sem]⟩ V
theorem Tn {C:Ctx} (L:kP C) (f:aC) (W:f.Ok) (hs:f.ayJ.length≤4) (Y:f.ayG.length≤4) (w:Bool) (E I J M:PV) (K:cN) (F:PF) (H:PH) (l:kV F f E I J .aA M w)
  (O:F 174=some (.sl 17 (f.ayJ.map cX.cells))) (R:F 175=some (.int .i64 (f.ayJ.length:Nat))) (S:F 176=some (.int .i64 0))
  (U:∀ v u H',kV u f E I J v M (w&&f.ayJ.all (kL f.ayG.length))→bZ H' 1 v (fG (f.ayJ.map cX.name))→K (.exit 8) u H') :
  aE.wp C (.loop GC) K F H:=by
 refine wp_loop (α:=Nat × PV × PH) (fun t=>(((jG f E I J t.2.1 M (w&&jD f.ayJ (kL f.ayG.length) t.1)).set 174 (.sl 17 (f.ayJ.map cX.cells))).set 175 (.int .i64 (f.ayJ.length:Nat))).set 176 (.int .i64 t.1)) (fun t=>t.2.2)
  (fun t=>t.1≤f.ayJ.length∧bZ t.2.2 1 t.2.1 (fG ((f.ayJ.map cX.name).take t.1))) (fun t=>f.ayJ.length-t.1) (0,.aA,.nil) ⟨aAH _,.nil⟩ ?_ a_ ?_
 ·unfold jG
  (repeat' (first|exact c_|refine d_ ?_ ?_))<;>first|(simp only[go_sem,l.a1,l.a3,l.a4,l.a5,l.a6,l.a7,l.a8,O,R,S,sQ,aBZ]<;>rfl)|rfl
 rintro⟨k,v,H0⟩ ⟨X,N⟩;simp only at X N ⊢;simp only[go_sem,GC,Bi,jG];by_cases hlt:k<f.ayJ.length
 ·have e:(k:Int)<(f.ayJ.length:Nat):=Om;have hr:(f.ayJ.map cX.cells)[k]?=some (f.ayJ[k]).cells:=by simp[hlt]
  have B:=wB (f.ayJ.map cX.name) (k:=k) (by simpa using hlt);rw[aCN] at B;simp only[go_sem,e,Bj,hr];refine aP fun o Z=>?_;simp only[go_sem,Bk];refine nF N Z (sD (by simp; omega)) fun v' H' x A=>?_;rw[B] at x;have j:=sP f.ayJ (kL f.ayG.length) hlt;have fin:∀ (c:Bool) (u:PF),c=(w&&jD f.ayJ (kL f.ayG.length) (k+1))→((((jG f E I J v' M c).set 174 (.sl 17 (f.ayJ.map cX.cells))).set 175 (.int .i64 (f.ayJ.length:Nat))).set 176 (.int .i64 (k+1:Nat))).le u →
    jT (fun (t:Nat × PV × PH)=>(((jG f E I J t.2.1 M (w&&jD f.ayJ (kL f.ayG.length) t.1)).set 174 (.sl 17 (f.ayJ.map cX.cells))).set 175 (.int .i64 (f.ayJ.length:Nat))).set 176 (.int .i64 t.1)) (fun (t:Nat × PV × PH)=>t.2.2)  (fun (t:Nat × PV × PH)=>t.1≤f.ayJ.length∧bZ t.2.2 1 t.2.1 (fG ((f.ayJ.map cX.name).take t.1))) (fun (t:Nat × PV × PH)=>f.ayJ.length-t.1) (f.ayJ.length-k) K .normal u H':=by
   intro c u V y;refine aJ (α:=Nat × PV × PH) (k+1,v',H') ⟨hlt,x⟩ (by simp only; omega) ?_ b_;rw[V] at y;exact y
  unfold jG at fin;rw[j,← Bool.and_assoc] at fin;cases hb:(w&&jD f.ayJ (kL f.ayG.length) k) with
  | false =>rw[hb,aAI] at fin;simp only[go_sem,UK,A,UL,wZz k];refine fin false _ rfl ?_;exact Lq
  | true =>rw[hb,aAN] at fin;simp only[go_sem,UK,A,azT];refine aB (L.pol _ _ (W.ayS _ (azZ hlt)) Y) Ev ?_;simp only[go_sem,UL,wZz k];refine fin _ _ rfl ?_;exact Lq
 ·have e:¬ (k:Int)<(f.ayJ.length:Nat):=Om;have:k=f.ayJ.length:=Om;subst this;rw[aAK (by simp)] at N;rw[vK];simp only[go_sem,e];exact U v _ _ ⟨by simp only[go_sem],by simp only[go_sem],by simp only[go_sem],by simp only[go_sem],by simp only[go_sem],by simp only[go_sem],by simp only[go_sem]⟩ N
theorem To {C:Ctx} (L:kP C) (f:aC) (hs:f.ayH.length≤12) (hl:f.ayJ.length≤4) (w:Bool) (E I J M:PV) (K:cN) (F:PF) (H:PH) (l:kV F f E I J M .aA w)
  (O:F 195=some (.sl 2 (f.ayH.map fV.cells))) (R:F 196=some (.int .i64 (f.ayH.length:Nat))) (S:F 197=some (.int .i64 0))
  (U:∀ v u H',kV u f E I J M v (w&&f.ayH.all (nT f))→bZ H' 1 v (fG (f.ayH.map fV.name))→K (.exit 10) u H') :
  aE.wp C (.loop GD) K F H:=by
 refine wp_loop (α:=Nat × PV × PH) (fun t=>(((jG f E I J M t.2.1 (w&&jD f.ayH (nT f) t.1)).set 195 (.sl 2 (f.ayH.map fV.cells))).set 196 (.int .i64 (f.ayH.length:Nat))).set 197 (.int .i64 t.1)) (fun t=>t.2.2)
  (fun t=>t.1≤f.ayH.length∧bZ t.2.2 1 t.2.1 (fG ((f.ayH.map fV.name).take t.1))) (fun t=>f.ayH.length-t.1) (0,.aA,.nil) ⟨aAH _,.nil⟩ ?_ a_ ?_
 ·unfold jG
  (repeat' (first|exact c_|refine d_ ?_ ?_))<;>first|(simp only[go_sem,l.a1,l.a3,l.a4,l.a5,l.a6,l.a7,l.a8,O,R,S,sQ,aBZ]<;>rfl)|rfl
 rintro⟨k,v,H0⟩ ⟨W,N⟩;simp only at W N ⊢;simp only[go_sem,GD,Bl,jG];by_cases hlt:k<f.ayH.length
 ·have e:(k:Int)<(f.ayH.length:Nat):=Om;have Z:(f.ayH.map fV.cells)[k]?=some (f.ayH[k]).cells:=by simp[hlt]
  have B:=wB (f.ayH.map fV.name) (k:=k) (by simpa using hlt);rw[aCN] at B;simp only[go_sem,e,Bm,Z];refine aP fun o Y=>?_;simp only[go_sem,Bn];refine nF N Y (sD (by simp; omega)) fun v' H' x A=>?_;rw[B] at x;have j:=sP f.ayH (nT f) hlt;have fin:∀ (c:Bool) (u:PF),c=(w&&jD f.ayH (nT f) (k+1))→((((jG f E I J M v' c).set 195 (.sl 2 (f.ayH.map fV.cells))).set 196 (.int .i64 (f.ayH.length:Nat))).set 197 (.int .i64 (k+1:Nat))).le u →
    jT (fun (t:Nat × PV × PH)=>(((jG f E I J M t.2.1 (w&&jD f.ayH (nT f) t.1)).set 195 (.sl 2 (f.ayH.map fV.cells))).set 196 (.int .i64 (f.ayH.length:Nat))).set 197 (.int .i64 t.1)) (fun (t:Nat × PV × PH)=>t.2.2)  (fun (t:Nat × PV × PH)=>t.1≤f.ayH.length∧bZ t.2.2 1 t.2.1 (fG ((f.ayH.map fV.name).take t.1))) (fun (t:Nat × PV × PH)=>f.ayH.length-t.1) (f.ayH.length-k) K .normal u H':=by
   intro c u V y;refine aJ (α:=Nat × PV × PH) (k+1,v',H') ⟨hlt,x⟩ (by simp only; omega) ?_ b_;rw[V] at y;exact y
  unfold jG at fin;rw[j,← Bool.and_assoc] at fin;have X:nT f f.ayH[k]=within (f.ayH[k]).ayS 0 ((f.ayJ.length:Int)-1):=rfl;cases hb:(w&&jD f.ayH (nT f) k) with
  | false =>rw[hb,aAI] at fin;simp only[go_sem,UN,A,UO,wZz k];refine fin false _ rfl ?_;exact Lq
  | true =>rw[hb,aAN,X] at fin;simp only[go_sem,UN,A,azT,BB (Om:f.ayJ.length≤1000)];refine aB (L.inn _ 0 _) Ev ?_;simp only[go_sem,UO,wZz k];refine fin _ _ rfl ?_;exact Lq
 ·have e:¬ (k:Int)<(f.ayH.length:Nat):=Om;have:k=f.ayH.length:=Om;subst this;rw[aAK (by simp)] at N;rw[vK];simp only[go_sem,e];exact U v _ _ ⟨by simp only[go_sem],by simp only[go_sem],by simp only[go_sem],by simp only[go_sem],by simp only[go_sem],by simp only[go_sem],by simp only[go_sem]⟩ N
theorem nO {f:aC} (h:¬ (f.ayN.length≤4∧f.ayG.length≤4∧f.ayI.length≤40∧f.ayF.length≤24∧f.ayJ.length≤4∧f.ayH.length≤12)):oJ f=false:=by
 rw[← Bool.not_eq_true];intro e;simp only[oJ,aAF,decide_eq_true_eq] at e;omega
theorem J7 {f:aC} (h:f.ayN.length≤4∧f.ayG.length≤4∧f.ayI.length≤40∧f.ayF.length≤24∧f.ayJ.length≤4∧f.ayH.length≤12):oJ f=within f.azL 1 4:=by
 obtain⟨e,j,l,u,h5,w⟩:=h;simp[oJ,e,j,l,u,h5,w]
theorem oG {t:Nat} {n m:Int} {F:PF} {H:PH} (h:F t=some (.int .i64 n)) (e:n=m):aS [.tmp t] (cK (.int .i64 m)) .ret F H:=by
 subst e;exact aU (.inr rfl) .nil (vs:=[.int .i64 n]) (by rw[kM,nM,h,oS]) a_ ⟨.refl _,rfl⟩
def wQ (f:aC):Int:=if dB f then 0 else 1
theorem fb {f:aC} (h:dB f=false):wQ f=1:=by rw[wQ,h]; rfl
theorem tT {C:Ctx} {F:PF} {H:PH} {name t s:Nat} {v r:PV} {rows:List (List PV)} {d:Option Nat} {K:PF→PH→Prop} (h:aG C name [.sl s rows] .nil (aM r)) (x:bZ H s v rows) (l:F t=some v)
  (j:∀ (e:PF) (w:PH),(∀ i u,F i=some u→Pure u→e i=some u)→K (e.put d r) w):gD C name [.tmp t] [] d K F H:=by
 rcases x with ⟨rfl,rfl⟩ | ⟨q,rs,rfl,h1,h2,h3⟩
 ·refine aB (h.U3 (.inl ⟨rfl,rfl⟩)) (by rw[yV,YL,l,PA]) ?_;exact j F H fun i u hi _=>hi
 ·rw[← h3] at h;refine qF (k:=rows.length) h l h1 h2 (j _ _ fun i u hi y=>?_);rw[nJ,hi,aBD,y q s rs]
theorem Seen.pure {s:Nat} {v:PV} {rows:List (List PV)} (h:Seen s v rows):Pure v:=by
 rcases h with ⟨_,rfl⟩ | rfl
 ·exact fun _ _ _=>rfl
 ·exact fun _ _ _=>rfl
def bI (b:Bool):Int:=if b then 0 else 1
abbrev PU (f:aC):List (List UInt8):=(f.ayI.drop 1).map cS.name++f.ayF.map dL.name
def vI (f:aC):Bool:=distinct (f.ayN.map cW.name)&&distinct (f.ayG.map dT.name)&&distinct (PU f)&&distinct (f.ayJ.map cX.name)&&distinct (f.ayH.map fV.name)
structure Small (f:aC):Prop where
 ayN:f.ayN.length≤4
 ayG:f.ayG.length≤4
 ayI:f.ayI.length≤40
 ayF:f.ayF.length≤24
 ayJ:f.ayJ.length≤4
 ayH:f.ayH.length≤12
theorem AR {C:Ctx} (L:kP C) {v:PV} {l:List (List UInt8)} (h:Seen 1 v (fG l)) (e:l.length≤1000):aG C 110 [v] .nil (aM (.bool (distinct l))) :=
 (L.uniq l (Om:l.length≤9223372036854775807)).U3 h
theorem acZ {C:Ctx} (L:kP C) (f:aC) (J:Small f) (j l u w x:PV) (ok:Bool) (F:PF) (H:PH) (e:kV F f j l u w x ok)
  (A:Seen 1 j (fG (f.ayN.map cW.name))) (B:Seen 1 l (fG (f.ayG.map dT.name))) (h5:Seen 1 u (fG (PU f))) (E:Seen 1 w (fG (f.ayJ.map cX.name))) (h7:bZ H 1 x (fG (f.ayH.map fV.name))) :
  aE.wp C (.seq (.seq (.region zF) (.cond (.tmp 243) (.seq (.region oE) .ret) .skip)) (.seq (.region GF) .ret)) (aS [.tmp 2] (cK (.int .i64 (bI (ok&&vI f))))) F H:=by
 obtain⟨s1,s2,s3,s4,Z,s6⟩:=J;have K:(f.ayN.map cW.name).length≤1000:=by simp; omega
 have M:(f.ayG.map dT.name).length≤1000:=by simp; omega
 have N:(PU f).length≤1000:=by simp; omega
 have O:(f.ayJ.map cX.name).length≤1000:=by simp; omega
 have R:(f.ayH.map fV.name).length≤9223372036854775807:=by simp; omega
 cases ok with
 | false =>simp only[go_sem,zF,e.a8,oE];exact oG rfl rfl
 | true =>
  simp only[go_sem,zF,e.a8,e.a3];refine aB (AR L A K) rfl ?_;unfold vI;cases U:distinct (f.ayN.map cW.name) with
  | false =>simp only[go_sem,oE,aAX];exact oG rfl rfl
  | true =>
   simp only[go_sem,e.a4,aAL];refine aB (AR L B M) rfl ?_;cases V:distinct (f.ayG.map dT.name) with
   | false =>simp only[go_sem,oE,aAX];exact oG rfl rfl
   | true =>
    simp only[go_sem,e.a5,aAL];refine aB (AR L h5 N) rfl ?_;cases W:distinct (PU f) with
    | false =>simp only[go_sem,oE,aAX];exact oG rfl rfl
    | true =>
     simp only[go_sem,e.a6,aAL];refine aB (AR L E O) rfl ?_;cases X:distinct (f.ayJ.map cX.name) with
     | false =>simp only[go_sem,oE,aAX];exact oG rfl rfl
     | true =>
      simp only[go_sem,e.a7,aAL];refine tT (L.uniq _ R) h7 rfl fun y S I=>?_;have g:y 239=some (.bool false):=I 239 _ rfl fun _ _ _=>rfl;cases Y:distinct (f.ayH.map fV.name) with
      | false =>simp only[go_sem,oE,aAX,g];exact oG rfl rfl
      | true =>simp only[go_sem,GF,aAL,g];exact oG rfl rfl
abbrev j5 (b:Bool):cN:=aS [.tmp 2] (cK (.int .i64 (bI b)))
def uz:aE:=.seq (.seq (.region UM) (.block 10 (.loop GD))) (.seq (.seq (.region zF) (.cond (.tmp 243) (.seq (.region oE) .ret) .skip)) (.seq (.region GF) .ret))
def uy:aE:=.seq (.seq (.region UJ) (.block 8 (.loop GC))) uz
def ux:aE:=.seq (.seq (.region UH) (.block 6 (.loop GB))) uy
def uw:aE:=.seq (.seq (.region UG) (.block 4 (.loop GA))) ux
def uv:aE:=.seq (.seq (.region UE) (.block 2 (.loop FZ))) uw
def Vt:aE:=.seq (.seq (.region ib) (.block 0 (.loop FY))) uv
theorem akZ {C:Ctx} (L:kP C) (f:aC) (y:Small f) (u w x K:PV) (ok:Bool) (F:PF) (H:PH) (l:kV F f u w x K .aA ok)
  (E:Seen 1 u (fG (f.ayN.map cW.name))) (I:Seen 1 w (fG (f.ayG.map dT.name))) (h5:Seen 1 x (fG (PU f))) (R:bZ H 1 K (fG (f.ayJ.map cX.name))) :
  aE.wp C uz (j5 (ok&&f.ayH.all (nT f)&&vI f)) F H:=by
 unfold uz;simp only[go_sem,UM,l.a1,azT];refine qG R fun J B N O U j=>?_;refine To L f y.ayH y.ayJ ok u w x J _ N O ⟨j 1 _ (by simp only[go_sem,l.a1]) fun _ _ _=>rfl,j 3 _ (by simp only[go_sem,l.a3]) E.pure,j 4 _ (by simp only[go_sem,l.a4]) I.pure,j 5 _ (by simp only[go_sem,l.a5]) h5.pure,U 6 (by simp only[go_sem,l.a6]),j 7 _ (by simp only[go_sem,l.a7]) fun _ _ _=>rfl,j 8 _ (by simp only[go_sem,l.a8]) fun _ _ _=>rfl⟩
  (j 195 _ rfl fun _ _ _=>rfl) (j 196 _ rfl fun _ _ _=>rfl) (j 197 _ rfl fun _ _ _=>rfl) fun v M H' A S=>?_
 have e:=acZ L f y u w x J v _ M H' A E I h5 B S;simp only[aE.wp,go_sem] at e;simp only[go_sem];exact e
theorem akY {C:Ctx} (L:kP C) (f:aC) (O:f.Ok) (w:Small f) (l u I:PV) (ok:Bool) (F:PF) (H:PH) (j:kV F f l u I .aA .aA ok)
  (A:Seen 1 l (fG (f.ayN.map cW.name))) (B:Seen 1 u (fG (f.ayG.map dT.name))) (h5:bZ H 1 I (fG (PU f))) :
  aE.wp C uy (j5 (ok&&f.ayJ.all (kL f.ayG.length)&&f.ayH.all (nT f)&&vI f)) F H:=by
 unfold uy;simp only[go_sem,UJ,j.a1,azT];refine qG h5 fun E y K M R e=>?_;refine Tn L f O w.ayJ w.ayG ok l u E .aA _ K M ⟨e 1 _ (by simp only[go_sem,j.a1]) fun _ _ _=>rfl,e 3 _ (by simp only[go_sem,j.a3]) A.pure,e 4 _ (by simp only[go_sem,j.a4]) B.pure,R 5 (by simp only[go_sem,j.a5]),e 6 _ (by simp only[go_sem,j.a6]) fun _ _ _=>rfl,e 7 _ (by simp only[go_sem,j.a7]) fun _ _ _=>rfl,e 8 _ (by simp only[go_sem,j.a8]) fun _ _ _=>rfl⟩
  (e 174 _ rfl fun _ _ _=>rfl) (e 175 _ rfl fun _ _ _=>rfl) (e 176 _ rfl fun _ _ _=>rfl) fun v J H' x N=>?_
 simp only[go_sem];exact akZ L f w l u E v _ J H' x A B y N
theorem akX {C:Ctx} (L:kP C) (f:aC) (I:f.Ok) (j:Small f) (l u x:PV) (ok:Bool) (F:PF) (H:PH) (e:kV F f l u x .aA .aA ok)
  (A:Seen 1 l (fG (f.ayN.map cW.name))) (B:Seen 1 u (fG (f.ayG.map dT.name))) (h5:bZ H 1 x (fG ((f.ayI.drop 1).map cS.name))) :
  aE.wp C ux (j5 (ok&&f.ayF.all (kS f)&&f.ayJ.all (kL f.ayG.length)&&f.ayH.all (nT f)&&vI f)) F H:=by
 unfold ux;simp only[go_sem,UH,e.a1,azT];refine Tl L f ((f.ayI.drop 1).map cS.name) (by have:=j.ayI; simp; omega) j.ayF j.ayG j.ayI ok l u x .aA .aA _ _ H ⟨by simp only[go_sem,e.a1],by simp only[go_sem,e.a3],by simp only[go_sem,e.a4],by simp only[go_sem,e.a5],by simp only[go_sem,e.a6],by simp only[go_sem,e.a7],by simp only[go_sem,e.a8]⟩ h5
  rfl rfl rfl fun v y H' w E=>?_
 simp only[go_sem];exact akY L f I j l u v _ y H' w A B E
theorem akW {C:Ctx} (L:kP C) (f:aC) (R:f.Ok) (B:Small f) (V:0<f.ayI.length) (u I:PV) (ok:Bool) (F:PF) (H:PH) (j:kV F f u I .aA .aA .aA ok)
  (A:Seen 1 u (fG (f.ayN.map cW.name))) (N:bZ H 1 I (fG (f.ayG.map dT.name))) :
  aE.wp C uw (j5 (ok&&f.ayF.all (kS f)&&f.ayJ.all (kL f.ayG.length)&&f.ayH.all (nT f)&&vI f)) F H:=by
 unfold uw;have w:(1:Int)≤(f.ayI.length:Nat):=Om;have S:=B.ayI;have l:((f.ayI.map cS.cells).take f.ayI.length).drop 1=(f.ayI.drop 1).map cS.cells:=by rw[aAK (by simp),List.map_drop]
 simp only[go_sem,UG,j.a1,azT,w,aDD,l];refine qG N fun E y K M U e=>?_;refine Tk L f (f.ayI.drop 1) (by simp; omega) ok u E .aA .aA _ K M ⟨e 1 _ (by simp only[go_sem,j.a1]) fun _ _ _=>rfl,e 3 _ (by simp only[go_sem,j.a3]) A.pure,U 4 (by simp only[go_sem,j.a4]),e 5 _ (by simp only[go_sem,j.a5]) fun _ _ _=>rfl,e 6 _ (by simp only[go_sem,j.a6]) fun _ _ _=>rfl,e 7 _ (by simp only[go_sem,j.a7]) fun _ _ _=>rfl,e 8 _ (by simp only[go_sem,j.a8]) fun _ _ _=>rfl⟩
  (e 119 _ rfl fun _ _ _=>rfl) (e 120 _ rfl fun _ _ _=>rfl) (e 121 _ rfl fun _ _ _=>rfl) fun v J H' x O=>?_
 simp only[go_sem];exact akX L f R B u E v _ J H' x A y O
theorem akV {C:Ctx} (L:kP C) (f:aC) (M:f.Ok) (l:Small f) (K:0<f.ayI.length) (y:PV) (ok:Bool) (F:PF) (H:PH) (j:kV F f y .aA .aA .aA .aA ok)
  (I:bZ H 1 y (fG (f.ayN.map cW.name))) :
  aE.wp C uv (j5 (ok&&f.ayG.all (mQ f)&&f.ayF.all (kS f)&&f.ayJ.all (kL f.ayG.length)&&f.ayH.all (nT f)&&vI f)) F H:=by
 unfold uv;simp only[go_sem,UE,j.a1,azT];refine qG I fun x w B E N e=>?_;refine Tj L f l.ayG l.ayN ok x .aA .aA .aA _ B E ⟨e 1 _ (by simp only[go_sem,j.a1]) fun _ _ _=>rfl,N 3 (by simp only[go_sem,j.a3]),e 4 _ (by simp only[go_sem,j.a4]) fun _ _ _=>rfl,e 5 _ (by simp only[go_sem,j.a5]) fun _ _ _=>rfl,e 6 _ (by simp only[go_sem,j.a6]) fun _ _ _=>rfl,e 7 _ (by simp only[go_sem,j.a7]) fun _ _ _=>rfl,e 8 _ (by simp only[go_sem,j.a8]) fun _ _ _=>rfl⟩
  (e 85 _ rfl fun _ _ _=>rfl) (e 86 _ rfl fun _ _ _=>rfl) (e 87 _ rfl fun _ _ _=>rfl) fun v A H' u J=>?_
 simp only[go_sem];exact akW L f M l K x v _ A H' u w J
theorem akU {C:Ctx} (L:kP C) (f:aC) (l:f.Ok) (u:Small f) (y:0<f.ayI.length) (F:PF) (H:PH) (e:kV F f .aA .aA .aA .aA .aA true) :
  aE.wp C Vt (j5 (f.ayN.all rG&&f.ayG.all (mQ f)&&f.ayF.all (kS f)&&f.ayJ.all (kL f.ayG.length)&&f.ayH.all (nT f)&&vI f)) F H:=by
 unfold Vt;simp only[go_sem,ib,e.a1,azT];refine Ti L f l u.ayN .aA .aA .aA .aA _ _ H ⟨by simp only[go_sem,e.a1],by simp only[go_sem,e.a3],by simp only[go_sem,e.a4],by simp only[go_sem,e.a5],by simp only[go_sem,e.a6],by simp only[go_sem,e.a7],by simp only[go_sem,e.a8]⟩ rfl rfl rfl fun v w H' j x=>?_;simp only[go_sem];exact akV L f l u y v _ w H' j x
theorem akS {C:Ctx} (L:kP C) (f:aC) (J:f.Ok):LL.wp C (aS acY.res (cK (.int .i64 (wQ f)))) (PF.args [.agg f.cells]) .nil:=by
 have he:dB f=(oJ f&&nA f&&(f.ayN.all rG&&f.ayG.all (mQ f)&&f.ayF.all (kS f)&&f.ayJ.all (kL f.ayG.length)&&f.ayH.all (nT f))&&vI f):=rfl;simp only[go_sem,LL,No,Np,acY];refine aB (L.inn f.azL 1 4) rfl ?_;have j:∀ (F:PF) (H:PH),dB f=false→F 2=some (.int .i64 1)→aS [.tmp 2] (cK (.int .i64 (wQ f))) .ret F H:=fun F H N O=>oG O (fb N).symm;cases I:within f.azL 1 4 with
 | false =>
  have:oJ f=false:=by simp[oJ,I]
  simp only[go_sem,aAX,pV];exact j _ _ (by rw[he,this]; simp only[aAI]) rfl
 | true =>
  by_cases s1:f.ayN.length≤4
  ·have l:¬ (f.ayN.length:Int)>4:=Om;by_cases s2:f.ayG.length≤4
   ·have u:¬ (f.ayG.length:Int)>4:=Om;by_cases s3:f.ayI.length≤40
    ·have w:¬ (f.ayI.length:Int)>40:=Om;by_cases s4:f.ayF.length≤24
     ·have x:¬ (f.ayF.length:Int)>24:=Om;by_cases K:f.ayJ.length≤4
      ·have y:¬ (f.ayJ.length:Int)>4:=Om;by_cases M:f.ayH.length≤12
       ·have A:¬ (f.ayH.length:Int)>12:=Om;have B:=J7 ⟨s1,s2,s3,s4,K,M⟩;rw[I] at B;simp only[go_sem,aAL,azT,l,u,w,x,y,A];refine aB (L.ayP f J) rfl ?_;cases E:nA f with
        | false =>simp only[go_sem,aAX,pV];exact j _ _ (by rw[he,E]; simp only[aBH,aAI]) rfl
        | true =>
         have R:0<f.ayI.length:=by
          rcases aBU f.ayI.length with h | h
          ·have:f.ayI=[]:=List.eq_nil_of_length_eq_zero h;rw[nA,this] at E;cases E
          ·exact h
         have U:wQ f=bI (f.ayN.all rG&&f.ayG.all (mQ f)&&f.ayF.all (kS f)&&f.ayJ.all (kL f.ayG.length)&&f.ayH.all (nT f)&&vI f):=by rw[wQ,he,B,E]; rfl
         rw[U];simp only[go_sem,aAL,Nq,Nr];have e:=fun F H S=>akU L f J ⟨s1,s2,s3,s4,K,M⟩ R F H S;simp only[Vt,uv,uw,ux,uy,uz,aE.wp,go_sem] at e;exact e _ _ ⟨by simp only[go_sem],by simp only[go_sem],by simp only[go_sem],by simp only[go_sem],by simp only[go_sem],by simp only[go_sem],by simp only[go_sem]⟩
       ·have A:(f.ayH.length:Int)>12:=Om;simp only[go_sem,aAL,azT,l,u,w,x,y,A,pV];exact j _ _ (by rw[he,nO Om]; simp only[aAI]) rfl
      ·have y:(f.ayJ.length:Int)>4:=Om;simp only[go_sem,aAL,azT,l,u,w,x,y,pV];exact j _ _ (by rw[he,nO Om]; simp only[aAI]) rfl
     ·have x:(f.ayF.length:Int)>24:=Om;simp only[go_sem,aAL,azT,l,u,w,x,pV];exact j _ _ (by rw[he,nO Om]; simp only[aAI]) rfl
    ·have w:(f.ayI.length:Int)>40:=Om;simp only[go_sem,aAL,azT,l,u,w,pV];exact j _ _ (by rw[he,nO Om]; simp only[aAI]) rfl
   ·have u:(f.ayG.length:Int)>4:=Om;simp only[go_sem,aAL,azT,l,u,pV];exact j _ _ (by rw[he,nO Om]; simp only[aAI]) rfl
  ·have l:(f.ayN.length:Int)>4:=Om;simp only[go_sem,aAL,azT,l,pV];exact j _ _ (by rw[he,nO Om]; simp only[aAI]) rfl
def lvl (f:aC) (i:Nat):Int:=(f.ayI.map cS.level).getD i 0
def par (f:aC) (i:Nat):Int:=(f.ayI.map cS.parent).getD i 0
def dN (f:aC) (i:Nat):Nat:=(par f i).toNat
def dX (f:aC) (d:Nat):Nat:=((f.ayF.map dL.machine).getD d 0).toNat
def mdl (f:aC) (d:Nat):Nat:=((f.ayF.map dL.model).getD d 0).toNat
def ext (f:aC) (d:Nat):Int:=(f.ayG.map dT.ayW).getD (mdl f d) 0
def tI (f:aC) (v:Nat):Nat:=((f.ayH.map fV.ayS).getD v 0).toNat
def asT:cX:=⟨[],0,0,0,0,0,0,0,0,[],[],⟨false,[],[]⟩,⟨false,[],[]⟩⟩
def bU (f:aC) (v:Nat):cX:=f.ayJ.getD (tI f v) asT
def upN (f:aC):Nat→Nat→Nat
 | 0,i=>i
 | k+1,i=>dN f (upN f k i)
theorem getD_at {α β:Type} {l:List α} {g:α→β} {i:Nat} {b:β} (h:i<l.length):(l.map g).getD i b=g l[i]:=by
 simp[aAG,h]
structure VF (f:aC):Prop where
 small:Small f
 root:0<f.ayI.length∧lvl f 0=0∧par f 0=-1
 dom:∀ i,0<i→i<f.ayI.length→0≤par f i∧dN f i<i∧lvl f (dN f i)=lvl f i-1∧1≤lvl f i∧lvl f i≤4
 drive:∀ d (h:d<f.ayF.length),0≤(f.ayF[d]).model∧mdl f d<f.ayG.length∧0≤(f.ayF[d]).machine∧dX f d<f.ayI.length∧lvl f (dX f d)=4
 ayS:∀ p∈f.ayJ,1≤p.k∧p.k≤6∧0≤p.m∧p.m≤4∧p.k+p.m≤8∧p.s0=0∧(∀ l,0≤p.spread l∧p.spread l≤8)∧∀ m∈p.ayG,0≤m∧m<f.ayG.length
 volume:∀ v (h:v<f.ayH.length),0≤(f.ayH[v]).ayS∧tI f v<f.ayJ.length
 model:∀ m∈f.ayG,1≤m.ayW∧m.ayW≤16
theorem amV {p:cX} {n:Nat} (h:kL n p=true):∀ m∈p.ayG,0≤m∧m<n:=by
 intro m j;simp only[kL,aAF] at h;obtain⟨i,hi,rfl⟩:=aBQ j;have:=aBI.1 h.2 i (aAO.2 hi);rw[aAF] at this;have e:=within_iff.1 this.1;simp only[aAG,aAA hi,aCP] at e;omega
theorem fl {x:Int} (e:1≤x) (j:x≤4):IntKind.i64.wrap (x-1)=x-1:=wrap_i64 Om Om
theorem VF.of {f:aC} (h:dB f=true):VF f:=by
 simp only[dB,aAF] at h;obtain⟨⟨⟨U,j⟩,⟨⟨⟨R,A⟩,y⟩,B⟩,E⟩,-⟩:=h;simp only[oJ,aAF,decide_eq_true_eq] at U;obtain⟨⟨⟨⟨⟨⟨s0,s1⟩,s2⟩,s3⟩,s4⟩,s5⟩,s6⟩:=U;cases e:f.ayI with
 | nil=>rw[nA,e] at j; cases j
 | cons r t =>
  rw[nA,e] at j;simp only[OY,aAF,decide_eq_true_eq] at j;obtain⟨⟨⟨⟨⟨⟨r1,r2⟩,r3⟩,r4⟩,r5⟩,r6⟩,x⟩:=j;have S:f.ayI.length=t.length+1:=by rw[e]; rfl
  refine⟨⟨s1,s2,s3,s4,s5,s6⟩,⟨by omega,by rw[lvl,e]; exact r2,by rw[par,e]; exact r3⟩,?_,?_,?_,?_,?_⟩
  ·intro i h0 hi;obtain⟨k,rfl⟩:∃ k,i=k+1:=⟨i-1,by omega⟩;have I:k<t.length:=Om;have:=aBI.1 x k (aAO.2 I);rw[aAA I] at this;simp only[TD,aAF,decide_eq_true_eq] at this;obtain⟨⟨⟨⟨J,F⟩,K⟩,d4⟩,d5⟩:=this;obtain⟨p0,p1⟩:=within_iff.1 J;obtain⟨W,X⟩:=within_iff.1 K;have u:par f (k+1)=(t[k]).parent:=by rw[par,e]; simp[aAG,I]
   have w:lvl f (k+1)=(t[k]).level:=by rw[lvl,e]; simp[aAG,I]
   rw[fl W X] at F;have Y:lvl f (t[k]).parent.toNat=(t[k]).level-1:=F;refine⟨by rw[u]; exact p0,?_,?_,by rw[w]; exact W,by rw[w]; exact X⟩
   ·rw[dN,u]; omega
   ·rw[dN,u,w]; exact Y
  ·intro d j;have:=aBI.1 y _ (azZ j);simp only[kS,aAF,decide_eq_true_eq] at this;obtain⟨⟨J,F⟩,K⟩:=this;have a1:=within_iff.1 J;have a2:=within_iff.1 F;have u:mdl f d=(f.ayF[d]).model.toNat:=by rw[mdl,getD_at j]
   have w:dX f d=(f.ayF[d]).machine.toNat:=by rw[dX,getD_at j]
   refine⟨a1.1,by rw[u]; omega,a2.1,by rw[w]; omega,by rw[w]; exact K⟩
  ·intro p hp;have M:=aBI.1 B p hp;have Z:=amV M;simp only[kL,WP,aAF,decide_eq_true_eq,List.all_cons,List.all_nil,aBZ] at M;obtain⟨⟨⟨⟨⟨⟨⟨⟨k1,m1⟩,km⟩,q1⟩,z0⟩,sp⟩,-⟩,-⟩,-⟩:=M;obtain⟨g0,g1,g2,g3,g4⟩:=sp;have N:=within_iff.1 k1;have O:=within_iff.1 m1;have b3:=within_iff.1 g0;have b4:=within_iff.1 g1;have b5:=within_iff.1 g2;have b6:=within_iff.1 g3;have b7:=within_iff.1 g4;refine⟨N.1,N.2,O.1,O.2,km,z0,fun l=>?_,Z⟩;unfold cX.spread;split<;>omega
  ·intro v V;have:=aBI.1 E _ (azZ V);have a1:=within_iff.1 this;have u:tI f v=(f.ayH[v]).ayS.toNat:=by rw[tI,getD_at V]
   exact⟨a1.1,by rw[u]; omega⟩
  ·intro m hm;have:=aBI.1 A m hm;simp only[mQ,aAF] at this;exact within_iff.1 this.1.1
theorem d9 {f:aC} (h:VF f) {d:Nat} (j:d<f.ayF.length):∀ {k:Nat},k≤4→upN f k (dX f d)<f.ayI.length∧lvl f (upN f k (dX f d))=4-(k:Int)
 | 0,_=>⟨(h.drive d j).2.2.2.1,by rw[upN,(h.drive d j).2.2.2.2]; rfl⟩
 | k+1,y=>by
  obtain⟨w,u⟩:=d9 h j (k:=k) Om;have l:0<upN f k (dX f d):=by
   rcases aBU (upN f k (dX f d)) with e | e
   ·rw[e,h.root.2.1] at u; omega
   ·exact e
  obtain⟨g1,g2,g3,g4,x⟩:=h.dom _ l w;refine⟨by rw[upN]; omega,?_⟩;rw[upN,g3,u]; omega
def eU (f:aC) (d:Nat) (level:Int):Nat:=upN f (4-level.toNat) (dX f d)
def oW (f:aC) (v:Nat):Int:=(bU f v).k+(bU f v).m
def qy:Rg:=[iA 1 (.box true (Tm 0)),iT 2 false]
def qz:Rg:=[iO 3 7 1,iK 4 96 3,iC 5 .eql 4 0,iM 2 5]
def CN:aE:=(sq qy (sq qz .ret))
def Zt:List Nat:=[1]
def Hh:bC:=⟨1,6,CN,[.tmp 2]⟩
def G3:Rg:=[iA 2 (.box true (Tm 0)),iI 4 0]
def G4:Rd:=[(iF 6 5 2,false),(iL 7 6,false),(iF 8 6 2,false),(iL 9 8,false),(iM 10 1,false),(iX 11 2 9 10,false),(iF 12 1 11,false),(iL 13 12,false),(iX 14 17 7 13,false),(iO 15 17 14,false),(iA 5 (.alloc [(.str []),zI,zI,zI,zI,zI,zI,zI,zI,.aA,.aA,zB,.aA,.aA,zB,.aA,.aA]),true),(iS 17 5 15,true)]
def G5:Rg:=[iF 16 1 5,iL 17 16,iF 18 2 5,iL 19 18,iB 20 .add 17 19,iM 4 20]
def IJ:aE:=(sq G3 (dq G4 (sq G5 .ret)))
def agJ:List Nat:=[2]
def Ve:bC:=⟨2,21,IJ,[.tmp 4]⟩
def G7:Rg:=[iA 2 (.box true (Tm 0)),iZ 4]
def G8:Rg:=[iO 7 7 2,iK 8 161 7,iA 9 (.un .not (Tm 8))]
def G9:Rg:=[iZ 4]
def Ha:Rg:=[iF 10 4 2,iL 11 10,iN 12 11,iA 13 (.ayO 1 8 [zI] (Tm 12) (Tm 12)),iM 5 13]
def Hb:Rg:=[iM 14 5,iN 15 14,iI 16 0]
def Hc:Rg:=[iB 17 .lss 16 15]
def Hd:Rg:=[iM 18 16,iM 6 18]
def He:Rd:=[(iM 19 5,false),(iM 20 6,false),(iF 21 2 2,false),(iL 22 21,false),(iF 23 4 2,false),(iL 24 23,false),(iM 25 6,false),(iX 26 3 24 25,false),(iF 27 1 26,false),(iL 28 27,false),(iX 29 4 22 28,false),(iF 30 1 29,false),(iL 31 30,false),(iX 32 1 19 20,false),(iS 1 32 31,true)]
def Hf:Rg:=[iM 33 1,iN 34 33,iM 35 5,iN 36 35,iB 37 .eql 34 36]
def Hg:Rd:=[(iM 38 5,false),(iM 39 6,false),(iM 40 1,false),(iM 41 6,false),(iX 42 1 40 41,false),(iL 43 42,false),(iA 44 (.azB true (Tm 43) (Ci 0)),false),(iM 45 5,false),(iM 46 6,false),(iX 47 1 45 46,false),(iL 48 47,false),(iA 49 (.azB false (Tm 44) (Tm 48)),false),(iX 50 1 38 39,false),(iS 1 50 49,true)]
def NX:Rg:=[iC 51 .add 16 1,iM 16 51]
def qw:aE:=(sq Hc (.seq (.cond (Tm 17) .skip (.exit 0)) (.seq (.block 1 (sq Hd (dq He (sq Hf (.cond (Tm 37) (.draw Hg) .skip))))) (.region NX))))
def qx:Rg:=[iM 52 5,iM 4 52]
def IK:aE:=(sq G7 (.seq (sq G8 (.cond (Tm 9) (sq G9 .ret) .skip)) (sq Ha (.seq (sq Hb (.block 0 (.loop qw))) (sq qx .ret)))))
def agM:List Nat:=[2]
def QG:bC:=⟨2,53,IK,[.tmp 4]⟩
theorem Zs {C:Ctx} (h:∀ f:aC,f.Ok→aG C 96 [.agg f.cells] .nil (aM (.int .i64 (wQ f)))) (f:aC) (e:f.Ok) :
  CN.wp C (aS Hh.res (cK (.bool (dB f)))) (PF.args [.agg f.cells]) .nil:=by
 simp only[go_sem,CN,qy,qz,Hh];refine aB (h f e) Ev ?_;simp only[go_sem];refine aW Ev ?_;unfold wQ;cases dB f<;>rfl
theorem pH {f:aC} {d:Nat} (h:d<f.ayF.length):(f.ayF.map dL.cells)[d]?=some (f.ayF[d]).cells:=by simp[h]
theorem wT {f:aC} {d:Nat} (h:d<f.ayI.length):(f.ayI.map cS.cells)[d]?=some (f.ayI[d]).cells:=by simp[h]
theorem JE {f:aC} {d:Nat} (h:d<f.ayH.length):(f.ayH.map fV.cells)[d]?=some (f.ayH[d]).cells:=by simp[h]
theorem vE {f:aC} {d:Nat} (h:d<f.ayJ.length):(f.ayJ.map cX.cells)[d]?=some (f.ayJ[d]).cells:=by simp[h]
theorem X7 {f:aC} {d:Nat} (h:d<f.ayG.length):(f.ayG.map dT.cells)[d]?=some (f.ayG[d]).cells:=by simp[h]
theorem Xy {f:aC} {d:Nat} (h:d<f.ayI.length):(f.ayI[d]).level=lvl f d:=by rw[lvl,getD_at h]
theorem Fy {f:aC} {d:Nat} (h:d<f.ayI.length):(f.ayI[d]).parent=par f d:=by rw[par,getD_at h]
theorem VF.PN {f:aC} (h:VF f) {d:Nat} (e:d<f.ayF.length):(f.ayF[d]).machine=((dX f d:Nat):Int):=by
 have:=(h.drive d e).2.2.1;rw[dX,getD_at e]; omega
theorem VF.ZS {f:aC} (h:VF f) {d:Nat} (e:d<f.ayF.length):(f.ayF[d]).model=((mdl f d:Nat):Int):=by
 have:=(h.drive d e).1;rw[mdl,getD_at e]; omega
theorem VF.Ga {f:aC} (h:VF f) {v:Nat} (e:v<f.ayH.length):(f.ayH[v]).ayS=((tI f v:Nat):Int):=by
 have:=(h.volume v e).1;rw[tI,getD_at e]; omega
theorem VF.amT {f:aC} (h:VF f) {i:Nat} (e:0<i) (hi:i<f.ayI.length):par f i=((dN f i:Nat):Int):=by
 have:=(h.dom i e hi).1;rw[dN]; omega
theorem mB {f:aC} (h:VF f) {v:Nat} (j:v<f.ayH.length):∃ e:tI f v<f.ayJ.length,f.ayJ[tI f v]=bU f v:=by
 have e:=(h.volume v j).2;exact⟨e,by simp[bU,aAG,e]⟩
theorem agI {C:Ctx} (f:aC) (j:VF f) (v:Nat) (h:v<f.ayH.length) :
  IJ.wp C (aS Ve.res (cK (.int .i64 (oW f v)))) (PF.args [.agg f.cells,.int .i64 v]) .nil:=by
 obtain⟨l,he⟩:=mB j h;have e:=j.ayS _ (azZ l);rw[he] at e;have u:IntKind.i64.wrap ((bU f v).k+(bU f v).m)=(bU f v).k+(bU f v).m:=wrap_i64 Om Om;simp only[go_sem,IJ,G3,Ve];refine bO .nil dE a_ ?_;simp only[go_sem,G4,JE h,j.Ga h,vE l,he];refine aP fun o w=>?_;simp only[go_sem,G5,u];refine⟨a_,?_⟩;exact oG (n:=(bU f v).k+(bU f v).m) Ev rfl
structure ahU (C:Ctx):Prop where
 valid:∀ f:aC,f.Ok→aG C 161 [.agg f.cells] .nil (aM (.bool (dB f)))
 apC:∀ (f:aC) (v:Nat),VF f→v<f.ayH.length→aG C 156 [.agg f.cells,.int .i64 v] .nil (aM (.int .i64 (oW f v)))
def pick (n:Nat) (p:Nat→Bool):List Int:=((azU n).filter p).map fun (i:Nat)=>(i:Int)
theorem iU (l:List Int):(cO l).length=l.length:=by unfold cO; rw[azT]
section
variable (o s:Nat) (rs:List (List PV))
@[go_sem] theorem avK (k:IntKind) (n:Int):PV.frz o s rs (.int k n)=.int k n:=(rfl)
@[go_sem] theorem atS (b:Bool):PV.frz o s rs (.bool b)=.bool b:=(rfl)
@[go_sem] theorem avO (l:List UInt8):PV.frz o s rs (.str l)=.str l:=(rfl)
@[go_sem] theorem atT:PV.frz o s rs .aA=.aA:=(rfl)
@[go_sem] theorem awP (n:Nat) (r:List (List PV)):PV.frz o s rs (.sl n r)=.sl n r:=(rfl)
@[go_sem] theorem atU (c:List PV):PV.frz o s rs (.cZ c)=.cZ c:=(rfl)
@[go_sem] theorem avN (q z i c:Nat):PV.frz o s rs (.ptr q z i c)=.ptr q z i c:=(rfl)
@[go_sem] theorem awO (n:Nat) (c:List PV):PV.frz o s rs (.fn n c)=.fn n c:=(rfl)
@[go_sem] theorem avL (q:Nat):PV.frz o s rs (.map q)=.map q:=(rfl)
@[go_sem] theorem avM (q z e len:Nat):PV.frz o s rs (.osl q z e len)=if q=o then (if z=s∧e+len≤rs.length then .sl s ((rs.drop e).take len) else .junk) else .osl q z e len:=(rfl)
end
def mK (s:Nat) (rows:List (List PV)) (r:PV) (H:PH):Prop :=
 (rows=[]∧r=.aA∧H=PH.nil)∨∃ q rs,r=.osl q s 0 rows.length∧H=PH.nil.set q (.rows s rs)∧rows.length≤rs.length∧rs.take rows.length=rows
theorem gt (q s:Nat) (rs:List (List PV)):(PH.nil.set q (.rows s rs)).frz q s rs=PH.nil:=PH.ext fun o=>by
 rw[yJ];by_cases e:o=q
 ·rw[if_pos e]; rfl
 ·rw[if_neg e,aQ,if_neg e]; rfl
section
variable {C:Ctx} {K:cN} {F:PF} {H:PH} {s:Nat} {v:PV} {rows:List (List PV)}
theorem mK.over {r:PV} {H':PH} (h:mK s rows r H') (u:kU H .nil H'):bZ (H.over .nil H') s r rows∧∀ o x,H o=some x→(H.over .nil H') o=some x:=by
 rcases h with ⟨e,l,rfl⟩ | ⟨q,rs,e,rfl,h3,h4⟩
 ·rw[PH.mA]; exact⟨.inl ⟨e,l⟩,fun o x h=>h⟩
 ·rw[PH.nL];have hq:H q=none:=u q (.rows s rs) (by simp only[aQ,if_true]) rfl;refine⟨.inr ⟨q,rs,e,by simp only[aQ,if_true],h3,h4⟩,fun o x j=>?_⟩;have:o≠q:=by rintro rfl; rw[hq] at j; cases j
  simp only[aQ,if_neg this,j]
theorem HZ {t:Nat} {e:jZ} (he:e=.normal∨e=.ret) (h:bZ H s v rows) (j:F t=some v):aS [.tmp t] (mK s rows) e F H:=by
 rcases h with ⟨rfl,rfl⟩ | ⟨q,rs,rfl,h1,h2,h3⟩
 ·exact aU (vs:=[.aA]) he .nil (by rw[kM,nM,j,oS]) a_ (.inl ⟨rfl,rfl,rfl⟩)
 ·exact aU (vs:=[.osl q s 0 rows.length]) he (PH.nil.set q (.rows s rs)) (by rw[kM,nM,j,oS]) (e_ a_ h1) (.inr ⟨q,rs,rfl,rfl,h2,h3⟩)
theorem ED {t:Nat} {e:jZ} (he:e=.normal∨e=.ret) (j:F t=some .aA):aS [.tmp t] (mK s []) e F H:=HZ he .nil j
theorem Zb {t:Nat} {e:jZ} {r:PV} {H':PH} (he:e=.normal∨e=.ret) (h:mK s rows r H') (l:F t=some r):aS [.tmp t] (mK s rows) e F (H.over .nil H'):=by
 refine aU (vs:=[r]) he H' (by rw[kM,nM,l,oS]) (fun o x j=>?_) h;rw[oP,j]
theorem aG.freeze {name:Nat} {args:List PV} (h:aG C name args H (mK s rows)):aG C name args H (aM (.sl s rows)) :=
 ⟨h.1,fun E w vs J hW x=>(h.2 E w vs J hW x).mono fun e R he=>by
  obtain⟨u,pv,B,H',rfl,j,A,y,M⟩:=he;rcases M with ⟨rfl,rfl,rfl⟩ | ⟨q,rs,rfl,rfl,h3,h4⟩
  ·exact⟨u,_,B,_,rfl,j,(Co.nil s).sound A,y,rfl,rfl⟩
  ·have N:iR (PF.nil.set 0 (.osl q s 0 rows.length)) (PH.nil.set q (.rows s rs)) _ _:=.step q (s:=s) (rs:=rs) (by simp only[aQ,if_true]) (.refl _ _);obtain⟨I,k1,k2,O⟩:=N.sound j;have l:=O (fun _=>u) (fun i p hi=>by
    rw[mE] at hi;split at hi
    ·cases hi; exact A
    ·cases hi) 0 (.sl s rows) (by rw[nJ,mE,if_pos rfl,aBD,yF h3,h4])
   rw[gt] at k1 k2;exact⟨u,_,I,_,rfl,k1,l,y.trans k2,rfl,rfl⟩⟩
theorem eR.of:∀ {E:Env} (ps:List PV) (vs:List Value),vs.length=ps.length→(∀ (i:Nat) p v,ps[i]?=some p→vs[i]?=some v→aR E p v)→eR E ps vs
 | _,[],[],_,_=>.nil
 | _,[],_::_,h,_=>by simp at h
 | _,_::_,[],h,_=>by simp at h
 | _,p::ps,v::vs,h,k=>.cons (k 0 p v rfl rfl) (eR.of ps vs (by simpa using h) fun i q u a b=>k (i+1) q u (by simpa using a) (by simpa using b))
theorem bK.same {E:Env} {w y:World} (hW:bK E H w) (J:w.heap.size≤y.heap.size) (hb:∀ b,b<w.heap.size→H b=none→y.heap[b]?=w.heap[b]?) (I:∀ o x,H o=some x→y.heap[o]?=w.heap[o]?):bK E H y:=by
 have l:∀ b,b<w.heap.size→y.heap[b]?=w.heap[b]?:=fun b hlt=>by
  cases e:H b with
  | none=>exact hb b hlt e
  | some x=>exact I b x e
 refine⟨fun b cs h=>?_,fun o x h=>?_,fun o n h=>?_⟩
 ·obtain⟨j,ty,B,u⟩:=hW.g b cs h;exact⟨j,ty,B,(l b (aDQ.1 u).1).trans u⟩
 ·obtain⟨j,u⟩:=hW.h o x h;exact⟨Nat.lt_of_lt_of_le j J,u.mono (.refl E) (l o j)⟩
 ·obtain⟨A,ty,B,j,u⟩:=hW.s o n h;exact⟨A,ty,B,(l o (aDQ.1 j).1).trans j,u⟩
inductive Plain:PV→Prop
 | int (k:IntKind) (n:Int):Plain (.int k n)
 | bool (b:Bool):Plain (.bool b)
 | str (l:List UInt8):Plain (.str l)
theorem Plain.rep {v:PV} (h:Plain v) {E e:Env} {u:Value} (r:aR E v u):aR e v u:=by
 cases h<;>cases r
 ·exact .int _ _
 ·exact .bool _
 ·exact .str _
theorem aG.avQ {name o:Nat} {rs:List (List PV)} {args:List PV} (X:Plain v) (h:aG C name (args.map (PV.frz o s rs)) .nil (aM v)) :
  aG C name args (PH.nil.set o (.rows s rs)) (fun r H'=>r=v∧H'=PH.nil.set o (.rows s rs)):=by
 refine⟨h.1,fun E w vs O hW I=>?_⟩;have Y:iR (PF.args args) (PH.nil.set o (.rows s rs)) _ _:=.step o (s:=s) (rs:=rs) (by simp only[aQ,if_true]) (.refl _ _);obtain⟨M,k1,k2,Z⟩:=Y.sound hW;rw[gt] at k1 k2;have B:=I.len;have J:eR M (args.map (PV.frz o s rs)) vs.toList:=by
  refine eR.of _ _ (by rw[azT]; exact B) fun i p u U W=>?_;have:=Z (fun i=>(vs.toList[i]?).getD undef) (fun j q N=>by have S:=(aAW.1 N).1;have A:j<vs.toList.length:=Om;simp only[aAA A,aCP];exact I.at_ j q _ N (aAA A)) i p (by rw[nJ,args_at,← aAR]; exact U)
  simp only[W,aCP] at this;exact this
 refine (h.2 M w vs (k2.env.num.trans O) k1 J).mono fun e w' he=>?_;obtain⟨u,pv,E2,H2,rfl,R,V,y,rfl,rfl⟩:=he;have l:∀ b,b<w.heap.size→w'.heap[b]?=w.heap[b]?:=fun b hb=>y.block b hb rfl;refine⟨u,pv,E,_,rfl,hW.same y.size (fun b hb _=>l b hb) (fun q x hq=>l q (hW.h q x hq).1),X.rep V,⟨.refl E,y.os,y.tape,y.output,y.size,fun b hb _=>l b hb,fun q x hq=>.inl ⟨x,hq⟩,fun b cs hb=>.inl hb⟩,rfl,rfl⟩
theorem abG {Hs:PH} {S:Spec} {name o:Nat} {rs:List (List PV)} {vs:List PV} {R:PH→PV→PH→Prop} {args:List aN} {st:Bool} {d:Option Nat} {K:PF→PH→Prop} (u:S name vs=some ([o],R)) (A:Plain v) (y:H o=some (.rows s rs))
  (h:aG C name (vs.map (PV.frz o s rs)) .nil (aM v)) (e:R (PH.nil.set o (.rows s rs)) v (PH.nil.set o (.rows s rs))) (j:∀ r H',R (PH.nil.set o (.rows s rs)) r H'→r=v∧H'=PH.nil.set o (.rows s rs)) (w:aN.evs F args=some vs) (l:Hs.le H) (x:K (F.put d v) H) :
  dOp C Hs S st (.call name args) d K F H:=EU u y (h.avQ A) e j w l x
theorem ud {name t:Nat} {R:PV→PH→Prop} {d:Option Nat} {K:PF→PH→Prop} (h:aG C name [.sl s rows] .nil R) (x:bZ H s v rows) (w:F t=some v)
  (l:∀ (e:PF) (j:PH),(∀ i u,F i=some u→Pure u→e i=some u)→∀ r H',R r H'→kU j .nil H'→K (e.put d r) (j.over .nil H')):gD C name [.tmp t] [] d K F H:=by
 rcases x with ⟨rfl,rfl⟩ | ⟨q,rs,rfl,h1,h2,h3⟩
 ·exact .inl ⟨[.aA],.nil,R,by rw[yV,YL,w,PA]; rfl,a_,h.U3 (.inl ⟨rfl,rfl⟩),l F H fun i u hi _=>hi⟩
 ·refine .inr ⟨_,_,.step q h1 (.refl _ _),[.sl s rows],.nil,R,?_,a_,h,l _ _ fun i u hi y=>?_⟩
  ·simp only[yV,PA,YL,nJ,w,aBD,yF h2,h3,aBN]
  ·rw[nJ,hi,aBD,y q s rs]
end
def nI (A:List Int) (k:Nat):List Int:=A.take k++azV (A.length-k) 0
theorem Jn (A:List Int):nI A 0=azV A.length 0:=by simp[nI]
theorem Sp (A:List Int):nI A A.length=A:=by simp[nI]
theorem tq (A:List Int) {k:Nat} (h:k≤A.length):(nI A k).length=A.length:=by simp[nI]; omega
theorem Sr (A:List Int) {k:Nat} (h:k<A.length):(nI A k).set k A[k]=nI A (k+1):=by
 unfold nI;rw[aDJ _ _ (by simp; omega),aAJ,aCB Om,Nat.sub_self,show A.length-k=(A.length-(k+1))+1 by omega,List.replicate_succ,List.set_cons_zero,
  aCI h,aAY]
 rfl
theorem AH (l:List Int) (i:Nat) (x:Int):(cO l).set i [.int .i64 x]=cO (l.set i x):=by unfold cO; rw[List.map_set]
theorem Ju (n:Nat):azV n [PV.int .i64 0]=cO (azV n 0):=by simp[cO]
theorem UQ {l:List Int} {i:Nat} (h:i<l.length):(cO l)[i]?=some [.int .i64 l[i]]:=by simp[cO,h]
def mS (f:aC) (room:List Int) (d:Nat):Int:=if room.length=f.ayF.length then min (max (room.getD d 0) 0) (ext f d) else ext f d
def jU (f:aC) (room:List Int):List Int:=(azU f.ayF.length).map (mS f room)
def QE (f:aC) (room:List Int):List Int:=if dB f then jU f room else []
theorem rX (f:aC) (room:List Int):(jU f room).length=f.ayF.length:=by simp[jU]
theorem WX (f:aC) (room:List Int) {d:Nat} (h:d<(jU f room).length):(jU f room)[d]=mS f room d:=by simp[jU]
theorem VF.Wv {f:aC} (h:VF f) {d:Nat} (j:d<f.ayF.length):∃ e:mdl f d<f.ayG.length,(f.ayG[mdl f d]).ayW=ext f d:=by
 have e:=(h.drive d j).2.1;exact⟨e,by rw[ext,getD_at e]⟩
def trF (f:aC) (room:List Int) (o k:Nat):PF:=(((((PF.nil.set 1 (ints room)).set 2 (.cZ f.cells)).set 5 (.osl o 1 0 f.ayF.length)).set 15 (.int .i64 (f.ayF.length:Nat))).set 16 (.int .i64 k))
theorem alN (a b:Int):(if b<a then b else a)=min a b:=by
 rw[Int.min_def];by_cases h:b<a
 ·rw[if_pos h,if_neg Om]
 ·rw[if_neg h,if_pos Om]
theorem agL {C:Ctx} (L:ahU C) (f:aC) (N:f.Ok) (room:List Int) :
  IK.wp C (aS QG.res (mK 1 (cO (QE f room)))) (PF.args [.agg f.cells,ints room]) .nil:=by
 simp only[go_sem,IK,G7,G8,QG];refine aB (L.valid f N) Ev ?_;unfold QE;cases S:dB f with
 | false =>simp only[go_sem,aAX,G9];exact ED (.inr rfl) Ev
 | true =>
  have hV:=VF.of S;have M:=hV.small.ayF;have F:(f.ayF.length:Int)*((8:Nat):Int)≤140737488355328:=Om;have I:(f.ayF.length:Int)≤9223372036854775807:=Om;simp only[go_sem,aAL,Ha,azT,F,I];refine aP fun o X=>?_;simp only[go_sem,Hb];have u:=rX f room;have E:=fun d h=>WX f room (d:=d) h;generalize V:jU f room=A at *
  refine wp_loop (α:=Nat) (fun k=>trF f room o k) (fun k=>PH.nil.set o (.rows 1 (cO (nI A k)))) (fun k=>k≤f.ayF.length) (fun k=>f.ayF.length-k) 0 (aAH _) ?_ ?_ ?_
  ·unfold trF;exact Lq
  ·refine e_ a_ ?_;simp only[go_sem];rw[Jn,u,Ju]
  intro k W;simp only[go_sem,qw,Hc,trF];by_cases hlt:k<f.ayF.length
  ·have e:(k:Int)<(f.ayF.length:Nat):=Om;obtain⟨R,he⟩:=hV.Wv hlt;have O:=tq A (k:=k) Om;have w:k<A.length:=Om;have U:=UQ (l:=nI A k) (i:=k) Om;have j:=Sr A w;rw[E k w] at j;simp only[go_sem,e,Hd];refine bO .nil dE a_ ?_;simp only[go_sem,He,pH hlt,hV.ZS hlt,X7 R,he,e,aAU,U];refine⟨a_,?_⟩;simp only[go_sem,Hf,azT];by_cases c:room.length=f.ayF.length
   ·have y:((room.length:Int)==(f.ayF.length:Int))=true:=bM Om;have x:k<room.length:=Om;have J:(room.map fun n=>[PV.int .i64 n])[k]?=some [.int .i64 room[k]]:=by simp[x]
    simp only[go_sem,y];refine bO .nil dE a_ ?_;have K:(cO ((nI A k).set k (ext f k)))[k]?=some [.int .i64 (ext f k)]:=by rw[← AH,List.getElem?_set_self (by rw[iU]; omega)]
    simp only[go_sem,Hg,J,e,aAU,K,max_eq,alN,List.set_set,AH];refine⟨a_,?_⟩;simp only[go_sem,NX,wZz k];refine aJ (k+1) hlt Om ?_ ?_
    ·exact Lq
    ·refine e_ a_ ?_;rw[← j,mS,if_pos c,aAG,aAA x,aCP];simp only[go_sem]
   ·have y:((room.length:Int)==(f.ayF.length:Int))=false:=bB Om;simp only[go_sem,y,NX,wZz k,AH];refine aJ (k+1) hlt Om ?_ ?_
    ·exact Lq
    ·refine e_ a_ ?_;rw[← j,mS,if_neg c];simp only[go_sem]
  ·have e:¬ (k:Int)<(f.ayF.length:Nat):=Om;have:k=f.ayF.length:=Om;subst this;simp only[go_sem,e,qx];have B:nI A f.ayF.length=A:=by rw[← u,Sp]
   rw[B];exact HZ (.inr rfl) (v:=.osl o 1 0 f.ayF.length) (.inr ⟨o,cO A,by rw[iU,u],by simp only[go_sem],azY _,aAK (azY _)⟩) Sq
def v7 (n:Nat) (xs:List Int):List Int:=(azU n).map fun (d:Nat)=>((xs.count (d:Int):Nat):Int)
def Ca (f:aC) (l:List (List Int)):List Int:=v7 f.ayF.length l.flatten
structure arH (l:List (List Int)):Prop where
 rows:l.length≤16777216
 all:l.flatten.length≤16777216
theorem Wz (l:List (List Int)) {i:Nat} (h:i<l.length):(l.take (i+1)).flatten=(l.take i).flatten++l[i]:=by
 rw[aCI h,List.flatten_append];simp only[List.flatten_cons,List.flatten_nil,aBN]
structure EM where
 kind:Int
 vol:Int
 wher:Int
abbrev EM.cells (x:EM):List PV:=[.int .i64 x.kind,.int .i64 x.vol,.int .i64 x.wher]
def FA (p:Int→Bool):List Int→Nat→Option Nat
 | [],_=>none
 | x::t,i=>if p x then some i else FA p t (i+1)
def aoW (f:aC) (d:Int):Bool:=decide (d < -1)||decide (d≥(f.ayF.length:Nat))
def Gt (f:aC) (l:List (List Int)) (v:Nat):Option EM :=
 if ((l.getD v []).length:Int)=oW f v then (FA (aoW f) (l.getD v []) 0).map fun (i:Nat)=>⟨1,v,i⟩ else some ⟨1,v,((l.getD v []).length:Nat)⟩
section
variable {C:Ctx} {F:PF} {H:PH}
theorem bZ.ne {s s':Nat} {v:PV} {rows:List (List PV)} {o:Nat} {y:List (List PV)} (h:bZ H s v rows) (w:H o=some (.rows s' y)) (x:s≠s'):∀ l,v≠.osl o s 0 l:=by
 intro l e;rcases h with ⟨_,j⟩ | ⟨q,rs,h1,j,_⟩
 ·rw[j] at e; cases e
 ·rw[h1] at e;injection e with u
  subst u;rw[w] at j;injection j with j
  injection j with j
  exact x j.symm
theorem bZ.set {s s':Nat} {v:PV} {rows:List (List PV)} {o:Nat} {y:List (List PV)} {x:bG} (h:bZ H s v rows) (u:H o=some (.rows s' y)) (w:s≠s'):bZ (H.set o x) s v rows:=by
 have l:=h.ne u w;rcases h with ⟨e,j⟩ | ⟨q,rs,e,j,h3,h4⟩
 ·exact .inl ⟨e,j⟩
 ·refine .inr ⟨q,rs,e,?_,h3,h4⟩;have:q≠o:=by rintro rfl; exact l _ e
  simp only[aQ,if_neg this,j]
def Dis (s:Nat) (v u:PV):Prop:=∀ q l e j,v=.osl q s 0 l→u=.osl e s 0 j→q≠e
theorem Dis.nil {s:Nat}:Dis s .aA .aA:=fun _ _ _ _ h=>by cases h
theorem Dis.symm {s:Nat} {v u:PV} (h:Dis s v u):Dis s u v:=fun q l x w e j=>(h x w q l j e).symm
end
def uQ (kind v:Int) (n:Nat) (p:Nat→Bool):List EM:=((azU n).filter p).map fun (i:Nat)=>⟨kind,v,i⟩
def GG (f:aC) (i:Nat) (d:Int):Bool:=decide (0≤d)&&decide (eU f d.toNat (lvl f i)=i)
def gk (f:aC) (xs:List Int) (i:Nat):Int:=if i=0 then 0 else ((xs.countP (GG f i):Nat):Int)
def Sk (f:aC) (xs:List Int):List Int:=(azU f.ayI.length).map (gk f xs)
theorem VF.vW {f:aC} (h:VF f) {i:Nat} (hi:i<f.ayI.length):0≤lvl f i∧lvl f i≤4∧(lvl f i=0↔i=0):=by
 rcases aBU i with e | e
 ·subst e; rw[h.root.2.1]; simp
 ·have:=h.dom i e hi;omega
structure Obs where
 o5:Nat
 o7:Nat
 o8:Nat
 oD:Nat
 oB:Nat
structure Obs.Ne (o:Obs):Prop where
 a1:o.o5≠o.oD
 a2:o.o5≠o.oB
 a3:o.o7≠o.oD
 a4:o.o7≠o.oB
 a5:o.o8≠o.oD
 a6:o.o8≠o.oB
 a7:o.oD≠o.oB
structure aaQ (H:PH) (o:Obs) (v:Nat) (p:cX) (A:List Bool) (D B:List Int):Prop where
 h5:H o.o5=some (.rows 1 [[.int .i64 v]])
 h7:H o.o7=some (.rows 17 [p.cells])
 h8:H o.o8=some (.rows 1 (bD A))
 hD:H o.oD=some (.rows 1 (cO D))
 hB:H o.oB=some (.rows 1 (cO B))
theorem aaQ.keep {H H':PH} {o:Obs} {v:Nat} {p:cX} {A:List Bool} {D B:List Int} (h:aaQ H o v p A D B) (e:∀ q s' z,3≠s'→H q=some (.rows s' z)→H' q=some (.rows s' z)):aaQ H' o v p A D B :=
 ⟨e _ _ _ (by decide) h.h5,e _ _ _ (by decide) h.h7,e _ _ _ (by decide) h.h8,e _ _ _ (by decide) h.hD,e _ _ _ (by decide) h.hB⟩
def home (row:List Int) (i:Nat):Bool:=decide (row.getD i 0<0)
def cz (f:aC) (p:cX) (row:List Int) (i:Nat):Bool:=decide (0≤row.getD i 0)&&!p.ayG.contains ((mdl f (row.getD i 0).toNat:Nat):Int)
def aiG (f:aC) (row:List Int) (d:Nat):Bool:=decide ((v7 f.ayF.length row).getD d 0>1)
def dQ (f:aC) (p:cX) (i:Nat):Int:=p.spread (lvl f i).toNat
def ahZ (f:aC) (p:cX) (row:List Int) (i:Nat):Bool:=decide (dQ f p i>0)&&decide ((Sk f row).getD i 0>dQ f p i)
def ON (f:aC) (p:cX) (v:Nat) (row:List Int):List EM :=
 uQ 2 v row.length (home row)++uQ 3 v f.ayF.length (aiG f row)++uQ 4 v row.length (cz f p row)++uQ 5 v f.ayI.length (ahZ f p row)
theorem vz (n:Nat):azV n [PV.bool false]=bD (marks n []):=by rw[mp]; simp[bD]
def afL (f:aC) (l:List (List Int)) (v:Nat):List EM:=match Gt f l v with
 | some x=>[x]
 | none=>ON f (bU f v) v (l.getD v [])
def Ss (f:aC) (l:List (List Int)) (n:Nat):List EM:=(azU n).flatMap (afL f l)
def over (f:aC) (l:List (List Int)) (room:List Int) (d:Nat):Bool:=decide ((Ca f l).getD d 0>(jU f room).getD d 0)
def aiH (f:aC) (l:List (List Int)) (room:List Int):List EM:=Ss f l l.length++uQ 6 (-1) f.ayF.length (over f l room)
def Vw (f:aC) (l:List (List Int)) (room:List Int):List EM :=
 if dB f then (if l.length=f.ayH.length then aiH f l room else [⟨1,-1,(l.length:Nat)⟩]) else []
def vS (f:aC) (l:List (List Int)) (room:List Int):Bool:=dB f&&decide ((Vw f l room).length=0)
def Oq:Rg:=[iA 2 (.mv (.const (.lit (.pointer none))))]
def Or:Rg:=[iM 3 0,iN 4 3,iC 5 .gtr 4 400]
def Ot:Rg:=[iM 6 0,iA 7 (.slice 1 (Tm 6) none (some (Ci 400)) none),iM 0 7]
def iu:Rg:=[iM 8 0,iA 9 (.append 1 1 (.const .aA) (Tm 8)),iA 10 (.build [.aA,zI] [(0,1,(Tm 9))]),iA 11 (.box false (Tm 10)),iM 2 11]
def MB:aE:=(sq Oq (.seq (sq Or (.cond (Tm 5) (.region Ot) .skip)) (sq iu .ret)))
def alR:List Nat:=[]
def aeJ:bC:=⟨1,12,MB,[.tmp 2]⟩
def VR:Rg:=[iI 4 0]
def HI:Rd:=[(iM 5 0,false),(iA 6 (.ayT (Tm 5)),false),(iF 7 1 6,false),(iL 8 7,false),(iM 9 0,false),(iA 10 (.ayT (Tm 9)),false),(iF 11 0 10,false),(iL 12 11,false),(iN 13 12,false),(iB 14 .geq 8 13,false),(iM 15 14,false),(gM 16 1 15 false,false),(gC 17 .lss 16 2 15 false,false),(iQ 18 15 17,false)]
def VS:Rg:=[iI 4 0]
def Dq:Rg:=[iM 19 0,iA 20 (.ayT (Tm 19)),iF 21 1 20,iL 22 21,iC 23 .add 22 1,iA 24 (.ayT (Tm 19)),iF 25 1 24,iS 1 25 23]
def Dr:Rd:=[(iM 26 0,false),(iA 27 (.ayT (Tm 26)),false),(iF 28 0 27,false),(iL 29 28,false),(iM 30 0,false),(iA 31 (.ayT (Tm 30)),false),(iF 32 1 31,false),(iL 33 32,false),(iC 34 .sub 33 1,false),(iX 35 1 29 34,false),(iL 36 35,false),(iA 37 (.conv .i64 (Tm 36)),false),(iM 38 1,false),(iB 39 .rem 37 38,false),(iM 4 39,false)]
def xH:aE:=(sq VR (.seq (dq HI (.cond (Tm 18) (sq VS .ret) .skip)) (sq Dq (dq Dr .ret))))
def aeK:List Nat:=[]
def uu:bC:=⟨2,40,xH,[.tmp 4]⟩
def C1:Rg:=[iA 2 (.alloc [zB,.aA,.aA])]
def C2:Rg:=[iM 6 0,iA 7 (.call 4 [(Tm 6),(Ci 6)]),iA 8 (.bin .add (Ci 1) (Tm 7)),iM 9 0,iA 10 (.call 4 [(Tm 9),(Ci 8)]),iA 11 (.bin .add (Ci 1) (Tm 10)),iK2 12 50 8 11,iM 5 12,iE 13 5 0,iE 14 5 1,iA 3 (.alloc [zB,.aA,.aA]),iS 3 3 13,iM 4 14]
def C3:Rg:=[iO 15 3 3,iS 3 2 15]
def HD:aE:=(sq C1 (sq C2 (sq C3 .ret)))
def aeA:List Nat:=[]
def T1:bC:=⟨1,16,HD,[.cell 2 (some 3)]⟩
def Oh:Rg:=[iA 4 (.alloc [(.str []),.aA,.aA,.aA])]
def Oi:Rg:=[iM 16 0,iM 17 1,iK2 18 4 16 17,iA 19 (.bin .add (Ci 1) (Tm 18)),iM 5 19]
def Oj:Rg:=[iA 6 (.alloc [(.str []),.aA,.aA,.aA])]
def Ol:Rg:=[iI 7 8]
def On:Rg:=[iI 8 0]
def Oo:Rg:=[iM 20 8,iM 21 5,iB 22 .lss 20 21]
def ip:Rg:=[iM 25 7,iM 9 25]
def iq:Rg:=[iM 26 8,iC 27 .add 26 1,iM 28 5,iB 29 .lss 27 28]
def ir:Rg:=[iM 30 0,iM 31 7,iC 32 .add 31 1,iK2 33 4 30 32,iM 9 33]
def PT:Rg:=[iM 34 7,iM 35 9,iB 36 .sub 34 35,iM 7 36]
def VG:Rg:=[iM 38 9,iA 39 (.call 50 [(Tm 38),(Ci 8)]),iM 37 39,iE 40 37 0,iE 41 37 1,iA 10 (.alloc [zB,.aA,.aA]),iS 3 10 40,iM 11 41]
def VH:Rg:=[iF 42 1 6,iL 43 42,iO 44 3 10,iA 45 (.ayL true 3 1 [zB,.aA,.aA] [(0,(Tm 44))]),iA 46 (.append 3 56 (Tm 43) (Tm 45)),iF 47 1 6,iS 1 47 46]
def VI:Rg:=[iM 48 0,iK 49 1 48,iA 12 (.alloc [zB,.aA,.aA]),iS 3 12 49]
def VJ:Rg:=[iM 50 8,iC 51 .add 50 1,iM 52 5,iB 53 .lss 51 52,iM 54 53,gM 55 0 54 true,iG 56 (.call 4 [(Tm 55),(Ci 3)]) 54 true,gC 57 .eql 56 0 54 true,iP 58 54 57]
def VK:Rg:=[iA 59 (.call 47 [(Ci 0)]),iS 3 12 59]
def HG:Rg:=[iF 60 3 6,iL 61 60,iO 62 3 12,iA 63 (.ayL true 3 1 [zB,.aA,.aA] [(0,(Tm 62))]),iA 64 (.append 3 56 (Tm 61) (Tm 63)),iF 65 3 6,iS 1 65 64]
def VL:Rg:=[iZ 13]
def VM:Rg:=[iI 14 0]
def Di:Rg:=[iM 66 14,iM 67 5,iB 68 .lss 66 67]
def Dj:Rg:=[iA 71 (.call 47 [(Ci 0)]),iA 15 (.alloc [zB,.aA,.aA]),iS 3 15 71]
def Dk:Rg:=[iM 72 14,iM 73 8,iC 74 .add 73 1,iB 75 .eql 72 74,iM 76 75,gM 77 14 76 false,gM 78 8 76 false,gB 79 .neq 77 78 76 false,gM 80 79 76 false,gM 81 0 80 true,iG 82 (.call 4 [(Tm 81),(Ci 3)]) 80 true,gC 83 .eql 82 0 80 true,iG 84 (.pick (Tm 80) (Tm 83) (.const zB)) 76 false,iQ 85 76 84]
def VN:Rg:=[iM 86 0,iK 87 1 86,iS 3 15 87]
def VO:Rg:=[iM 88 13,iO 89 3 15,iA 90 (.ayL true 3 1 [zB,.aA,.aA] [(0,(Tm 89))]),iA 91 (.append 3 56 (Tm 88) (Tm 90)),iM 13 91]
def VP:Rg:=[iM 69 14,iC 70 .add 69 1,iM 14 70]
def HF:aE:=(.seq (sq Di (.cond (Tm 68) .skip (.exit 2))) (.seq (.block 3 (sq Dj (.seq (sq Dk (.cond (Tm 85) (.region VN) .skip)) (.region VO)))) (.region VP)))
def VQ:Rg:=[iF 92 2 6,iL 93 92,iM 94 13,iA 95 (.ayL true 1 1 [.aA] [(0,(Tm 94))]),iA 96 (.append 1 24 (Tm 93) (Tm 95)),iF 97 2 6,iS 1 97 96]
def Dl:Rg:=[iM 23 8,iC 24 .add 23 1,iM 8 24]
def Dh:aE:=(.seq (sq Oo (.cond (Tm 22) .skip (.exit 0))) (.seq (.block 1 (sq ip (.seq (sq iq (.cond (Tm 29) (.region ir) .skip)) (sq PT (sq VG (sq VH (sq VI (.seq (sq VJ (.cond (Tm 58) (.region VK) .skip)) (sq HG (sq VL (.seq (sq VM (.block 2 (.loop HF))) (.region VQ)))))))))))) (.region Dl)))
def Dm:Rg:=[iO 98 4 6,iS 4 4 98]
def MA:aE:=(sq Oh (sq Oi (sq Oj (sq Ol (.seq (sq On (.block 0 (.loop Dh))) (sq Dm .ret))))))
def alP:List Nat:=[45,63,90,95]
def aeF:bC:=⟨2,99,MA,[.cell 4 (some 4)]⟩
def Ov:Rg:=[iZ 4]
def Ow:Rg:=[iZ 5]
def Ox:Rg:=[iI 6 0]
def Oy:Rg:=[iM 7 6,iM 8 1,iA 9 (.azB true (Tm 8) (Ci 1)),iB 10 .lss 7 9]
def Oz:Rg:=[iM 13 5,iM 14 0,iK 15 1 14,iA 16 (.ayL true 3 1 [zB,.aA,.aA] [(0,(Tm 15))]),iA 17 (.append 3 56 (Tm 13) (Tm 16)),iM 5 17]
def O0:Rg:=[iM 11 6,iC 12 .add 11 1,iM 6 12]
def Ou:aE:=(.seq (sq Oy (.cond (Tm 10) .skip (.exit 0))) (.seq (.block 1 (.region Oz)) (.region O0)))
def O1:Rg:=[iM 18 5,iM 4 18]
def MC:aE:=(sq Ov (sq Ow (.seq (sq Ox (.block 0 (.loop Ou))) (sq O1 .ret))))
def alT:List Nat:=[16]
def aeN:bC:=⟨2,19,MC,[.tmp 4]⟩
def Dn:Rg:=[iA 4 (.mv (.const (.str [])))]
def Do:Rg:=[iM 5 0,iM 6 1,iK 7 195 6,iB 8 .add 5 7,iM 4 8]
def HH:aE:=(sq Dn (sq Do .ret))
def aeI:List Nat:=[]
def T4:bC:=⟨2,9,HH,[.tmp 4]⟩
def C6:Rg:=[iM 12 1,iA 13 (.ayT (Tm 12)),iF 14 3 13,iL 15 14,iM 16 2,iX 17 7 15 16,iF 18 1 17,iL 19 18,iC 20 .add 19 1,iM 8 20]
def C7:Rg:=[iM 21 0,iA 22 (.call 4 [(Tm 21),(Ci 2)]),iA 23 (.bin .add (Ci 1) (Tm 22)),iM 9 23]
def C8:Rg:=[iM 24 8,iC 25 .eql 24 2]
def C9:Rg:=[iI 9 1]
def HE:Rg:=[iI 10 0]
def VB:Rg:=[iM 26 10,iM 27 9,iB 28 .lss 26 27]
def VC:Rg:=[iM 31 8,iC 32 .eql 31 5]
def Da:Rg:=[iM 33 1,iA 34 (.ayT (Tm 33)),iF 35 4 34,iL 36 35,iN 37 36,iM 38 3,iB 39 .lss 37 38]
def Db:Rd:=[(iM 40 1,true),(iM 41 1,true),(iA 42 (.ayT (Tm 41)),true),(iF 43 4 42,true),(iL 44 43,true),(iM 45 1,false),(iA 46 (.ayT (Tm 45)),false),(iF 47 4 46,false),(iL 48 47,false),(iN 49 48,false),(iA 50 (.call 29 [(.const (.str [100])),(Tm 49)]),true),(iM 51 0,true),(iM 52 1,true),(iA 53 (.ayT (Tm 52)),true),(iF 54 2 53,true),(iL 55 54,true),(iN 56 55,true),(iK2 57 4 51 56,true),(iM 58 2,true),(iA 59 (.build [(.str []),zI,zI] [(0,1,(Tm 50)),(1,1,(Tm 57)),(2,1,(Tm 58))]),false),(iA 60 (.ayL true 3 1 [(.str []),zI,zI] [(0,(Tm 59))]),false),(iA 61 (.append 3 32 (Tm 44) (Tm 60)),true),(iA 62 (.ayT (Tm 40)),false),(iF 63 4 62,false)]
def Dc:Rd:=[(iS 1 63 61,true)]
def m9:Rg:=[iM 64 1,iA 65 (.ayT (Tm 64)),iF 66 4 65,iL 67 66,iN 68 67,iM 69 3,iB 70 .geq 68 69,iM 71 70,gM 72 1 71 false,iG 73 (.ayT (Tm 72)) 71 false,gF 74 3 73 71 false,gL 75 74 71 false,gN 76 75 71 false,gC 77 .geq 76 35 71 false,iQ 78 71 77]
def na:Rd:=[(iM 79 8,false),(iA 80 (.azI (.const (.str [45,115,114,107,109])) (Tm 79)),false),(iA 81 (.ayL true 1 1 [(.int .u8 0)] [(0,(Tm 80))]),false),(iA 82 (.ayU (Tm 81)),false),(iM 83 1,false),(iA 84 (.ayT (Tm 83)),false),(iF 85 3 84,false),(iL 86 85,false),(iN 87 86,false),(iK2 88 29 82 87,true),(iM 89 8,true),(iM 90 2,true),(iM 91 0,true),(iA 92 (.call 4 [(Tm 91),(Ci 16)]),true),(iA 93 (.bin .add (Ci 1) (Tm 92)),true),(iA 94 (.call 47 [(Ci 0)]),true),(iA 95 (.build [(.str []),zI,zI,zI,zB,.aA,.aA] [(0,1,(Tm 88)),(1,1,(Tm 89)),(2,1,(Tm 90)),(3,1,(Tm 93)),(4,3,(Tm 94))]),false),(iA 11 (.alloc [(.str []),zI,zI,zI,zB,.aA,.aA]),true),(iS 7 11 95,true)]
def nb:Rg:=[iM 96 0,iA 97 (.call 4 [(Tm 96),(Ci 3)]),iC 98 .eql 97 0]
def nc:Rg:=[iM 100 0,iA 101 (.call 4 [(Tm 100),(Ci 6)]),iA 102 (.bin .add (Ci 2) (Tm 101)),iA 103 (.call 50 [(Ci 1),(Tm 102)]),iM 99 103,iE 104 99 0,iE 105 99 1,iF 106 4 11,iS 3 106 104]
def LY:Rd:=[(iM 107 1,true),(iM 108 1,false),(iA 109 (.ayT (Tm 108)),false),(iF 110 3 109,false),(iL 111 110,false),(iO 112 7 11,false),(iA 113 (.ayL true 7 1 [(.str []),zI,zI,zI,zB,.aA,.aA] [(0,(Tm 112))]),false),(iA 114 (.append 7 96 (Tm 111) (Tm 113)),true),(iA 115 (.ayT (Tm 107)),false),(iF 116 3 115,false),(iS 1 116 114,true)]
def LZ:Rg:=[iM 117 0,iM 118 1,iM 119 1,iA 120 (.ayT (Tm 119)),iF 121 3 120,iL 122 121,iN 123 122,iC 124 .sub 123 1,iM 125 3,iA 126 (.call 7 [(Tm 117),(Tm 118),(Tm 124),(Tm 125)])]
def vY:Rg:=[iM 29 10,iC 30 .add 29 1,iM 10 30]
def vX:aE:=(.seq (sq VB (.cond (Tm 28) .skip (.exit 0))) (.seq (.block 1 (.seq (sq VC (.cond (Tm 32) (.seq (sq Da (.cond (Tm 39) (dq Db (.draw Dc)) .skip)) (.exit 1)) .skip)) (.seq (sq m9 (.cond (Tm 78) .ret .skip)) (dq na (.seq (sq nb (.cond (Tm 98) (.region nc) .skip)) (dq LY (.region LZ))))))) (.region vY)))
def xG:aE:=(sq C6 (sq C7 (.seq (sq C8 (.cond (Tm 25) (.region C9) .skip)) (sq HE (.block 0 (.loop vX))))))
def aeB:List Nat:=[60,81,113]
def ut:bC:=⟨4,127,xG,[]⟩
def mr:Rg:=[iA 6 (.alloc [zI,.aA,.aA,.aA,.aA,.aA,.aA])]
def mu:Rg:=[iM 20 0,iA 21 (.call 4 [(Tm 20),(Ci 2)]),iA 22 (.bin .add (Ci 1) (Tm 21)),iA 23 (.build [zI,.aA,.aA,.aA,.aA,.aA,.aA] [(0,1,(Tm 22))]),iA 7 (.alloc [zI,.aA,.aA,.aA,.aA,.aA,.aA]),iS 7 7 23]
def mw:Rg:=[iM 24 0,iA 25 (.call 4 [(Tm 24),(Ci 2)]),iA 26 (.bin .add (Ci 1) (Tm 25)),iM 8 26]
def my:Rg:=[iI 9 0]
def mz:Rg:=[iM 27 9,iM 28 8,iB 29 .lss 27 28]
def m5:Rg:=[iM 32 0,iA 33 (.call 2 [(Tm 32),(Ci 2)]),iA 10 (.alloc [(.str []),.aA,.aA,.aA]),iS 4 10 33]
def m6:Rg:=[iM 34 9,iA 35 (.call 29 [(.const (.str [108,97,119])),(Tm 34)]),iF 36 0 10,iS 1 36 35]
def m7:Rg:=[iF 37 1 7,iL 38 37,iO 39 4 10,iA 40 (.ayL true 4 1 [(.str []),.aA,.aA,.aA] [(0,(Tm 39))]),iA 41 (.append 4 88 (Tm 38) (Tm 40)),iF 42 1 7,iS 1 42 41]
def m8:Rg:=[iM 30 9,iC 31 .add 30 1,iM 9 31]
def LX:aE:=(.seq (sq mz (.cond (Tm 29) .skip (.exit 0))) (.seq (.block 1 (sq m5 (sq m6 (.region m7)))) (.region m8)))
def ZT:Rg:=[iM 43 0,iA 44 (.call 4 [(Tm 43),(Ci 2)]),iA 45 (.bin .add (Ci 1) (Tm 44)),iM 11 45]
def ZU:Rg:=[iI 12 0]
def ZV:Rg:=[iM 46 12,iM 47 11,iB 48 .lss 46 47]
def ZW:Rd:=[(iF 51 2 7,true),(iL 52 51,true),(iM 53 12,false),(iA 54 (.call 29 [(.const (.str [109])),(Tm 53)]),true),(iM 55 0,true),(iA 56 (.call 4 [(Tm 55),(Ci 4)]),true),(iA 57 (.bin .add (Ci 1) (Tm 56)),true),(iM 58 0,true),(iA 59 (.call 4 [(Tm 58),(Ci 8)]),true),(iA 60 (.bin .add (Ci 1) (Tm 59)),true),(iM 61 0,true),(iF 62 1 7,true),(iL 63 62,true),(iN 64 63,true),(iK2 65 4 61 64,true),(iA 66 (.build [(.str []),zI,zI,zI] [(0,1,(Tm 54)),(1,1,(Tm 57)),(2,1,(Tm 60)),(3,1,(Tm 65))]),false),(iA 67 (.ayL true 4 1 [(.str []),zI,zI,zI] [(0,(Tm 66))]),false),(iA 68 (.append 4 40 (Tm 52) (Tm 67)),true),(iF 69 2 7,false)]
def ZX:Rd:=[(iS 1 69 68,true)]
def ZY:Rg:=[iM 49 12,iC 50 .add 49 1,iM 12 50]
def GR:aE:=(.seq (sq ZV (.cond (Tm 48) .skip (.exit 2))) (.seq (.block 3 (dq ZW (.draw ZX))) (.region ZY)))
def ZZ:Rg:=[iA 70 (.call 47 [(Ci 0)]),iA 71 (.build [(.str []),zI,zI,zI,zB,.aA,.aA] [(2,1,(Ci (-1))),(4,3,(Tm 70))]),iA 72 (.ayL false 7 1 [(.str []),zI,zI,zI,zB,.aA,.aA] [(0,(Tm 71))]),iF 73 3 7,iS 1 73 72]
def aa:Rg:=[iM 74 0,iM 75 1,iA 76 (.call 7 [(Tm 74),(Tm 7),(Ci 0),(Tm 75)])]
def ac:Rg:=[iM 77 0,iA 78 (.call 4 [(Tm 77),(Ci 2)]),iA 79 (.bin .add (Ci 1) (Tm 78)),iM 13 79]
def al:Rg:=[iI 14 0]
def an:Rg:=[iM 80 14,iM 81 13,iB 82 .lss 80 81]
def GW:Rg:=[iM 85 14,iA 86 (.call 29 [(.const (.str [112])),(Tm 85)]),iM 87 0,iA 88 (.call 4 [(Tm 87),(Ci 2)]),iA 89 (.bin .add (Ci 1) (Tm 88)),iM 90 0,iA 91 (.call 4 [(Tm 90),(Ci 3)]),iM 92 0,iA 93 (.call 4 [(Tm 92),(Ci 4)]),iA 94 (.bin .add (Ci 1) (Tm 93)),iK 95 47 94,iA 96 (.build [(.str []),zI,zI,zI,zI,zI,zI,zI,zI,.aA,.aA,zB,.aA,.aA,zB,.aA,.aA] [(0,1,(Tm 86)),(1,1,(Tm 89)),(2,1,(Tm 91)),(14,3,(Tm 95))]),iA 15 (.alloc [(.str []),zI,zI,zI,zI,zI,zI,zI,zI,.aA,.aA,zB,.aA,.aA,zB,.aA,.aA]),iS 17 15 96]
def xB:Rd:=[(iF 97 1 15,true),(iL 98 97,true),(iM 99 0,false),(iF 100 2 15,false),(iL 101 100,false),(iC 102 .add 101 1,false),(iK2 103 4 99 102,true),(iB 104 .add 98 103,false),(iF 105 3 15,false)]
def xC:Rd:=[(iS 1 105 104,true)]
def xD:Rg:=[iM 106 0,iF 107 2 15,iL 108 107,iK2 109 5 106 108,iF 110 10 15,iS 1 110 109]
def xE:Rg:=[iM 112 0,iA 113 (.call 4 [(Tm 112),(Ci 9)]),iA 114 (.call 50 [(Tm 113),(Ci 8)]),iM 111 114,iE 115 111 0,iE 116 111 1,iF 117 11 15,iS 3 117 115]
def GX:Rg:=[iI 16 1]
def ao:Rg:=[iM 118 16,iC 119 .lss 118 5]
def ap:Rg:=[iM 122 0,iA 123 (.call 4 [(Tm 122),(Ci 3)]),iC 124 .eql 123 0]
def au:Rg:=[iM 125 16,iM 126 0,iA 127 (.call 4 [(Tm 126),(Ci 3)]),iA 128 (.bin .add (Ci 1) (Tm 127)),iF 129 4 15,iA 130 (.idxA 5 1 (Tm 129) (Tm 125)),iS 1 130 128]
def GY:Rg:=[iM 120 16,iC 121 .add 120 1,iM 16 121]
def xA:aE:=(.seq (sq ao (.cond (Tm 119) .skip (.exit 6))) (.seq (.block 7 (sq ap (.cond (Tm 124) (.region au) .skip))) (.region GY)))
def GZ:Rg:=[iM 131 0,iM 132 11,iK2 133 4 131 132,iM 17 133]
def HA:Rg:=[iM 134 17,iA 135 (.ayL false 1 1 [zI] [(0,(Tm 134))]),iF 136 9 15,iS 1 136 135]
def HB:Rg:=[iM 137 11,iC 138 .gtr 137 1,iM 139 138,gM 140 0 139 true,iG 141 (.call 4 [(Tm 140),(Ci 2)]) 139 true,gC 142 .eql 141 0 139 true,iP 143 139 142]
def HC:Rg:=[iF 144 9 15,iL 145 144,iM 146 17,iA 147 (.bin .sub (Ci 1) (Tm 146)),iA 148 (.ayL true 1 1 [zI] [(0,(Tm 147))]),iA 149 (.append 1 8 (Tm 145) (Tm 148)),iF 150 9 15,iS 1 150 149]
def xF:Rg:=[iF 151 5 7,iL 152 151,iO 153 17 15,iA 154 (.ayL true 17 1 [(.str []),zI,zI,zI,zI,zI,zI,zI,zI,.aA,.aA,zB,.aA,.aA,zB,.aA,.aA] [(0,(Tm 153))]),iA 155 (.append 17 240 (Tm 152) (Tm 154)),iF 156 5 7,iS 1 156 155]
def av:Rg:=[iM 83 14,iC 84 .add 83 1,iM 14 84]
def GT:aE:=(.seq (sq an (.cond (Tm 82) .skip (.exit 4))) (.seq (.block 5 (sq GW (.seq (dq xB (.draw xC)) (sq xD (sq xE (.seq (sq GX (.block 6 (.loop xA))) (sq GZ (sq HA (.seq (sq HB (.cond (Tm 143) (.region HC) .skip)) (.region xF)))))))))) (.region av)))
def aw:Rg:=[iM 157 0,iM 158 2,iC 159 .add 158 1,iK2 160 4 157 159,iM 18 160]
def ay:Rg:=[iI 19 0]
def ba:Rg:=[iM 161 19,iM 162 18,iB 163 .lss 161 162]
def bb:Rd:=[(iF 166 6 7,true),(iL 167 166,true),(iM 168 19,false),(iA 169 (.call 29 [(.const (.str [118])),(Tm 168)]),true),(iM 170 0,true),(iF 171 5 7,true),(iL 172 171,true),(iN 173 172,true),(iK2 174 4 170 173,true),(iA 175 (.build [(.str []),zI] [(0,1,(Tm 169)),(1,1,(Tm 174))]),false),(iA 176 (.ayL true 2 1 [(.str []),zI] [(0,(Tm 175))]),false),(iA 177 (.append 2 24 (Tm 167) (Tm 176)),true),(iF 178 6 7,false)]
def bc:Rd:=[(iS 1 178 177,true)]
def bd:Rg:=[iM 164 19,iC 165 .add 164 1,iM 19 165]
def GU:aE:=(.seq (sq ba (.cond (Tm 163) .skip (.exit 8))) (.seq (.block 9 (dq bb (.draw bc))) (.region bd)))
def be:Rg:=[iO 179 7 7,iS 7 6 179]
def BP:aE:=(sq mr (sq mu (sq mw (.seq (sq my (.block 0 (.loop LX))) (sq ZT (.seq (sq ZU (.block 2 (.loop GR))) (sq ZZ (sq aa (sq ac (.seq (sq al (.block 4 (.loop GT))) (sq aw (.seq (sq ay (.block 8 (.loop GU))) (sq be .ret)))))))))))))
def X3:List Nat:=[40,67,148,154,176]
def C0:bC:=⟨3,180,BP,[.cell 6 (some 7)]⟩
def ml:Rg:=[iA 6 (.alloc [zI,.aA,.aA,.aA,.aA,.aA,.aA])]
def mm:Rg:=[iM 7 0,iK 8 28 7,iM 9 1,iM 10 2,iA 11 (.call 0 [(Tm 8),(Tm 9),(Tm 10)]),iS 7 6 11]
def BO:aE:=(sq ml (sq mm .ret))
def X0:List Nat:=[]
def Cf:bC:=⟨3,12,BO,[.cell 6 (some 7)]⟩
def Dx:Rg:=[iA 3 (.box true (Tm 1)),iZ 4]
def Dy:Rg:=[iM 7 0,iA 8 (.call 4 [(Tm 7),(Ci 4)]),iC 9 .eql 8 0]
def Dz:Rg:=[iZ 4]
def D0:Rg:=[iZ 5]
def D1:Rg:=[iI 6 0]
def D2:Rg:=[iM 10 6,iF 11 4 3,iL 12 11,iN 13 12,iB 14 .lss 10 13]
def D3:Rg:=[iM 17 5,iM 18 0,iA 19 (.call 4 [(Tm 18),(Ci 7)]),iC 20 .sub 19 1,iA 21 (.ayL true 1 1 [zI] [(0,(Tm 20))]),iA 22 (.append 1 8 (Tm 17) (Tm 21)),iM 5 22]
def D4:Rg:=[iM 15 6,iC 16 .add 15 1,iM 6 16]
def Dw:aE:=(.seq (sq D2 (.cond (Tm 14) .skip (.exit 0))) (.seq (.block 1 (.region D3)) (.region D4)))
def D5:Rg:=[iM 23 5,iM 4 23]
def HK:aE:=(sq Dx (.seq (sq Dy (.cond (Tm 9) (sq Dz .ret) .skip)) (sq D0 (.seq (sq D1 (.block 0 (.loop Dw))) (sq D5 .ret)))))
def aeP:List Nat:=[3,21]
def T7:bC:=⟨2,24,HK,[.tmp 4]⟩
def Iu:Rg:=[iZ 2]
def Iv:Rg:=[iM 4 0,iN 5 4,iM 3 5]
def Iw:Rg:=[iM 6 3,iC 7 .gtr 6 0,iM 8 7,gM 9 0 8 true,gM 10 3 8 true,gC 11 .sub 10 1 8 true,iG 12 (.ayX 1 (Tm 9) (Tm 11)) 8 true,gL 13 12 8 true,iG 14 (.bin .eql (Tm 13) (.const (.int .u32 0))) 8 true,iP 15 8 14]
def Ix:Rg:=[iM 16 3,iC 17 .sub 16 1,iM 3 17]
def It:aE:=(.seq (sq Iw (.cond (Tm 15) .skip (.exit 0))) (.block 1 (.region Ix)))
def XN:Rg:=[iM 18 0,iM 19 3,iA 20 (.slice 1 (Tm 18) none (some (Tm 19)) none),iA 21 (.append 1 4 (.const .aA) (Tm 20)),iM 2 21]
def JA:aE:=(sq Iu (sq Iv (.seq (.block 0 (.loop It)) (sq XN .ret))))
def ahG:List Nat:=[]
def Vs:bC:=⟨1,22,JA,[.tmp 2]⟩
def Ij:Rg:=[iZ 2]
def Ik:Rg:=[iM 3 0,iA 4 (.conv .u32 (Tm 3)),iM 5 0,iA 6 (.bin .shr (Tm 5) (.const (.int .u64 32))),iA 7 (.conv .u32 (Tm 6)),iA 8 (.ayL true 1 2 [(.int .u32 0)] [(0,(Tm 4)),(1,(Tm 7))]),iK 9 38 8,iM 2 9]
def IR:aE:=(sq Ij (sq Ik .ret))
def agX:List Nat:=[8]
def Vm:bC:=⟨1,10,IR,[.tmp 2]⟩
def rg:Rg:=[iT 2 false]
def rh:Rg:=[iM 3 0,iK 4 38 3,iN 5 4,iC 6 .gtr 5 512,iM 2 6]
def DB:aE:=(sq rg (sq rh .ret))
def Zx:List Nat:=[]
def Ii:bC:=⟨1,7,DB,[.tmp 2]⟩
def Q3:Rg:=[iI 4 0]
def Q4:Rg:=[iM 6 0,iK 7 38 6,iM 8 1,iK 9 38 8,iM 0 7,iM 1 9]
def Q5:Rg:=[iM 10 0,iN 11 10,iM 12 1,iN 13 12,iB 14 .neq 11 13]
def Q6:Rg:=[iM 15 0,iN 16 15,iM 17 1,iN 18 17,iB 19 .lss 16 18]
def Q7:Rg:=[iI 4 (-1)]
def Q8:Rg:=[iI 4 1]
def Q9:Rg:=[iM 20 0,iN 21 20,iC 22 .sub 21 1,iM 5 22]
def Ra:Rg:=[iM 23 5,iC 24 .geq 23 0]
def Rb:Rd:=[(iM 27 0,false),(iM 28 5,false),(iX 29 1 27 28,false),(iL 30 29,false),(iM 31 1,false),(iM 32 5,false),(iX 33 1 31 32,false),(iL 34 33,false),(iB 35 .lss 30 34,false)]
def Rc:Rg:=[iI 4 (-1)]
def Hv:Rd:=[(iM 36 0,false),(iM 37 5,false),(iX 38 1 36 37,false),(iL 39 38,false),(iM 40 1,false),(iM 41 5,false),(iX 42 1 40 41,false),(iL 43 42,false),(iB 44 .gtr 39 43,false)]
def Hw:Rg:=[iI 4 1]
def Hx:Rg:=[iM 25 5,iC 26 .sub 25 1,iM 5 26]
def Hu:aE:=(.seq (sq Ra (.cond (Tm 24) .skip (.exit 0))) (.seq (.block 1 (.seq (dq Rb (.cond (Tm 35) (sq Rc .ret) .skip)) (dq Hv (.cond (Tm 44) (sq Hw .ret) .skip)))) (.region Hx)))
def Hy:Rg:=[iI 4 0]
def NY:aE:=(sq Q3 (sq Q4 (.seq (sq Q5 (.cond (Tm 14) (.seq (sq Q6 (.cond (Tm 19) (sq Q7 .ret) .skip)) (sq Q8 .ret)) .skip)) (.seq (sq Q9 (.block 0 (.loop Hu))) (sq Hy .ret)))))
def anN:List Nat:=[]
def agQ:bC:=⟨2,45,NY,[.tmp 4]⟩
def dr:Rg:=[iZ 4,iZ 5]
def dt:Rg:=[iM 20 0,iM 21 1,iK2 22 32 20 21,iC 23 .lss 22 0]
def du:Rg:=[iM 24 0,iK 25 38 24,iZ 4,iM 5 25]
def dw:Rg:=[iM 26 1,iN 27 26,iC 28 .eql 27 1]
def IM:Rg:=[iM 29 0,iN 30 29,iA 31 (.ayO 1 4 [(.int .u32 0)] (Tm 30) (Tm 30)),iM 6 31]
def IN:Rg:=[iA 7 (.mv (.const (.int .u64 0)))]
def IP:Rg:=[iM 32 0,iN 33 32,iC 34 .sub 33 1,iM 8 34]
def dx:Rg:=[iM 35 8,iC 36 .geq 35 0]
def dy:Rg:=[iM 39 7,iA 40 (.bin .shl (Tm 39) (.const (.int .u64 32))),iM 41 0,iM 42 8,iX 43 1 41 42,iL 44 43,iA 45 (.conv .u64 (Tm 44)),iB 46 .or 40 45,iM 9 46]
def dz:Rg:=[iM 47 6,iM 48 8,iM 49 9,iM 50 1,iA 51 (.ayX 1 (Tm 50) (Ci 0)),iL 52 51,iA 53 (.conv .u64 (Tm 52)),iB 54 .quo 49 53,iA 55 (.conv .u32 (Tm 54)),iX 56 1 47 48,iS 1 56 55]
def SG:Rg:=[iM 57 9,iM 58 1,iA 59 (.ayX 1 (Tm 58) (Ci 0)),iL 60 59,iA 61 (.conv .u64 (Tm 60)),iB 62 .rem 57 61,iM 7 62]
def SH:Rg:=[iM 37 8,iC 38 .sub 37 1,iM 8 38]
def CO:aE:=(.seq (sq dx (.cond (Tm 36) .skip (.exit 0))) (.seq (.block 1 (sq dy (sq dz (.region SG)))) (.region SH)))
def CP:Rg:=[iM 63 6,iK 64 38 63,iM 65 7,iK 66 35 65,iM 4 64,iM 5 66]
def SI:Rg:=[iM 67 1,iN 68 67,iA 69 (.bin .mul (Ci 32) (Tm 68)),iM 70 1,iK 71 31 70,iB 72 .sub 69 71,iM 10 72]
def SJ:Rg:=[iM 73 0,iM 74 10,iK2 75 45 73 74,iA 76 (.ayL true 1 2 [(.int .u32 0)] [(0,(.const (.int .u32 0))),(1,(.const (.int .u32 0)))]),iA 77 (.append 1 4 (Tm 75) (Tm 76)),iM 78 1,iM 79 10,iK2 80 45 78 79,iM 11 77,iM 12 80]
def CQ:Rg:=[iM 81 11,iM 82 0,iM 83 10,iK2 84 45 82 83,iN 85 84,iC 86 .add 85 1,iA 87 (.slice 1 (Tm 81) none (some (Tm 86)) none),iM 11 87]
def CR:Rg:=[iM 88 12,iM 89 12,iN 90 89,iC 91 .sub 90 1,iX 92 1 88 91,iL 93 92,iA 94 (.conv .u64 (Tm 93)),iM 13 94]
def CS:Rg:=[iM 95 11,iN 96 95,iM 97 12,iN 98 97,iB 99 .sub 96 98,iA 100 (.ayO 1 4 [(.int .u32 0)] (Tm 99) (Tm 99)),iM 14 100]
def CU:Rg:=[iM 101 14,iN 102 101,iC 103 .sub 102 1,iM 15 103]
def SK:Rg:=[iM 104 15,iC 105 .geq 104 0]
def SL:Rd:=[(iM 108 11,false),(iM 109 15,false),(iM 110 12,false),(iN 111 110,false),(iB 112 .add 109 111,false),(iX 113 1 108 112,false),(iL 114 113,false),(iA 115 (.conv .u64 (Tm 114)),false),(iA 116 (.bin .shl (Tm 115) (.const (.int .u64 32))),false),(iM 117 11,false),(iM 118 15,false),(iM 119 12,false),(iN 120 119,false),(iB 121 .add 118 120,false),(iC 122 .sub 121 1,false),(iX 123 1 117 122,false),(iL 124 123,false),(iA 125 (.conv .u64 (Tm 124)),false),(iB 126 .or 116 125,false),(iM 16 126,false)]
def SM:Rg:=[iM 127 16,iM 128 13,iB 129 .quo 127 128,iM 17 129]
def SN:Rg:=[iM 130 17,iA 131 (.bin .gtr (Tm 130) (.const (.int .u64 4294967295)))]
def SO:Rg:=[iA 17 (.mv (.const (.int .u64 4294967295)))]
def SP:Rd:=[(iM 132 12,true),(iM 133 17,false),(iK 134 35 133,true),(iK2 135 44 132 134,true),(iM 136 11,true),(iM 137 15,true),(iM 138 15,true),(iM 139 12,true),(iN 140 139,true),(iB 141 .add 138 140,true),(iC 142 .add 141 1,true),(iA 143 (.slice 1 (Tm 136) (some (Tm 137)) (some (Tm 142)) none),true),(iA 144 (.append 1 4 (.const .aA) (Tm 143)),true),(iK2 145 32 135 144,true),(iC 146 .gtr 145 0,false)]
def SQ:Rg:=[iM 147 17,iA 148 (.bin .sub (Tm 147) (.const (.int .u64 1))),iM 17 148]
def vF:aE:=(.seq (dq SP (.cond (Tm 146) .skip (.exit 4))) (.block 5 (.region SQ)))
def CV:Rg:=[iM 149 11,iM 150 15,iM 151 15,iM 152 12,iN 153 152,iB 154 .add 151 153,iC 155 .add 154 1,iA 156 (.slice 1 (Tm 149) (some (Tm 150)) (some (Tm 155)) none),iA 157 (.append 1 4 (.const .aA) (Tm 156)),iM 158 12,iM 159 17,iK 160 35 159,iK2 161 44 158 160,iK2 162 42 157 161,iM 18 162]
def CW:Rg:=[iI 19 0]
def SR:Rg:=[iM 163 19,iM 164 12,iN 165 164,iB 166 .leq 163 165]
def SS:Rg:=[iM 169 11,iM 170 15,iM 171 19,iB 172 .add 170 171,iX 173 1 169 172,⟨none,.store 1 (Tm 173) (.const (.int .u32 0)),none⟩]
def ST:Rg:=[iM 174 19,iM 175 18,iN 176 175,iB 177 .lss 174 176]
def SU:Rg:=[iM 178 11,iM 179 15,iM 180 19,iB 181 .add 179 180,iM 182 18,iM 183 19,iX 184 1 182 183,iL 185 184,iX 186 1 178 181,iS 1 186 185]
def CX:Rg:=[iM 167 19,iC 168 .add 167 1,iM 19 168]
def vG:aE:=(.seq (sq SR (.cond (Tm 166) .skip (.exit 6))) (.seq (.block 7 (sq SS (sq ST (.cond (Tm 177) (.region SU) .skip)))) (.region CX)))
def CY:Rg:=[iM 187 14,iM 188 15,iM 189 17,iA 190 (.conv .u32 (Tm 189)),iX 191 1 187 188,iS 1 191 190]
def CZ:Rg:=[iM 106 15,iC 107 .sub 106 1,iM 15 107]
def vH:aE:=(.seq (sq SK (.cond (Tm 105) .skip (.exit 2))) (.seq (.block 3 (dq SL (sq SM (.seq (sq SN (.cond (Tm 131) (.region SO) .skip)) (.seq (.block 4 (.loop vF)) (sq CV (.seq (sq CW (.block 6 (.loop vG))) (.region CY)))))))) (.region CZ)))
def DA:Rg:=[iM 192 14,iK 193 38 192,iM 194 11,iK 195 38 194,iM 196 10,iK2 197 40 195 196,iM 4 193,iM 5 197]
def zS:aE:=(sq dr (.seq (sq dt (.cond (Tm 23) (sq du .ret) .skip)) (.seq (sq dw (.cond (Tm 28) (sq IM (sq IN (.seq (sq IP (.block 0 (.loop CO))) (sq CP .ret)))) .skip)) (sq SI (sq SJ (sq CQ (sq CR (sq CS (.seq (sq CU (.block 2 (.loop vH))) (sq DA .ret))))))))))
def Vj:List Nat:=[76]
def jy:bC:=⟨2,198,zS,[.tmp 4,.tmp 5]⟩
def Re:Rg:=[iZ 4,iZ 5,iI 6 0]
def Rf:Rg:=[iM 9 0,iK 10 41 9,iM 11 10,gM 12 1 11 false,gK 13 41 12 11 false,iQ 14 11 13]
def jx:Rg:=[iZ 4,iZ 5,iI 6 2]
def Rh:Rg:=[iM 15 1,iK 16 38 15,iN 17 16,iC 18 .eql 17 0]
def Ri:Rg:=[iZ 4,iZ 5,iI 6 3]
def Rj:Rg:=[iM 20 0,iK 21 38 20,iM 22 1,iK 23 38 22,iK2 24 39 21 23,iM 19 24,iE 25 19 0,iE 26 19 1,iM 7 25,iM 8 26]
def Rk:Rg:=[iM 27 7,iM 28 8,iM 4 27,iM 5 28,iI 6 0]
def NZ:aE:=(sq Re (.seq (sq Rf (.cond (Tm 14) (sq jx .ret) .skip)) (.seq (sq Rh (.cond (Tm 18) (sq Ri .ret) .skip)) (sq Rj (sq Rk .ret)))))
def anP:List Nat:=[]
def udiv:bC:=⟨2,29,NZ,[.tmp 4,.tmp 5,.tmp 6]⟩
def Rm:Rg:=[iZ 4,iI 5 0]
def Rn:Rg:=[iM 10 0,iK 11 41 10,iM 12 11,gM 13 1 12 false,gK 14 41 13 12 false,iQ 15 12 14]
def jz:Rg:=[iZ 4,iI 5 2]
def Ro:Rg:=[iM 16 0,iK 17 38 16,iM 18 1,iK 19 38 18,iM 6 17,iM 7 19]
def Rp:Rg:=[iM 20 7,iN 21 20,iC 22 .gtr 21 0]
def Rq:Rg:=[iM 24 6,iM 25 7,iK2 26 39 24 25,iM 23 26,iE 27 23 0,iE 28 23 1,iM 8 27,iM 9 28]
def Rr:Rg:=[iM 29 7,iM 30 9,iM 6 29,iM 7 30]
def Rl:aE:=(.seq (sq Rp (.cond (Tm 22) .skip (.exit 0))) (.block 1 (sq Rq (.region Rr))))
def Rs:Rg:=[iM 31 6,iM 4 31,iI 5 0]
def OC:aE:=(sq Rm (.seq (sq Rn (.cond (Tm 15) (sq jz .ret) .skip)) (sq Ro (.seq (.block 0 (.loop Rl)) (sq Rs .ret)))))
def anR:List Nat:=[]
def agV:bC:=⟨2,32,OC,[.tmp 4,.tmp 5]⟩
def ff:Rg:=[iA 6 (.alloc [zB,.aA,.aA])]
def fg:Rg:=[iM 9 1,iK 10 38 9,iM 11 2,iK 12 38 11,iM 1 10,iM 2 12]
def fh:Rg:=[iM 13 1,iN 14 13,iC 15 .eql 14 0]
def fi:Rg:=[iA 16 (.ayL true 1 1 [(.int .u32 0)] [(0,(.const (.int .u32 1)))]),iA 17 (.build [zB,.aA,.aA] [(2,1,(Tm 16))]),iS 3 6 17]
def fj:Rg:=[iM 19 1,iM 20 2,iK2 21 34 19 20,iM 18 21,iE 22 18 0,iE 23 18 1,iM 7 22,iM 8 23]
def fk:Rg:=[iM 24 7,iN 25 24,iC 26 .gtr 25 1,iM 27 26,gM 28 7 27 false,iG 29 (.ayX 1 (Tm 28) (Ci 0)) 27 false,gL 30 29 27 false,iG 31 (.bin .gtr (Tm 30) (.const (.int .u32 1))) 27 false,iQ 32 27 31]
def JB:Rg:=[iM 34 1,iM 35 7,iK2 36 33 34 35,iM 33 36,iE 37 33 0,iE 38 33 1,iE 39 33 2,iM 1 37]
def JC:Rg:=[iM 41 2,iM 42 7,iK2 43 33 41 42,iM 40 43,iE 44 40 0,iE 45 40 1,iE 46 40 2,iM 2 44]
def xU:Rg:=[iM 47 0,iM 48 1,iM 49 2,iA 50 (.build [zB,.aA,.aA] [(0,1,(Tm 47)),(1,1,(Tm 48)),(2,1,(Tm 49))]),iS 3 6 50]
def zU:aE:=(sq ff (sq fg (.seq (sq fh (.cond (Tm 15) (sq fi .ret) .skip)) (.seq (sq fj (sq fk (.cond (Tm 32) (sq JB (.region JC)) .skip))) (sq xU .ret)))))
def Vy:List Nat:=[16]
def j6:bC:=⟨3,51,zU,[.cell 6 (some 3)]⟩
def I6:Rg:=[iA 2 (.mv (.const (.int .u64 0)))]
def I7:Rg:=[iM 3 0,iC 4 .lss 3 0]
def I8:Rg:=[iM 5 0,iC 6 .add 5 1,iA 7 (.un .neg (Tm 6)),iA 8 (.conv .u64 (Tm 7)),iA 9 (.bin .add (Tm 8) (.const (.int .u64 1))),iM 2 9]
def I9:Rg:=[iM 10 0,iA 11 (.conv .u64 (Tm 10)),iM 2 11]
def JF:aE:=(sq I6 (.seq (sq I7 (.cond (Tm 4) (sq I8 .ret) .skip)) (sq I9 .ret)))
def ahO:List Nat:=[]
def Vz:bC:=⟨1,12,JF,[.tmp 2]⟩
def I0:Rg:=[iA 4 (.alloc [zB,.aA,.aA]),iI 5 0]
def I1:Rg:=[iM 6 1,iC 7 .eql 6 0]
def I2:Rg:=[iA 8 (.build [zB,.aA,.aA] []),iS 3 4 8,iI 5 3]
def I3:Rg:=[iM 9 0,iC 10 .lss 9 0,iM 11 1,iC 12 .lss 11 0,iA 13 (.eqb true (Tm 10) (Tm 12)),iM 14 0,iK 15 59 14,iK 16 35 15,iM 17 1,iK 18 59 17,iK 19 35 18,iA 20 (.call 58 [(Tm 13),(Tm 16),(Tm 19)]),iS 3 4 20,iI 5 0]
def JD:aE:=(sq I0 (.seq (sq I1 (.cond (Tm 7) (sq I2 .ret) .skip)) (sq I3 .ret)))
def ahM:List Nat:=[]
def u0:bC:=⟨2,21,JD,[.cell 4 (some 3),.tmp 5]⟩
def Rw:Rg:=[iA 2 (.alloc [zB,.aA,.aA])]
def Rx:Rg:=[iM 6 0,iA 7 (.call 50 [(Tm 6),(Ci 1)]),iM 5 7,iE 8 5 0,iE 9 5 1,iA 3 (.alloc [zB,.aA,.aA]),iS 3 3 8,iM 4 9]
def Ry:Rg:=[iO 10 3 3,iS 3 2 10]
def OM:aE:=(sq Rw (sq Rx (sq Ry .ret)))
def anV:List Nat:=[]
def ahK:bC:=⟨1,11,OM,[.cell 2 (some 3)]⟩
def utF (xs:List Nat) (n:Nat):PF:=((PF.nil.set 0 (aI xs)).set 3 (.int .i64 n))
theorem ahF {C:Ctx} (xs:List Nat) (R:Lim xs) (S:xs.length≤35184372087808):JA.wp C (aS Vs.res (mK 1 (aH (aK (val xs))))) (PF.args [aI xs]) .nil:=by
 simp only[go_sem,JA,Iu,Iv,Vs,azT];refine wp_loop (α:=Nat) (fun n=>utF xs n) (fun _=>.nil) (fun n=>n≤xs.length∧∀ j x,n≤j→xs[j]?=some x→x=0) (fun n=>n) xs.length ⟨azY _,fun j x B l=>?_⟩ ?_ a_ ?_
 ·rw[aBG B] at l; cases l
 ·unfold utF;exact Lq
 rintro n ⟨N,J⟩;have done:(0<n→∀ h:n-1<xs.length,xs[n-1]≠0)→∀ F:PF,(utF xs n).le F→aE.wp C (.seq (.region XN) .ret) (aS [.tmp 2] (mK 1 (aH (aK (val xs))))) F .nil:=by
  intro h F A;have f0:F 0=some (aI xs):=A 0 _ (by unfold utF; simp only[go_sem]);have K:F 3=some (.int .i64 n):=A 3 _ (by unfold utF; simp only[go_sem]);have E:xs.take n=aK (val xs):=II R N J fun x w l=>by
   rw[aAA Om] at l;injection l with l
   subst l;exact h w Om
  have M:((n:Nat):Int)≤(xs.length:Nat):=Om;simp only[go_sem,XN,f0,K,azT,M,or_true,aBE];refine jH (rows:=[]) (src:=aH (aK (val xs))) .nil ?_ ?_ fun v H' O _=>?_
  ·simp only[go_sem];rw[← E,← List.map_take]
  ·unfold roomFor;rw[bX,← E,aAJ];simp only[aCE,maxLen];omega
  ·exact HZ (.inr rfl) (by simpa using O) rfl
 simp only[aE.wp,go_sem] at done;simp only[go_sem,It,Iw,utF];by_cases w:0<n
 ·have u:((n:Nat):Int)>0:=Om;have hlt:n-1<xs.length:=Om;have y:=bL xs hlt;have I:IntKind.i64.wrap ((n:Int)-1)=((n-1:Nat):Int):=wE Om w;simp only[go_sem,u,I,y];by_cases c:xs[n-1]=0
  ·simp only[go_sem,bM (Om:((xs[n-1]:Nat):Int)=0),Ix,I];refine aJ (n-1) ⟨by omega,fun j x B l=>?_⟩ Om ?_ a_
   ·by_cases e:j=n-1
    ·subst e;rw[aAA hlt] at l;injection l with l
     omega
    ·exact J j x Om l
   ·exact Lq
  ·simp only[go_sem,bB (Om:((xs[n-1]:Nat):Int)≠0)];exact done (fun _ _=>c) _ (by unfold utF; exact Lq)
 ·have u:¬ ((n:Nat):Int)>0:=Om;simp only[go_sem,u];exact done (fun h=>absurd h w) _ (by unfold utF; exact Lq)
structure pR (C:Ctx):Prop where
 trimM:∀ xs,Lim xs→xs.length≤35184372087808→aG C 38 [aI xs] .nil (mK 1 (aH (aK (val xs))))
theorem pR.trim {C:Ctx} (L:pR C) (xs:List Nat) (j:Lim xs) (e:xs.length≤35184372087808):aG C 38 [aI xs] .nil (aM (aI (aK (val xs)))):=(L.trimM xs j e).freeze
theorem agW {C:Ctx} (L:pR C) (v:Nat) (E:v<18446744073709551616):IR.wp C (aS Vm.res (cK (aI (aK v)))) (PF.args [.int .u64 v]) .nil:=by
 have y:IntKind.u32.wrap ((v:Nat):Int)=((v%4294967296:Nat):Int):=cH v;have l:v/4294967296<4294967296:=Om;have A:IntKind.u32.wrap ((v/4294967296:Nat):Int)=((v/4294967296:Nat):Int):=by rw[cH,aBJ l]
 have B:Lim [v%4294967296,v/4294967296]:=by
  intro x w;simp only[aAD,List.mem_nil_iff,or_false] at w;rcases w with rfl | rfl
  ·exact aBP _ (by decide)
  ·exact l
 have e:val [v%4294967296,v/4294967296]=v:=by simp only[val,Nat.mul_zero,aAZ]; exact Nat.mod_add_div v 4294967296
 have j:shift .shr .u64 (v:Int) 32=some (.int .u64 ((v/4294967296:Nat):Int)):=xP;have hb:(2:Nat)*1≤16777216:=by decide
 simp only[go_sem,IR,Ij,Ik,Vm,y,j,A,hb];have u:=L.trim [v%4294967296,v/4294967296] B (by simp);rw[e] at u;refine aB u rfl ?_;simp only[go_sem];exact aU (.inr rfl) .nil rfl a_ ⟨.refl _,rfl⟩
theorem Zw {C:Ctx} (L:pR C) (xs:List Nat) (j:Lim xs) (e:xs.length≤35184372087808):DB.wp C (aS Ii.res (cK (.bool (decide (nl (val xs)>512))))) (PF.args [aI xs]) .nil:=by
 simp only[go_sem,DB,rg,rh,Ii];refine aB (L.trim xs j e) rfl ?_;simp only[go_sem,azT,bH];refine aW rfl ?_;rw[decide_eq_decide];omega
theorem Sh {a b:Nat} (h:nl a<nl b):eP a b=-1:=by
 have:a<b:=by
  rcases aAM a b with h' | h'
  ·exact h'
  ·have:=jP h'; omega
 simp[eP,this]
theorem Sg {a b:Nat} (h:nl b<nl a):eP a b=1:=by
 have:b<a:=by
  rcases aAM b a with h' | h'
  ·exact h'
  ·have:=jP h'; omega
 have e:¬ a<b:=Om;simp[eP,this,e]
def Vg (X Y:List Nat) (i:Int):PF:=(((PF.nil.set 0 (aI X)).set 1 (aI Y)).set 5 (.int .i64 i))
theorem anM {C:Ctx} (L:pR C) (xs e:List Nat) (B:Lim xs) (E:Lim e) (W:xs.length≤35184372087808) (Z:e.length≤35184372087808) :
  NY.wp C (aS agQ.res (aM (.int .i64 (eP (val xs) (val e))))) (PF.args [aI xs,aI e]) .nil:=by
 simp only[go_sem,NY,Q3,Q4,agQ];refine aB (L.trim xs B W) Ev ?_;simp only[go_sem];refine aB (L.trim e E Z) Ev ?_;have bx:=fS B;have J:=fS E;simp only[go_sem,Q5,azT,bH];by_cases w:nl (val xs)≠nl (val e)
 ·simp only[go_sem,eF (show ((nl (val xs):Nat):Int)≠(nl (val e):Nat) by omega),Q6];by_cases K:nl (val xs)<nl (val e)
  ·simp only[go_sem,azT,bH,show ((nl (val xs):Nat):Int)<(nl (val e):Nat) by omega,Q7];refine bS (.inr rfl) Ev ?_;rw[Sh K]; rfl
  ·simp only[go_sem,azT,bH,show ¬ ((nl (val xs):Nat):Int)<(nl (val e):Nat) by omega,Q8];refine bS (.inr rfl) Ev ?_;rw[Sg Om]; rfl
 replace w:=Decidable.of_not_not w;simp only[go_sem,cM (show ((nl (val xs):Nat):Int)=(nl (val e):Nat) by omega),Q9,azT,bH];have ex:=aY (val xs);have x:=aY (val e);have F:=bA (val xs);have I:=bA (val e);generalize R:aK (val xs)=X at *
 generalize S:aK (val e)=Y at *
 have U:X.length=nl (val xs):=by rw[← R]; rfl
 have V:Y.length=nl (val xs):=by rw[w,← S]; rfl
 refine wp_loop (α:=Nat) (fun k=>Vg X Y ((k:Int)-1)) (fun _=>.nil) (fun k=>k≤nl (val xs)∧X.drop k=Y.drop k) (fun k=>k) (nl (val xs)) ⟨azY _,?_⟩ ?_ a_ ?_
 ·rw[aDO Om,aDO Om]
 ·unfold Vg
  (repeat' (first|exact c_|refine d_ ?_ ?_))<;>first|(simp only[go_sem,wrap_i64 (show -9223372036854775808≤((nl (val xs):Nat):Int)-1 by omega) (show ((nl (val xs):Nat):Int)-1≤9223372036854775807 by omega)]<;>rfl)|rfl
 rintro k ⟨hk,j⟩;simp only[go_sem,Hu,Ra,Vg];by_cases h0:0<k
 ·obtain⟨m,rfl⟩:∃ m,k=m+1:=⟨k-1,by omega⟩;have A:((m+1:Nat):Int)-1=(m:Int):=Om;have y:(m:Int)≥0:=Om;have l:m<X.length:=Om;have u:m<Y.length:=Om;simp only[go_sem,A,y];refine bO .nil dE a_ ?_;simp only[go_sem,Rb,bL X l,bL Y u];by_cases M:X[m]<Y[m]
  ·simp only[go_sem,show ((X[m]:Nat):Int)<(Y[m]:Nat) by omega,Rc];refine bS (.inr rfl) Ev ?_;have:=YH F l u j M;rw[ex,x] at this;simp[cY,eP,this]
  ·simp only[go_sem,show ¬ ((X[m]:Nat):Int)<(Y[m]:Nat) by omega];refine bO .nil dE a_ ?_;simp only[go_sem,Hv,bL X l,bL Y u];by_cases N:X[m]>Y[m]
   ·simp only[go_sem,show ((X[m]:Nat):Int)>(Y[m]:Nat) by omega,Hw];refine bS (.inr rfl) Ev ?_;have:=YH I u l j.symm N;rw[ex,x] at this;have O:¬ val xs<val e:=Om;simp[cY,eP,this,O]
   ·simp only[go_sem,show ¬ ((X[m]:Nat):Int)>(Y[m]:Nat) by omega,Hx];refine aJ m ⟨by omega,kc l u j Om⟩ Om ?_ a_
    (repeat' (first|exact c_|refine d_ ?_ ?_))<;>first|(simp only[go_sem,wrap_i64 (Om:-9223372036854775808≤(m:Int)-1) (Om:(m:Int)-1≤9223372036854775807)]<;>rfl)|rfl
 ·have:k=0:=Om;subst this;have A:¬ ((0:Nat):Int)-1≥0:=by decide
  simp only[go_sem,A,Hy];refine bS (.inr rfl) Ev ?_;rw[aBE,aBE] at j;have:val xs=val e:=by rw[← ex,← x,j]
  simp[cY,eP,this]
theorem AW (n:Nat):(((n:Nat):Int)==0)=decide (n=0):=by
 by_cases h:n=0
 ·subst h; rfl
 ·rw[bB Om,decide_eq_false h]
structure vh (C:Ctx):Prop extends pR C where
 make:∀ v:Nat,v<18446744073709551616→aG C 35 [.int .u64 v] .nil (aM (aI (aK v)))
 large:∀ xs,Lim xs→xs.length≤35184372087808→aG C 41 [aI xs] .nil (aM (.bool (decide (nl (val xs)>512))))
 cmp:∀ xs ys,Lim xs→Lim ys→xs.length≤35184372087808→ys.length≤35184372087808→aG C 32 [aI xs,aI ys] .nil (aM (.int .i64 (eP (val xs) (val ys))))
def Vl (a b:Nat):PF:=((PF.nil.set 6 (aI (aK a))).set 7 (aI (aK b)))
structure XV (C:Ctx):Prop extends vh C where
 divide:∀ A B:Nat,B≠0→nl A≤512→nl B≤512→aG C 39 [aI (aK A),aI (aK B)] .nil (aM (qH A B))
def S8 (a b:Nat):PV:=if fJ a b then .tup [aI [],.int .i64 2] else .tup [aI (aK (azW a b)),.int .i64 0]
theorem anQ {C:Ctx} (L:XV C) (a b:List Nat) (w:Lim a) (hb:Lim b) (B:a.length≤35184372087808) (E:b.length≤35184372087808) :
  OC.wp C (aS agV.res (cK (S8 (val a) (val b)))) (PF.args [aI a,aI b]) .nil:=by
 unfold S8;simp only[go_sem,OC,Rm,Rn,agV];refine aB (L.large a w B) rfl ?_;by_cases e:nl (val a)>512
 ·simp only[go_sem,e,jz];rw[if_pos (by simp[fJ,e])];exact kC rfl
 simp only[go_sem,e];refine aB (L.large b hb E) rfl ?_;by_cases j:nl (val b)>512
 ·simp only[go_sem,j,jz];rw[if_pos (by simp[fJ,j])];exact kC rfl
 rw[if_neg (by simp[fJ,e,j])];simp only[go_sem,j,Ro];refine aB (L.trim a w B) rfl ?_;simp only[go_sem];refine aB (L.trim b hb E) rfl ?_;simp only[go_sem];refine wp_loop (α:=Nat × Nat) (fun t=>Vl t.1 t.2) (fun _=>.nil) (fun t=>azW t.1 t.2=azW (val a) (val b)∧nl t.1≤512∧nl t.2≤512) (fun t=>t.2) (val a,val b) ⟨rfl,by simp only; omega,by simp only; omega⟩ ?_ a_ ?_
 ·unfold Vl;exact Lq
 rintro⟨x,y⟩ ⟨u,F,A⟩;simp only at u F A;simp only[go_sem,Rl,Rp,Vl,bH];by_cases l:y=0
 ·subst l;have:¬ ((nl 0:Nat):Int)>0:=by rw[yM]; decide
  simp only[go_sem,this,Rs];refine aU (vs:=[aI (aK x),.int .i64 0]) (.inr rfl) .nil rfl a_ ⟨?_,rfl⟩;rw[← u,Nat.gcd_zero_right];exact .refl _
 ·have I:nl y≠0:=fun h=>l (kY.1 h);have:((nl y:Nat):Int)>0:=Om;simp only[go_sem,this,Rq];refine aB (L.divide x y l Om Om) rfl ?_;simp only[go_sem,qH,Rr];have hlt:x%y<y:=aBP _ (aCL l);refine aJ (y,x%y) ⟨?_,A,?_⟩ hlt ?_ a_
  ·simp only;rw[← u,Nat.gcd_comm y,← Nat.gcd_rec y x,Nat.gcd_comm]
  ·have:=jP (Nat.le_of_lt hlt);simp only; omega
  ·exact Lq
theorem anO {C:Ctx} (L:XV C) (a b:List Nat) (w:Lim a) (hb:Lim b) (x:a.length≤35184372087808) (u:b.length≤35184372087808) :
  NZ.wp C (aS udiv.res (cK (nB (val a) (val b)))) (PF.args [aI a,aI b]) .nil:=by
 unfold nB;simp only[go_sem,NZ,Re,Rf,udiv];refine aB (L.large a w x) rfl ?_;by_cases j:nl (val a)>512
 ·simp only[go_sem,j,jx];rw[if_pos (by simp[fJ,j])];exact rV rfl
 simp only[go_sem,j];refine aB (L.large b hb u) rfl ?_;by_cases l:nl (val b)>512
 ·simp only[go_sem,l,jx];rw[if_pos (by simp[fJ,l])];exact rV rfl
 rw[if_neg (by simp[fJ,j,l])];simp only[go_sem,l,Rh];refine aB (L.trim b hb u) rfl ?_;simp only[go_sem,azT,bH,AW,kY];by_cases e:val b=0
 ·rw[if_pos e];simp only[go_sem,decide_eq_true e,Ri];exact rV rfl
 rw[if_neg e];simp only[go_sem,decide_eq_false e,Rj];refine aB (L.trim a w x) rfl ?_;simp only[go_sem];refine aB (L.trim b hb u) rfl ?_;simp only[go_sem];refine aB (L.divide (val a) (val b) e Om Om) rfl ?_;simp only[go_sem,qH,Rk];exact aU (.inr rfl) .nil rfl a_ ⟨.refl _,rfl⟩
def uG (neg:Bool) (a b:Nat):FV:=(neg&&decide (a/azW a b≠0),a/azW a b,b/azW a b)
structure vi (C:Ctx):Prop extends XV C where
 gcd:∀ a b,Lim a→Lim b→a.length≤35184372087808→b.length≤35184372087808→aG C 34 [aI a,aI b] .nil (aM (S8 (val a) (val b)))
 div:∀ a b,Lim a→Lim b→a.length≤35184372087808→b.length≤35184372087808→aG C 33 [aI a,aI b] .nil (aM (nB (val a) (val b)))
theorem tE {n:Nat} (h:nl n≤512):(aK n).length≤35184372087808:=by rw[bH]; omega
theorem mg:aK 1=[1]:=oN (by decide) (by decide)
theorem ZH {n:Nat} (h:n≠0):aK n=n%4294967296::aK (n/4294967296):=rU h
theorem zC {n:Nat} (h:n≠0):(nl n>1∨n%4294967296>1)↔n≠1:=by
 constructor
 ·rintro h1 rfl;rcases h1 with h1 | h1
  ·rw[nl,mg] at h1; simp at h1
  ·omega
 ·intro h1;by_cases c:nl n>1
  ·exact .inl c
  ·have:n<4294967296 ^ 1:=(jF n 1).1 Om;rw[Nat.pow_one] at this;rw[aBJ this];exact .inr Om
theorem Vx {C:Ctx} (L:vi C) (neg:Bool) (a b:List Nat) (Y:Lim a) (hb:Lim b) (la:a.length≤35184372087808) (lb:b.length≤35184372087808) (E:nl (val a)≤512) (A:nl (val b)≤512) (I:val b≠0) :
  zU.wp C (aS j6.res (cK (.agg (uG neg (val a) (val b)).rf.cells))) (PF.args [.bool neg,aI a,aI b]) .nil:=by
 have j:azW (val a) (val b)≠0:=fun h=>I (Nat.eq_zero_of_gcd_eq_zero_right h);have M:azW (val a) (val b)≤val b:=Nat.gcd_le_right _ (aCL I);have R:nl (azW (val a) (val b))≤512:=aCF (jP M) A;have N:fJ (val a) (val b)=false:=kW E A;simp only[go_sem,zU,ff,fg,j6];refine aP fun o ho=>?_;simp only[go_sem];refine aB (L.trim a Y la) rfl ?_;simp only[go_sem];refine aB (L.trim b hb lb) rfl ?_;simp only[go_sem,fh,azT,bH,AW,kY];by_cases B:val a=0
 ·simp only[go_sem,decide_eq_true B,fi];have e:(uG neg (val a) (val b)).rf=⟨false,[],[1]⟩:=by rw[B];unfold uG FV.rf;simp[gS,Nat.div_self (aCL I),mg]
  rw[e];refine aU (vs:=[.agg [.bool false,.aA,aI [1]]]) (.inr rfl) .nil ?_ a_ ⟨show Co (.agg _) (.agg _) from CoL.agg (CoL.cons (.refl _) (CoL.cons (.nil 1) (CoL.cons (.refl _) .nil))),rfl⟩;simp only[go_sem];rfl
 have l:=L.gcd (aK (val a)) (aK (val b)) (bA _) (bA _) (tE E) (tE A);rw[aY,aY,S8,N] at l;simp only[go_sem,decide_eq_false B,fj];refine aB l rfl ?_;have fin:∀ x y:Nat,x=val a/azW (val a) (val b)→y=val b/azW (val a) (val b)→∀ (F:PF) (H:PH),F 0=some (.bool neg)→F 1=some (aI (aK x))→F 2=some (aI (aK y))→F 6=some (.ptr o 3 0 0)→H o=some (.rows 3 [[.bool false,.aA,.aA]]) →
   aE.wp C (.seq (.region xU) .ret) (aS [.cell 6 (some 3)] (cK (.agg (uG neg (val a) (val b)).rf.cells))) F H:=by
  intro x y O Z F H f0 f1 f2 f6 J;subst O; subst Z;simp only[go_sem,xU,f0,f1,f2,f6,J];have hq:val a/azW (val a) (val b)≠0:=by have:=Nat.div_pos (Nat.gcd_le_left (val b) (aCL B)) (aCL j);omega
  have e:(uG neg (val a) (val b)).rf=⟨neg,aK (val a/azW (val a) (val b)),aK (val b/azW (val a) (val b))⟩:=by unfold uG FV.rf;simp only[hq,ne_eq,not_false_eq_true,decide_true,aBZ]
  rw[e];refine aU (vs:=[.agg (gQ neg (aK (val a/azW (val a) (val b))) (aK (val b/azW (val a) (val b))))]) (.inr rfl) .nil ?_ a_ ⟨.refl _,rfl⟩;simp only[go_sem,f6]
 simp only[aE.wp,go_sem] at fin;have K:=fun x (O:nl x≤512)=>L.div (aK x) (aK (azW (val a) (val b))) (bA _) (bA _) (tE O) (tE R);simp only[aY,nB] at K;have tail:azW (val a) (val b)≠1→∀ (F:PF) (H:PH),F 0=some (.bool neg)→F 1=some (aI (aK (val a)))→F 2=some (aI (aK (val b)))→F 6=some (.ptr o 3 0 0)→F 7=some (aI (aK (azW (val a) (val b))))→H o=some (.rows 3 [[.bool false,.aA,.aA]]) →
   aE.wp C (.seq (.seq (.region JB) (.region JC)) (.seq (.region xU) .ret)) (aS [.cell 6 (some 3)] (cK (.agg (uG neg (val a) (val b)).rf.cells))) F H:=by
  intro _ F H f0 f1 f2 f6 f7 J;have V:=K (val a) E;have W:=K (val b) A;rw[kW E R,if_neg j] at V;rw[kW A R,if_neg j] at W;simp only[go_sem,JB,f1,f7];refine aB V rfl ?_;simp only[go_sem,aCX,JC,f2,f7];refine aB W rfl ?_;simp only[go_sem,aCX];exact fin _ _ rfl rfl _ _ (by simp only[go_sem,f0]) rfl rfl (by simp only[go_sem,f6]) J
 simp only[aE.wp,go_sem] at tail;simp only[go_sem,aCX,fk,azT,bH];by_cases S:nl (azW (val a) (val b))>1
 ·have u:((nl (azW (val a) (val b)):Nat):Int)>1:=Om;simp only[go_sem,u];exact tail ((zC j).1 (.inl S)) _ _ rfl rfl rfl rfl rfl Sq
 ·have u:¬ ((nl (azW (val a) (val b)):Nat):Int)>1:=Om;simp only[go_sem,u,ZH j];by_cases U:azW (val a) (val b)%4294967296>1
  ·have w:((azW (val a) (val b)%4294967296:Nat):Int)>1:=Om;simp only[go_sem,w];exact tail ((zC j).1 (.inr U)) _ _ rfl rfl rfl rfl (by simp only[go_sem,ZH j]) Sq
  ·have w:¬ ((azW (val a) (val b)%4294967296:Nat):Int)>1:=Om;have X:azW (val a) (val b)=1:=by
    rcases Decidable.em (azW (val a) (val b)=1) with h | h
    ·exact h
    ·rcases (zC j).2 h with h | h
     ·exact absurd h S
     ·exact absurd h U
   simp only[go_sem,w];exact fin (val a) (val b) (by rw[X,Nat.div_one]) (by rw[X,Nat.div_one]) _ _ rfl rfl rfl rfl Sq
theorem ahN {C:Ctx} (v:Int) (w:-9223372036854775808≤v) (x:v≤9223372036854775807) :
  JF.wp C (aS Vz.res (aM (.int .u64 (v.natAbs:Nat)))) (PF.args [.int .i64 v]) .nil:=by
 simp only[go_sem,JF,I6,I7,Vz];by_cases c:v<0
 ·have j:IntKind.i64.wrap (v+1)=v+1:=wrap_i64 Om Om;have l:IntKind.i64.wrap (0-(v+1))=-(v+1):=by rw[wrap_i64 Om Om]; omega
  have u:IntKind.u64.wrap (IntKind.u64.wrap (-(v+1))+1)=(v.natAbs:Int):=by rw[gI,gI]; omega
  simp only[go_sem,c,I8,j,l,u];refine bS (.inr rfl) rfl ?_;rfl
 ·have e:IntKind.u64.wrap v=(v.natAbs:Int):=by rw[gI]; omega
  simp only[go_sem,c,I9,e];refine bS (.inr rfl) rfl ?_;rfl
structure R2 (C:Ctx):Prop extends vi C where
 lowest:∀ neg a b,Lim a→Lim b→a.length≤35184372087808→b.length≤35184372087808→nl (val a)≤512→nl (val b)≤512→val b≠0→aG C 58 [.bool neg,aI a,aI b] .nil (aM (.agg (uG neg (val a) (val b)).rf.cells))
 size:∀ v:Int,dS v→aG C 59 [.int .i64 v] .nil (aM (.int .u64 (v.natAbs:Nat)))
def mkT (n d:Int):RF:=(uG (decide (n<0) != decide (d<0)) n.natAbs d.natAbs).rf
def wC (n d:Int):PV:=if d=0 then AB 3 else .tup [.agg (mkT n d).cells,.int .i64 0]
theorem ahL {C:Ctx} (L:R2 C) (n d:Int) (e:dS n) (j:dS d) :
  JD.wp C (aS u0.res (cK (wC n d))) (PF.args [.int .i64 n,.int .i64 d]) .nil:=by
 simp only[go_sem,JD,I0,I1];refine aP fun o l=>?_;unfold wC;by_cases c:d=0
 ·subst c;simp only[go_sem,I2];refine oC ?_;simp only[go_sem,u0]
 ·rw[if_neg c];simp only[go_sem,bB c,I3];refine aB (L.size n e) rfl ?_;simp only[go_sem];refine aB (L.make n.natAbs Om) rfl ?_;simp only[go_sem];refine aB (L.size d j) rfl ?_;simp only[go_sem];refine aB (L.make d.natAbs Om) rfl ?_;simp only[go_sem];have u:nl n.natAbs≤2:=pK Om;have w:nl d.natAbs≤2:=pK Om;have low:=L.lowest (decide (n<0) != decide (d<0)) (aK n.natAbs) (aK d.natAbs) (bA _) (bA _) (by rw[bH]; omega) (by rw[bH]; omega);rw[aY,aY] at low;have low:=low Om Om Om;refine aB low rfl ?_;simp only[go_sem];exact aU (.inr rfl) .nil (vs:=[.agg (mkT n d).cells,.int .i64 0]) (by simp only[go_sem,u0]; rfl) a_ ⟨.refl _,rfl⟩
structure XW (C:Ctx):Prop extends R2 C where
 fmk:∀ n d:Int,dS n→dS d→aG C 50 [.int .i64 n,.int .i64 d] .nil (aM (wC n d))
theorem anU {C:Ctx} (L:XW C) (n:Int) (u:dS n) :
  OM.wp C (aS ahK.res (cK (.agg (mkT n 1).cells))) (PF.args [.int .i64 n]) .nil:=by
 simp only[go_sem,OM,Rw,Rx,ahK];refine aP fun o w=>?_;simp only[go_sem];refine aB (L.fmk n 1 u (by unfold dS; omega)) rfl ?_;unfold wC;rw[if_neg (by decide)];simp only[go_sem];refine aP fun p l=>?_;have e:o≠p:=by rintro rfl;simp only[aQ,if_true] at l;cases l
 have j:p≠o:=fun h=>e h.symm;simp only[go_sem,e,Ry];refine aU (vs:=[.agg (mkT n 1).cells]) (.inr rfl) .nil ?_ a_ ⟨.refl _,rfl⟩;simp only[go_sem,j]
def aD (l:List Nat) (n a:Nat):Nat × Nat:=if l.length≤a∨n<2 then (0,a) else (l.getD a 0%n,a+1)
theorem cD (l:List Nat) {n:Nat} (h:0<n) (a:Nat):(aD l n a).1<n:=by
 unfold aD;split
 ·exact h
 ·exact aBP _ h
theorem bE (l:List Nat) (n:Nat) {a:Nat} (h:a≤l.length):(aD l n a).2≤l.length:=by
 unfold aD;split
 ·exact h
 ·simp only; omega
def fP (l:List Nat) (a:Nat):RF × Nat :=
 let x:=aD l 6 a
 let y:=aD l 8 x.2
 (mkT ((1+x.1:Nat):Int) ((1+y.1:Nat):Int),y.2)
abbrev jX:RF:=mkT 0 1
def jE (l:List Nat) (i j a:Nat):RF × Nat :=
 if j=i+1 then fP l a
 else if j=i then (jX,a)
 else let t:=aD l 3 a
  if t.1=0 then fP l t.2 else (jX,t.2)
def dV (l:List Nat) (i a:Nat):Nat→List RF × Nat
 | 0=>([],a)
 | j+1=>let s:=dV l i a j
  let z:=jE l i j s.2
  (s.1++[z.1],z.2)
structure BC where
 start:List RF
 exit:List RF
 ayK:List (List RF)
 left:Nat
 a:Nat
def dU (l:List Nat) (n i:Nat) (s:BC):Nat × Nat:=if i+1<n then aD l (s.left+1) s.a else (s.left,s.a)
def fD (l:List Nat) (n i a:Nat):RF × Nat :=
 let e:=fP l a
 if i+1<n then (let t:=aD l 3 e.2; (if t.1=0 then jX else e.1,t.2)) else e
def gA (l:List Nat) (n a:Nat):Nat→BC
 | 0=>⟨[],[],[],8,a⟩
 | i+1=>let s:=gA l n a i
  let k:=dU l n i s
  let e:=fD l n i k.2
  let r:=dV l i e.2 n
  ⟨s.start++[mkT (k.1:Nat) 8],s.exit++[e.1],s.ayK++[r.1],s.left-k.1,r.2⟩
def qI (l:List Nat) (dQ a:Nat):cW × Nat :=
 let t:=aD l dQ a
 let s:=gA l (1+t.1) t.2 (1+t.1)
 (⟨[],s.start,s.ayK,s.exit⟩,s.a)
def kD (l:List Nat) (a:Nat):Nat→List RF × Nat
 | 0=>([],a)
 | k+1=>let s:=kD l a k
  let z:=fP l s.2
  (s.1++[z.1],z.2)
abbrev bW (n:Nat):List UInt8:=Lib.decDigits n
def hJ (l:List Nat) (a:Nat):Nat→List cW × Nat
 | 0=>([],a)
 | k+1=>let s:=hJ l a k
  let z:=qI l 2 s.2
  (s.1++[{ z.1 with name:=[108,97,119]++bW k }],z.2)
def eQ (l:List Nat) (ayN a:Nat):Nat→List dT × Nat
 | 0=>([],a)
 | k+1=>let s:=eQ l ayN a k
  let x:=aD l 4 s.2
  let y:=aD l 8 x.2
  let z:=aD l ayN y.2
  (s.1++[⟨[109]++bW k,(1+x.1:Nat),(1+y.1:Nat),(z.1:Nat)⟩],z.2)
structure GS where
 ayP:List cS
 ayZ:List dL
 a:Nat
def jS (l:List Nat) (mc ayF e:Nat) (s:GS):Nat→GS
 | 0=>s
 | i+1=>let s:=jS l mc ayF e s i
  if s.ayZ.length<ayF then
   let t:=aD l mc s.a
   { s with ayZ:=s.ayZ++[⟨[100]++bW s.ayZ.length,(t.1:Nat),(e:Nat)⟩],a:=t.2 }
  else s
def lK (level:Nat):UInt8:=match level with
 | 0=>45
 | 1=>115
 | 2=>114
 | 3=>107
 | _=>109
def nH (l:List Nat) (level e:Nat) (s:GS):GS :=
 let u:=aD l 16 s.a
 let t:=aD l 3 u.2
 let k:=aD l 6 t.2
 let sh:RF × Nat:=if t.1=0 then (mkT 1 ((2+k.1:Nat):Int),k.2) else (jX,t.2)
 { s with ayP:=s.ayP++[⟨[lK level]++bW s.ayP.length,(level:Nat),(e:Nat),(1+u.1:Nat),sh.1⟩],a:=sh.2 }
def pU (ayF:Nat) (s:GS):Bool:=decide (ayF≤s.ayZ.length)||decide (35≤s.ayP.length)
def gV (l:List Nat) (level ayF e:Nat) (rec:Nat→GS→GS) (s:GS):Nat→GS
 | 0=>s
 | i+1=>let s:=gV l level ayF e rec s i
  if pU ayF s then s else (let s':=nH l level e s; rec (s'.ayP.length-1) s')
def eZ (l:List Nat) (mc ayF:Nat):Nat→Nat→GS→GS
 | 0,e,s=>let t:=aD l 2 s.a
  jS l mc ayF e { s with a:=t.2 } (1+t.1)
 | k+1,e,s=>let t:=aD l 2 s.a
  gV l (4-k) ayF e (eZ l mc ayF k) { s with a:=t.2 } (if 4-k=2 then 1 else 1+t.1)
def mH:cS:=⟨[],0,-1,0,jX⟩
def hQ (l:List Nat) (a:Nat):Int × Nat :=
 let t:=aD l 3 a
 let k:=aD l 3 t.2
 if t.1=0 then ((1+k.1:Nat),k.2) else (0,t.2)
def mJ (l:List Nat) (ayG i a:Nat):cX × Nat :=
 let k:=aD l 2 a
 let m:=aD l 3 k.2
 let h:=aD l 4 m.2
 let q:=aD l (m.1+1) h.2
 let r:=kD l q.2 (max m.1 1)
 let g:=aD l 9 r.2
 let s1:=hQ l g.2
 let s2:=hQ l s1.2
 let s3:=hQ l s2.2
 let s4:=hQ l s3.2
 let f:=aD l ayG s4.2
 let b:=aD l 2 f.2
 let ms:List Int × Nat:=if 1<ayG then (if b.1=0 then ([(f.1:Int),1-(f.1:Int)],b.2) else ([(f.1:Int)],b.2)) else ([(f.1:Int)],f.2)
 (⟨[112]++bW i,(1+k.1:Nat),(m.1:Nat),(1+k.1+q.1:Nat),0,s1.1,s2.1,s3.1,s4.1,ms.1,r.1,mkT (g.1:Nat) 8,mkT ((1+h.1:Nat):Int) 1⟩,ms.2)
def dO (l:List Nat) (ayG a:Nat):Nat→List cX × Nat
 | 0=>([],a)
 | k+1=>let s:=dO l ayG a k
  let z:=mJ l ayG k s.2
  (s.1++[z.1],z.2)
def eT (l:List Nat) (pols a:Nat):Nat→List fV × Nat
 | 0=>([],a)
 | k+1=>let s:=eT l pols a k
  let z:=aD l pols s.2
  (s.1++[⟨[118]++bW k,(z.1:Nat)⟩],z.2)
def gW (l:List Nat) (ayF ayH a:Nat):aC × Nat :=
 let e:=aD l 2 a
 let u:=aD l 2 e.2
 let ayN:=hJ l u.2 (1+u.1)
 let j:=aD l 2 ayN.2
 let ayG:=eQ l (1+u.1) j.2 (1+j.1)
 let g:=eZ l (1+j.1) ayF 4 0 ⟨[mH],[],ayG.2⟩
 let pl:=aD l 2 g.a
 let pols:=dO l (1+j.1) pl.2 (1+pl.1)
 let w:=aD l (ayH+1) pols.2
 let vols:=eT l (1+pl.1) w.2 w.1
 (⟨(1+e.1:Nat),ayN.1,ayG.1,g.ayP,g.ayZ,pols.1,vols.1⟩,vols.2)
def mT (l:List Nat) (a:Nat):Nat→List Int × Nat
 | 0=>([],a)
 | k+1=>let s:=mT l a k
  let z:=aD l 7 s.2
  (s.1++[(z.1:Int)-1],z.2)
def qY (l:List Nat) (f:aC) (a:Nat):List Int × Nat :=
 let t:=aD l 4 a
 if t.1=0 then ([],t.2) else mT l t.2 f.ayF.length
abbrev jW (l:List Nat):List (List PV):=l.map fun (n:Nat)=>[PV.int .u8 (n:Int)]
theorem OH (l:List Nat):(jW l).length=l.length:=by simp
theorem ahE (l:List Nat) {i:Nat} (h:i<l.length):(jW l)[i]?=some [.int .u8 (l[i]:Nat)]:=by simp[h]
abbrev aX (v:PV) (a:Nat):bG:=.rows 2 [[v,.int .i64 a]]
structure Tp (l:List Nat) (v:PV):Prop where
 seen:Seen 1 v (jW l)
 byte:∀ x∈l,x<256
 len:l.length≤400
def fy (l:List Nat) (r:PV) (H:PH):Prop:=∃ o v,r=.ptr o 2 0 0∧Tp (l.take 400) v∧H=PH.nil.set o (aX v 0)
theorem tw {t q s:Nat} {rs:List (List PV)} {F:PF} {H H2:PH} {R:PV→PH→Prop} {v:PV} {e:jZ} (he:e=.normal∨e=.ret) (A:F t=some v) (hq:H q=some (.rows s rs)) (x:H2.le (H.frz q s rs)) (y:R (PV.frz q s rs v) H2):aS [.tmp t] R e F H:=by
 have j:∃ vs,dW.evs F H [.tmp t]=some vs∧∃ l w H2,iR (PF.nil.set 0 (cY vs)) H l w∧H2.le w∧∃ u,l 0=some u∧R u H2:=by refine⟨[v],by rw[kM,nM,A,oS],_,_,H2,.step q hq (.refl _ _),x,PV.frz q s rs v,?_,y⟩;rw[nJ,mE,if_pos rfl,aBD];rfl
 rcases he with rfl | rfl<;>exact j
theorem alQ {C:Ctx} (l:List Nat) (hb:∀ x∈l,x<256) (O:l.length≤9223372036854775807):MB.wp C (aS aeJ.res (fy l)) (PF.args [.sl 1 (jW l)]) .nil:=by
 simp only[go_sem,MB,Oq,Or,aeJ,azT];have fin:∀ F:PF,F 0=some (.sl 1 (jW (l.take 400)))→aE.wp C (.seq (.region iu) .ret) (aS [.tmp 2] (fy l)) F .nil:=by
  intro F f0;have y:(l.take 400).length≤400:=by rw[aAJ]; omega
  have w:∀ x∈l.take 400,x<256:=fun x M=>hb x (List.mem_of_mem_take M);have A:∀ o v,Seen 1 v (jW (l.take 400))→fy l (.ptr o 2 0 0) (PH.nil.set o (aX v 0)):=fun o v K=>⟨o,v,rfl,⟨K,w,y⟩,rfl⟩;generalize N:l.take 400=L at *
  simp only[go_sem,iu,f0];refine zV (src:=jW L) rfl ?_ (fun h=>?_) fun h o I=>?_
  ·unfold roomFor;rw[OH];simp only[maxLen]; omega
  ·simp only[go_sem,aAD,aAP,or_false,forall_eq];refine aP fun o I=>?_;simp only[go_sem];exact aU (vs:=[.ptr o 2 0 0]) (.inr rfl) (PH.nil.set o (aX .aA 0)) rfl b_ (A o .aA (.inl ⟨h,rfl⟩))
  ·simp only[go_sem,aAD,aAP,or_false,forall_eq];refine aP fun p J=>?_;have e:¬ p=o:=(jA.1 J).1;have j:¬ o=p:=fun h=>e h.symm;simp only[go_sem];refine tw (v:=.ptr p 2 0 0) (q:=o) (s:=1) (rs:=jW L) (H2:=PH.nil.set p (aX (.sl 1 (jW L)) 0)) (.inr rfl) rfl (by simp only[go_sem,j]) (e_ a_ ?_) (A p _ (.inr rfl));have E:(jW L).take L.length=jW L:=aAK (by rw[OH]; exact azY _);simp only[go_sem,e,bG.frz,PV.cA,azT,E];rfl
 simp only[aE.wp,go_sem] at fin;by_cases c:l.length>400
 ·have u:(l.length:Int)>400:=Om;have B:(400:Int)≤(l.length:Int):=Om;simp only[go_sem,u,Ot,azT,B];refine fin _ ?_;rw[mE,if_pos rfl];simp[jW]
 ·have u:¬ (l.length:Int)>400:=Om;simp only[go_sem,u];refine fin _ ?_;rw[aAK Om];simp only[go_sem]
def OV (l:List Nat) (v:PV) (o n a:Nat) (r:PV) (H:PH):Prop:=r=.int .i64 ((aD l n a).1:Nat)∧H=PH.nil.set o (aX v (aD l n a).2)
theorem Dp {C:Ctx} {l:List Nat} {v:PV} (T:Tp l v) (o n a:Nat) (U:n≤1000000) (R:a≤l.length):xH.wp C (aS uu.res (OV l v o n a)) (PF.args [.ptr o 2 0 0,.int .i64 n]) (PH.nil.set o (aX v a)):=by
 obtain⟨N,hb,S⟩:=T;have zero:(l.length≤a∨n<2)→∀ F,aE.wp C (.seq (.region VS) .ret) (aS [.tmp 4] (OV l v o n a)) F (PH.nil.set o (aX v a)):=by
  intro h F;have e:aD l n a=(0,a):=by unfold aD; rw[if_pos h]
  simp only[go_sem,VS];exact aU (vs:=[.int .i64 0]) (.inr rfl) _ rfl b_ ⟨by rw[e]; rfl,by rw[e]⟩
 simp only[aE.wp,go_sem] at zero;rcases N with ⟨K,rfl⟩ | rfl
 ·have O:l.length=0:=by rw[← OH,K]; rfl
  have x:(a:Int)≥0:=Om;simp only[go_sem,xH,VR,uu];refine bO .nil dE a_ ?_;simp only[go_sem,HI,x];exact zero (.inl Om) _
 simp only[go_sem,xH,VR,uu];refine bO .nil dE a_ ?_;by_cases A:l.length≤a
 ·have j:(a:Int)≥(l.length:Nat):=Om;simp only[go_sem,HI,azT,j];exact zero (.inl A) _
 have j:¬ (a:Int)≥(l.length:Nat):=Om;simp only[go_sem,HI,azT,j];by_cases B:n<2
 ·have u:(n:Int)<2:=Om;simp only[go_sem,u];exact zero (.inr B) _
 have u:¬ (n:Int)<2:=Om;have w:a<l.length:=Om;have e:aD l n a=(l[a]%n,a+1):=by unfold aD;rw[if_neg Om];simp[aAG,w]
 have J:IntKind.i64.wrap ((a:Int)+1)=((a+1:Nat):Int):=dP Om;have I:IntKind.i64.wrap (((a+1:Nat):Int)-1)=((a:Nat):Int):=by rw[wrap_i64 Om Om]; omega
 have M:=ahE l w;have V:=hb _ (azZ w);have E:IntKind.i64.wrap ((l[a]:Nat):Int)=((l[a]:Nat):Int):=XP Om;have y:¬ ((n:Nat):Int)=0:=Om;have em:Int.tmod ((l[a]:Nat):Int) ((n:Nat):Int)=((l[a]%n:Nat):Int):=rfl;simp only[go_sem,u,Dq,J];refine bO .nil dE a_ ?_;simp only[go_sem,Dr,I,M,E,y,em];exact aU (vs:=[.int .i64 (l[a]%n:Nat)]) (.inr rfl) _ rfl b_ ⟨by rw[e]; rfl,by rw[e]⟩
def PV.oid:PV→Option Nat
 | .osl q _ _ _=>some q
 | _=>none
abbrev LI:=PV × Nat × List (List PV)
abbrev BX:=Nat × bG
def eA (B:List BX):List Nat:=B.map (·.1)
def dD (L:List LI):List Nat:=L.filterMap fun x=>x.1.oid
structure aL (H:PH) (B:List BX) (L:List LI):Prop where
 box:∀ b∈B,H b.1=some b.2
 lst:∀ x∈L,bZ H x.2.1 x.1 x.2.2
 nd:(eA B++dD L).Nodup
section
variable {C:Ctx} {H:PH} {B:List BX} {L:List LI} {K:PV→PH→Prop}
theorem bZ.id {s q:Nat} {v:PV} {rows:List (List PV)} (h:bZ H s v rows) (hq:v.oid=some q):∃ rs,H q=some (.rows s rs)∧v=.osl q s 0 rows.length∧rows.length≤rs.length∧rs.take rows.length=rows:=by
 rcases h with ⟨_,rfl⟩ | ⟨p,rs,rfl,h1,h2,h3⟩
 ·cases hq
 ·cases hq;exact⟨rs,h1,rfl,h2,h3⟩
theorem bZ.same {s:Nat} {v:PV} {rows:List (List PV)} {H':PH} (h:bZ H s v rows) (e:∀ q,v.oid=some q→H' q=H q):bZ H' s v rows:=by
 rcases h with h | ⟨p,rs,rfl,h1,h2,h3⟩
 ·exact .inl h
 ·exact .inr ⟨p,rs,rfl,by rw[e p rfl]; exact h1,h2,h3⟩
theorem lZ {x:LI} {q:Nat} (h:x∈L) (hq:x.1.oid=some q):q∈dD L:=List.mem_filterMap.2 ⟨x,h,hq⟩
theorem uH {b:BX} (h:b∈B):b.1∈eA B:=aAS.2 ⟨b,h,rfl⟩
theorem aL.nil:aL H [] []:=⟨by simp,by simp,by simp[eA,dD]⟩
theorem aL.at (h:aL H B L) (i:Nat) {o:Nat} {x:bG} (hi:B[i]?=some (o,x)):H o=some x:=h.box _ (aBR hi)
theorem aL.own (h:aL H B L) (i:Nat) {s:Nat} {v:PV} {rows:List (List PV)} (hi:L[i]?=some (v,s,rows)):bZ H s v rows:=h.lst _ (aBR hi)
theorem aL.ndB (h:aL H B L):(eA B).Nodup:=(aCR.1 h.nd).1
theorem aL.ndL (h:aL H B L):(dD L).Nodup:=(aCR.1 h.nd).2.1
theorem aL.ndX (h:aL H B L) {o q:Nat} (e:o∈eA B) (hq:q∈dD L):o≠q:=(aCR.1 h.nd).2.2 o e q hq
theorem aL.ne (h:aL H B L) (i j:Nat) {o p:Nat} {x y:bG} (hi:B[i]?=some (o,x)) (M:B[j]?=some (p,y)) (l:i≠j):o≠p:=by
 intro e;have I:(eA B)[i]?=some o:=by unfold eA; rw[aAR,hi]; rfl
 have J:(eA B)[j]?=some p:=by unfold eA; rw[aAR,M]; rfl
 obtain⟨E,u⟩:=aAW.1 I;obtain⟨F,w⟩:=aAW.1 J;have A:=List.pairwise_iff_getElem.1 h.ndB;rcases Nat.lt_or_gt_of_ne l with g | g
 ·exact A i j E F g (by rw[u,w,e])
 ·exact A j i F E g (by rw[u,w,e])
theorem aL.neL (h:aL H B L) (i j:Nat) {o q:Nat} {x:bG} {y:LI} (hi:B[i]?=some (o,x)) (e:L[j]?=some y) (hq:y.1.oid=some q):o≠q :=
 h.ndX (uH (aBR hi)) (lZ (aBR e) hq)
theorem aL.fresh (h:aL H B L) {o:Nat} (j:H o=none):o ∉ eA B∧o ∉ dD L:=by
 refine⟨fun l=>?_,fun l=>?_⟩
 ·obtain⟨b,hb,rfl⟩:=aAS.1 l;rw[h.box b hb] at j; cases j
 ·obtain⟨x,w,e⟩:=List.mem_filterMap.1 l;obtain⟨rs,u,_⟩:=(h.lst x w).id e;rw[u] at j; cases j
theorem aL.keep (h:aL H B L) {H':PH} (e:∀ q,q∈eA B∨q∈dD L→H' q=H q):aL H' B L :=
 ⟨fun b hb=>by rw[e _ (.inl (uH hb))]; exact h.box b hb,fun x j=>(h.lst x j).same fun q hq=>e q (.inr (lZ j hq)),h.nd⟩
theorem adA {i:Nat} {o:Nat} {x y:bG} (hi:B[i]?=some (o,x)):eA (B.set i (o,y))=eA B:=by
 unfold eA;rw[List.map_set];refine List.ext_getElem? fun j=>?_;rw[List.getElem?_set];split
 ·rename_i e;subst e;rw[aAR,hi];have:=(aAW.1 hi).1;simp[this]
 ·rfl
theorem aL.set (h:aL H B L) (i:Nat) {o:Nat} {x:bG} (hi:B[i]?=some (o,x)) (y:bG):aL (H.set o y) (B.set i (o,y)) L:=by
 have w:o∈eA B:=uH (aBR hi);refine⟨fun b hb=>?_,fun z A=>(h.lst z A).same fun q hq=>?_,by rw[adA hi]; exact h.nd⟩
 ·obtain⟨j,l⟩:=List.mem_iff_getElem?.1 hb;rw[List.getElem?_set] at l;split at l
  ·split at l
   ·cases l; simp only[aQ,if_true]
   ·cases l
  ·rename_i u;have:b.1≠o:=fun e=>h.ne i j hi (show B[j]?=some (b.1,b.2) from l) u e.symm;rw[aQ,if_neg this];exact h.box b (aBR l)
 ·have:q≠o:=fun e=>h.ndX w (lZ A hq) e.symm;rw[aQ,if_neg this]
theorem aL.new (h:aL H B L) {o:Nat} (u:H o=none) (y:bG):aL (H.set o y) (B++[(o,y)]) L:=by
 obtain⟨f1,f2⟩:=h.fresh u;refine⟨fun b hb=>?_,fun z l=>(h.lst z l).same fun q hq=>?_,?_⟩
 ·rw[aBB,aBF] at hb;rcases hb with hb | rfl
  ·have:b.1≠o:=fun e=>f1 (e ▸ uH hb);rw[aQ,if_neg this]; exact h.box b hb
  ·simp only[aQ,if_true]
 ·have:q≠o:=fun e=>f2 (e ▸ lZ l hq);rw[aQ,if_neg this]
 ·have:=h.nd;simp only[eA,aBL,aBA,aCH] at *
  rw[aAY,aCR] at *
  obtain⟨a,b,c⟩:=this;refine⟨a,?_,fun p j q hq=>?_⟩
  ·rw[List.singleton_append,List.nodup_cons]; exact⟨f2,b⟩
  ·rw[List.singleton_append,aAD] at hq;rcases hq with rfl | hq
   ·intro e; subst e; exact f1 j
   ·exact c p j q hq
theorem lG (L1 L2:List LI):dD (L1++L2)=dD L1++dD L2:=List.filterMap_append ..
theorem aL.mY (h:aL H B L) (s:Nat):aL H B (L++[(.aA,s,[])]):=by
 refine⟨h.box,fun z e=>?_,?_⟩
 ·rw[aBB,aBF] at e;rcases e with e | rfl
  ·exact h.lst z e
  ·exact .nil
 ·rw[lG,show dD [((.aA:PV),s,([]:List (List PV)))]=[] from rfl,aBN]; exact h.nd
theorem aL.i9 (h:aL H B L) {o s:Nat} {rows:List (List PV)} (l:H o=none):aL (H.set o (.rows s rows)) B (L++[(.osl o s 0 rows.length,s,rows)]):=by
 obtain⟨f1,f2⟩:=h.fresh l;have j:=h.keep (H':=H.set o (.rows s rows)) fun q hq=>by
  have:q≠o:=by rintro rfl; exact hq.elim f1 f2
  rw[aQ,if_neg this]
 refine⟨j.box,fun z e=>?_,?_⟩
 ·rw[aBB,aBF] at e;rcases e with e | rfl
  ·exact j.lst z e
  ·exact .inr ⟨o,rows,rfl,by simp only[aQ,if_true],azY _,aBM⟩
 ·rw[lG,show dD [((.osl o s 0 rows.length:PV),s,rows)]=[o] from rfl,← aAY,aCR];refine⟨h.nd,by simp,fun p hp q hq=>?_⟩;rw[aBF] at hq;subst hq;rintro rfl;rcases aBB.1 hp with hp | hp
  ·exact f1 hp
  ·exact f2 hp
theorem Bp {i:Nat} {v v':PV} {s s':Nat} {rows rows':List (List PV)} (hi:L[i]?=some (v,s,rows)):∃ L1 L2,L=L1++(v,s,rows)::L2∧L.set i (v',s',rows')=L1++(v',s',rows')::L2:=by
 obtain⟨e,he⟩:=aAW.1 hi;refine⟨L.take i,L.drop (i+1),?_,?_⟩
 ·rw[← he,← aCG e,aCS]
 ·rw[List.set_eq_take_append_cons_drop,if_pos e]
theorem aL.dp (h:aL H B L) (i:Nat) {s:Nat} {v:PV} {rows:List (List PV)} (hi:L[i]?=some (v,s,rows)) {s':Nat} {v':PV} {rows':List (List PV)} {H':PH} (R:bZ H' s' v' rows')
  (I:∀ q,v'.oid=some q→v.oid=some q∨H q=none) (O:∀ q,q∈eA B∨q∈dD L→(∀ p,v.oid=some p→q≠p)→H' q=H q):aL H' B (L.set i (v',s',rows')):=by
 obtain⟨L1,L2,M,N⟩:=Bp (v':=v') (s':=s') (rows':=rows') hi;rw[N];subst M;have j:=h.nd;have E:dD (L1++(v,s,rows)::L2)=dD L1++(v.oid.toList++dD L2):=by rw[lG];congr 1;unfold dD;rw[List.filterMap_cons];cases e:v.oid<;>simp
 have F:dD (L1++(v',s',rows')::L2)=dD L1++(v'.oid.toList++dD L2):=by rw[lG];congr 1;unfold dD;rw[List.filterMap_cons];cases e:v'.oid<;>simp
 rw[E] at j;have x:∀ q,q∈eA B∨q∈dD L1∨q∈dD L2→∀ p,v.oid=some p→q≠p:=by
  intro q hq p w e;subst e;rw[w] at j;simp only[Option.toList_some] at j;rw[aCR] at j;obtain⟨a,b,c⟩:=j;rw[aCR] at b;obtain⟨J,y,A⟩:=b;rw[List.singleton_append,List.nodup_cons] at y;rcases hq with hq | hq | hq
  ·exact c q hq q (by simp) rfl
  ·exact A q hq q (by simp) rfl
  ·exact y.1 hq
 have l:∀ q,q∈eA B∨q∈dD L1∨q∈dD L2→H' q=H q:=by
  intro q hq;refine O q ?_ (x q hq);rw[E];simp only[aBB];rcases hq with hq | hq | hq
  ·exact .inl hq
  ·exact .inr (.inl hq)
  ·exact .inr (.inr (.inr hq))
 refine⟨fun b hb=>by rw[l _ (.inl (uH hb))]; exact h.box b hb,fun z hz=>?_,?_⟩
 ·rw[aBB,aAD] at hz;rcases hz with hz | rfl | hz
  ·exact (h.lst z (by simp[hz])).same fun q hq=>l q (.inr (.inl (lZ hz hq)))
  ·exact R
  ·exact (h.lst z (by simp[hz])).same fun q hq=>l q (.inr (.inr (lZ hz hq)))
 ·rw[F];cases e:v'.oid with
  | none =>simp only[Option.toList_none,aDF];refine List.Nodup.sublist ?_ j;exact aCA.append (aCA.refl _) (aCA.append (aCA.refl _) (List.sublist_append_right _ _))
  | some q =>
   rcases I q e with S | hn
   ·rw[S] at j;exact j
   ·obtain⟨f1,f2⟩:=h.fresh hn;rw[E] at f2;simp only[aBB,not_or] at f2;have u:(eA B++(dD L1++dD L2)).Nodup:=List.Nodup.sublist (aCA.append (aCA.refl _) (aCA.append (aCA.refl _) (List.sublist_append_right _ _))) j;simp only[Option.toList_some];rw[aCR] at u ⊢;obtain⟨a,b,c⟩:=u;rw[aCR] at b;obtain⟨J,y,A⟩:=b;refine⟨a,?_,?_⟩
    ·rw[aCR];refine⟨J,by rw[List.singleton_append,List.nodup_cons]; exact⟨f2.2.2,y⟩,fun p w r hr=>?_⟩;rw[List.singleton_append,aAD] at hr;rcases hr with rfl | hr
     ·rintro rfl; exact f2.1 w
     ·exact A p w r hr
    ·intro p w r hr;rw[aBB,List.singleton_append,aAD] at hr;rcases hr with hr | rfl | hr
     ·exact c p w r (by simp[hr])
     ·rintro rfl; exact f1 w
     ·exact c p w r (by simp[hr])
theorem aL.append (h:aL H B L) (i:Nat) {s b:Nat} {v y:PV} {rows src:List (List PV)} (hi:L[i]?=some (v,s,rows)) (E:eO H s y=some src) (A:roomFor rows.length src.length b)
  (w:∀ v' H',aL H' B (L.set i (v',s,rows++src))→(src≠[]→∃ q,v'=.osl q s 0 (rows++src).length)→K v' H'):mZ H s b v y K:=by
 rcases h.own i hi with ⟨rfl,rfl⟩ | ⟨q,rs,rfl,h1,h2,h3⟩
 ·refine⟨src,E,A,fun e=>?_,fun e o u=>?_⟩
  ·subst e;refine w _ _ ?_ fun h=>absurd rfl h;exact h.dp i hi (.inl ⟨rfl,rfl⟩) (fun q hq=>by cases hq) fun q _ _=>rfl
  ·refine w _ _ (h.dp i hi (.inr ⟨o,src,rfl,by simp only[aQ,if_true],azY _,aBM⟩) (fun q hq=>by cases hq; exact .inr u) fun q hq _=>?_) fun _=>⟨o,rfl⟩;obtain⟨f1,f2⟩:=h.fresh u;have:q≠o:=by rintro rfl; exact hq.elim f1 f2
   rw[aQ,if_neg this]
 ·have j:(rows++src).length=rows.length+src.length:=azX;refine⟨src,E,rfl,rfl,A,rs,h1,h2,?_,fun o u=>?_⟩
  ·rw[h3];refine w _ _ (h.dp i hi (.inr ⟨q,rows++src,by rw[j],by simp only[aQ,if_true],azY _,aBM⟩) (fun p l=>by cases l; exact .inl rfl) fun p _ l=>?_) fun _=>⟨q,by rw[j]⟩;rw[aQ,if_neg (l q rfl)]
  ·rw[h3];refine w _ _ (h.dp i hi (.inr ⟨o,rows++src,by rw[j],by simp only[aQ,if_true],azY _,aBM⟩) (fun p l=>by cases l; exact .inr u) fun p x l=>?_) fun _=>⟨o,by rw[j]⟩;obtain⟨f1,f2⟩:=h.fresh u;have F:p≠o:=by rintro rfl; exact x.elim f1 f2
   rw[aQ,if_neg F]
theorem aL.sub (h:aL H B L) {B':List BX} {L':List LI} (hB:B'.Sublist B) (e:L'.Sublist L):aL H B' L' :=
 ⟨fun b hb=>h.box b (hB.subset hb),fun x j=>h.lst x (e.subset j),List.Nodup.sublist (aCA.append (hB.map _) (e.filterMap _)) h.nd⟩
theorem aL.zZ (h:aL H B L) (i:Nat):aL H (B.eraseIdx i) L:=h.sub (List.eraseIdx_sublist ..) (aCA.refl _)
theorem aL.YJ (h:aL H B L) (i:Nat):aL H B (L.eraseIdx i):=h.sub (aCA.refl _) (List.eraseIdx_sublist ..)
end
section
variable {C:Ctx} {F:PF} {H:PH} {B:List BX} {L:List LI}
theorem aL.yP (h:aL H B L) {q:Nat} (hq:q∈eA B∨q∈dD L):∃ x,H q=some x:=by
 rcases hq with hq | hq
 ·obtain⟨b,hb,rfl⟩:=aAS.1 hq;exact⟨_,h.box b hb⟩
 ·obtain⟨x,l,e⟩:=List.mem_filterMap.1 hq;obtain⟨rs,j,_⟩:=(h.lst x l).id e;exact⟨_,j⟩
theorem aL.perm (h:aL H B L) {B':List BX} {L':List LI} (hB:B.Perm B') (e:L.Perm L'):aL H B' L' :=
 ⟨fun b hb=>h.box b (hB.mem_iff.2 hb),fun x j=>h.lst x (e.mem_iff.2 j),(aCM.nodup_iff ((hB.map _).append (e.filterMap _))).1 h.nd⟩
theorem aL.only (h:aL H B L) {B1:List BX} {L1:List LI} (hB:B1.Sublist B) (e:L1.Sublist L):aL (H.only (eA B1++dD L1)) B1 L1:=by
 refine (h.sub hB e).keep fun q hq=>?_;rw[qC];rw[if_pos (aBB.2 hq)]
theorem apN {a b c d:List Nat} (j:(a++c).Nodup) (l:(b++d).Nodup) (u:∀ q,q∈a∨q∈c→q∈b∨q∈d→False):((a++b)++(c++d)).Nodup:=by
 have e:aCM ((a++b)++(c++d)) ((a++c)++(b++d)):=by rw[aAY,aAY];exact aCM.append_left a (by rw[← aAY,← aAY]; exact aCM.append_right d List.perm_append_comm)
 rw[e.nodup_iff,aCR];refine⟨j,l,fun p w q hq=>?_⟩;rintro rfl;exact u p (aBB.1 w) (aBB.1 hq)
theorem aL.frame {H':PH} {B1 B2 B':List BX} {L1 L2 L':List LI} (h:aL H (B1++B2) (L1++L2)) (w:aL H' B' L') (J:kU H (H.only (eA B1++dD L1)) H'):aL (H.over (H.only (eA B1++dD L1)) H') (B'++B2) (L'++L2):=by
 have E:aL H B2 L2:=h.sub (List.sublist_append_right ..) (List.sublist_append_right ..);have l:∀ q,q∈eA B2∨q∈dD L2→¬ (q∈eA B1++dD L1):=by
  intro q hq K;have j:=h.nd;rw[show eA (B1++B2)=eA B1++eA B2 from aBL,lG] at j;have e:aCM ((eA B1++eA B2)++(dD L1++dD L2)) ((eA B1++dD L1)++(eA B2++dD L2)):=by rw[aAY,aAY];exact aCM.append_left _ (by rw[← aAY,← aAY]; exact aCM.append_right _ List.perm_append_comm)
  rw[e.nodup_iff,aCR] at j;exact j.2.2 q K q (aBB.2 hq) rfl
 have new:∀ q,q∈eA B'∨q∈dD L'→(H.over (H.only (eA B1++dD L1)) H') q=H' q:=by intro q hq;obtain⟨x,hx⟩:=w.yP hq;rw[oP,hx]
 have I:∀ q,q∈eA B2∨q∈dD L2→(H.over (H.only (eA B1++dD L1)) H') q=H q:=by
  intro q hq;obtain⟨x,hx⟩:=E.yP hq;have A:(H.only (eA B1++dD L1)) q=none:=by rw[qC,if_neg (l q hq)]
  rw[oP];cases e:H' q with
  | none=>simp only[A]
  | some y =>have:=J q y e A;rw[hx] at this; cases this
 have k1:=w.keep new;have k2:=E.keep I;refine⟨fun b hb=>?_,fun x hx=>?_,?_⟩
 ·rcases aBB.1 hb with hb | hb
  ·exact k1.box b hb
  ·exact k2.box b hb
 ·rcases aBB.1 hx with hx | hx
  ·exact k1.lst x hx
  ·exact k2.lst x hx
 ·rw[show eA (B'++B2)=eA B'++eA B2 from aBL,lG];refine apN w.nd E.nd fun q hq u=>?_;obtain⟨x,hx⟩:=w.yP hq;obtain⟨y,M⟩:=E.yP u;have A:(H.only (eA B1++dD L1)) q=none:=by rw[qC,if_neg (l q u)]
  have:=J q x hx A;rw[M] at this; cases this
theorem DH {name:Nat} {vs:List PV} {args:List aN} {d:Option Nat} {K:PF→PH→Prop} {B1 B2:List BX} {L1 L2:List LI} {Q:PV→List BX→List LI→Prop} (h:aL H (B1++B2) (L1++L2))
  (w:∀ j,aL j B1 L1→aG C name vs j (fun r H'=>∃ B' L',Q r B' L'∧aL H' B' L')) (u:aN.evs F args=some vs)
  (x:∀ r B' L' H',Q r B' L'→aL H' (B'++B2) (L'++L2)→K (F.put d r) H'):gD C name args [] d K F H:=by
 refine eD (w (H.only (eA B1++dD L1)) (h.only (aDP ..) (aDP ..))) u (QA H _) ?_;rintro r H' ⟨B',L',hq,l⟩ e;exact x r B' L' _ hq (h.frame l e)
theorem aL.mM {B:List BX} {o:Nat} {x:bG} (h:aL H (B++[(o,x)]) L):H o=some x:=h.box (o,x) (by simp)
theorem aL.rZ {B:List BX} {o:Nat} {x:bG} (h:aL H (B++[(o,x)]) L) (y:bG):aL (H.set o y) (B++[(o,y)]) L:=by
 have:=h.set B.length (o:=o) (x:=x) (by simp) y
 rwa [aDJ _ _ (azY _),Nat.sub_self] at this
theorem aL.dropLast {B:List BX} {b:BX} (h:aL H (B++[b]) L):aL H B L:=h.sub (aDP ..) (aCA.refl _)
theorem aL.anD {B:List BX} {o:Nat} {x:bG} (h:aL H ((o,x)::B) L) (y:bG):aL (H.set o y) ((o,y)::B) L:=h.set 0 rfl y
theorem aL.aoV {B:List BX} {o:Nat} {x:bG} (h:aL H ((o,x)::B) L):H o=some x:=h.at 0 rfl
theorem lJ {name o:Nat} {x y:bG} {r:PV} {vs:List PV} {args:List aN} {d:Option Nat} {K:PF→PH→Prop} (h:aG C name vs (PH.nil.set o x) (fun e H'=>e=r∧H'=PH.nil.set o y)) (u:H o=some x) (j:aN.evs F args=some vs)
  (l:K (F.put d r) (H.set o y)):gD C name args [] d K F H:=by
 refine eD h j (e_ a_ u) ?_;rintro e H' ⟨rfl,rfl⟩ -;rw[PH.pM];exact l
theorem abH {Hs:PH} {S:Spec} {name o:Nat} {x y:bG} {r:PV} {vs:List PV} {R:PH→PV→PH→Prop} {args:List aN} {st:Bool} {d:Option Nat} {K:PF→PH→Prop} (N:S name vs=some ([o],R)) (M:H o=some x)
  (h:aG C name vs (PH.nil.set o x) (fun j H'=>j=r∧H'=PH.nil.set o y)) (l:R (PH.nil.set o x) r (PH.nil.set o y)) (A:∀ j H',R (PH.nil.set o x) j H'→j=r∧H'=PH.nil.set o y) (O:aN.evs F args=some vs)
  (E:Hs.le (H.set o y)) (U:K (F.put d r) (H.set o y)):dOp C Hs S st (.call name args) d K F H:=by
 have e:=Ft M;refine⟨vs,[o],_,O,N,fun q hq=>?_,?_,fun G=>⟨r,_,by rw[e]; exact l,fun q z J w=>?_⟩,fun j H' u _=>?_⟩
 ·simp at hq; subst hq; exact⟨x,M⟩
 ·rw[e];exact h.post fun j H' u=>⟨j,.refl _,by rw[u.1,u.2]; exact l⟩
 ·rw[e] at w;rw[aQ] at J w;split at w
  ·cases w
  ·rename_i I;rw[if_neg I] at J; cases J
 ·rw[e] at u;obtain⟨rfl,rfl⟩:=A j H' u;rw[e,PH.pM];exact⟨E,U⟩
theorem agH {s:Nat} {q z:Nat} {rs:List (List PV)} {v:PV} {rows:List (List PV)} (h:bZ H s v rows) (l:v.oid≠some q):bZ (H.frz q z rs) s v (rows.map fun r=>r.map (PV.cA q z rs)):=by
 rcases h with ⟨rfl,rfl⟩ | ⟨p,rs',rfl,h1,h2,h3⟩
 ·exact .inl ⟨rfl,rfl⟩
 ·have j:¬ p=q:=fun e=>l (by rw[e]; rfl);refine .inr ⟨p,rs'.map fun r=>r.map (PV.cA q z rs),by rw[azT],?_,by simpa using h2,?_⟩
  ·rw[yJ,if_neg j,h1]; rfl
  ·rw[azT,← List.map_take,h3]
theorem aL.frz (h:aL H B L) (i:Nat) {q s k:Nat} {rows:List (List PV)} (hi:L[i]?=some (.osl q s 0 k,s,rows)):∃ rs,H q=some (.rows s rs)∧PV.cA q s rs (.osl q s 0 k)=.sl s rows∧PV.frz q s rs (.osl q s 0 k)=.sl s rows∧(∀ j x,j≠i→L[j]?=some x→PV.cA q s rs x.1=x.1) ∧
  aL (H.frz q s rs) (B.map fun b=>(b.1,b.2.frz q s rs)) ((L.eraseIdx i).map fun x=>(x.1,x.2.1,x.2.2.map fun r=>r.map (PV.cA q s rs))):=by
 obtain⟨rs,U,V,W,X⟩:=(h.own i hi).id rfl;injection V with _ _ _ hk
 subst hk;have e:PV.frz q s rs (.osl q s 0 rows.length)=.sl s rows:=by rw[yF W,X]
 refine⟨rs,U,e,e,?_⟩;refine⟨fun j x J R=>?_,?_⟩
 ·have u:x.1.oid≠some q:=by
   intro u;obtain⟨K,he⟩:=aAW.1 hi;obtain⟨α,Y⟩:=aAW.1 R;have w:x∈L.eraseIdx i:=List.mem_eraseIdx_iff_getElem?.2 ⟨j,J,R⟩;have l:=h.ndL;have N:L=L.take i++(L[i]::L.drop (i+1)):=by rw[← aCG K,aCS]
   rw[List.eraseIdx_eq_take_drop_succ] at w;rw[N,lG] at l;have I:dD (L[i]::L.drop (i+1))=q::dD (L.drop (i+1)):=by rw[he]; rfl
   rw[I,aCR] at l;obtain⟨a,b,c⟩:=l;rcases aBB.1 w with hx | hx
   ·exact c q (lZ hx u) q (by simp) rfl
   ·exact (List.nodup_cons.1 b).1 (lZ hx u)
  cases hx:x.1<;>try rfl
  rename_i p z β len;have:¬ p=q:=fun e=>u (by rw[hx,e]; rfl);simp only[PV.cA,if_neg this]
 obtain⟨L1,L2,e1,e2⟩:=Bp (v':=.aA) (s':=s) (rows':=rows) hi;have Z:i=L1.length∨True:=.inr trivial;have y:(L.eraseIdx i).Sublist L:=List.eraseIdx_sublist ..;have M:∀ x∈L.eraseIdx i,x.1.oid≠some q:=by
  intro x hx u;obtain⟨K,he⟩:=aAW.1 hi;have l:=h.ndL;have N:L=L.take i++(L[i]::L.drop (i+1)):=by rw[← aCG K,aCS]
  rw[List.eraseIdx_eq_take_drop_succ] at hx;rw[N,lG] at l;have I:dD (L[i]::L.drop (i+1))=q::dD (L.drop (i+1)):=by rw[he]; rfl
  rw[I,aCR] at l;obtain⟨a,b,c⟩:=l;rcases aBB.1 hx with hx | hx
  ·exact c q (lZ hx u) q (by simp) rfl
  ·exact (List.nodup_cons.1 b).1 (lZ hx u)
 refine⟨fun b hb=>?_,fun x hx=>?_,?_⟩
 ·obtain⟨O,A,rfl⟩:=aAS.1 hb;have:¬ O.1=q:=h.ndX (uH A) (lZ (aBR hi) rfl);simp only;rw[yJ,if_neg this,h.box O A]; rfl
 ·obtain⟨S,E,rfl⟩:=aAS.1 hx;exact agH (h.lst S (y.subset E)) (M S E)
 ·have i1:eA (B.map fun b=>(b.1,b.2.frz q s rs))=eA B:=by unfold eA; rw[aCY]; rfl
  have i2:dD ((L.eraseIdx i).map fun x=>(x.1,x.2.1,x.2.2.map fun r=>r.map (PV.cA q s rs)))=dD (L.eraseIdx i):=by unfold dD; rw[List.filterMap_map]; rfl
  rw[i1,i2];exact List.Nodup.sublist (aCA.append (aCA.refl _) (y.filterMap _)) h.nd
def Flat (rows:List (List PV)):Prop:=∀ q s rs,rows.map (fun r=>r.map (PV.cA q s rs))=rows
theorem Flat.nil:Flat []:=fun _ _ _=>rfl
theorem Flat.of {rows:List (List PV)} (h:∀ r∈rows,∀ c∈r,∀ q s rs,PV.cA q s rs c=c):Flat rows:=fun q s rs=>by
 conv=>rhs; rw[← List.map_id rows]
 refine aBY fun r j=>?_
 conv=>rhs; rw[id,← List.map_id r]
 exact aBY fun c e=>h r j c e q s rs
theorem Flat.map {α:Type} {f:α→List PV} (l:List α) (h:∀ x,∀ c∈f x,∀ q s rs,PV.cA q s rs c=c):Flat (l.map f):=Flat.of fun r e=>by
 obtain⟨x,_,rfl⟩:=aAS.1 e;exact h x
theorem Flat.append {r1 r2:List (List PV)} (e:Flat r1) (j:Flat r2):Flat (r1++r2):=fun q s rs=>by rw[aBL,e,j]
theorem aL.flat {φ:PV→List (List PV)} (h:aL H B L):aL H B L:=h
def nU (v:PV) (H:PH) (R:PV→PH→Prop):Prop:=∃ e j H2,iR (PF.nil.set 0 v) H e j∧H2.le j∧∃ u,e 0=some u∧R u H2
theorem nU.done {v:PV} {H2:PH} {R:PV→PH→Prop} (j:R v H2) (e:H2.le H):nU v H R:=⟨_,_,H2,.refl _ _,e,v,by rw[mE,if_pos rfl],j⟩
theorem nU.step {v:PV} {q s:Nat} {rs:List (List PV)} {R:PV→PH→Prop} (hq:H q=some (.rows s rs)) (h:nU (PV.frz q s rs v) (H.frz q s rs) R):nU v H R:=by
 obtain⟨j,l,H2,u,w,x⟩:=h;have e:(PF.nil.set 0 v).frz q s rs=PF.nil.set 0 (PV.frz q s rs v):=by funext i;rw[nJ,mE,mE];split<;>rfl
 exact⟨j,l,H2,.step q hq (by rw[e]; exact u),w,x⟩
theorem oR {res:List dW} {R:PV→PH→Prop} {vs:List PV} {e:jZ} (he:e=.normal∨e=.ret) (h:dW.evs F H res=some vs) (x:nU (cY vs) H R):aS res R e F H:=by
 have j:∃ vs,dW.evs F H res=some vs∧∃ l w H2,iR (PF.nil.set 0 (cY vs)) H l w∧H2.le w∧∃ u,l 0=some u∧R u H2:=⟨vs,h,x⟩;rcases he with rfl | rfl<;>exact j
theorem FJ {u:PV} (h:u.oid=none) (q s:Nat) (rs:List (List PV)):PV.cA q s rs u=u:=by
 cases u<;>first | rfl | (simp[PV.oid] at h)
theorem Seen.co {s:Nat} {v:PV} {rows:List (List PV)} (h:Seen s v rows):Co v (.sl s rows):=by
 rcases h with ⟨rfl,rfl⟩ | rfl
 ·exact .nil s
 ·exact .refl _
theorem aL.giveUp:∀ (L:List LI) {H:PH} {B:List BX},aL H B L→(∀ x∈L,Flat x.2.2)→(∀ b∈B,∀ q s rs,bG.frz q s rs b.2=b.2) →
  ∃ (φ:PV→PV) (y:PH),(∀ x∈L,Seen x.2.1 (φ x.1) x.2.2)∧(∀ u,u.oid=none→φ u=u)∧aL y B []∧∀ cs R,nU (.agg (cs.map φ)) y R→nU (.agg cs) H R
 | [],H,B,h,_,_=>⟨id,H,by simp,fun _ _=>rfl,h,fun cs R I=>by rwa [List.map_id] at I⟩
 | (w,s,rows)::L,H,B,h,E,hB=>by
  have l:∀ q z rs,(L.map fun x=>(x.1,x.2.1,x.2.2.map fun r=>r.map (PV.cA q z rs)))=L:=fun q z rs=>by
   conv=>rhs; rw[← List.map_id L]
   refine aBY fun x hx=>?_;rw[E x (by simp[hx]) q z rs]; rfl
  rcases h.own 0 rfl with ⟨A,S⟩ | ⟨q,rs,A,_⟩
  ·obtain⟨φ,y,k1,k2,J,K⟩:=aL.giveUp L (h.YJ 0) (fun x hx=>E x (by simp[hx])) hB;refine⟨φ,y,fun x hx=>?_,k2,J,K⟩;rw[aAD] at hx;rcases hx with rfl | hx
   ·exact .inl ⟨A,by simp only; rw[S]; exact k2 _ rfl⟩
   ·exact k1 x hx
  ·subst A;obtain⟨rs,V,W,Z,X,N⟩:=h.frz 0 rfl;have Y:aL (H.frz q s rs) B L:=by
    have O:(B.map fun b=>(b.1,b.2.frz q s rs))=B:=by
     conv=>rhs; rw[← List.map_id B]
     refine aBY fun b hb=>?_;rw[hB b hb q s rs]; rfl
    rw[O] at N;have:=N;simp only[List.eraseIdx_cons_zero] at this
    rwa [l q s rs] at this
   obtain⟨φ,y,k1,k2,J,K⟩:=aL.giveUp L Y (fun x hx=>E x (by simp[hx])) hB;refine⟨fun u=>φ (PV.cA q s rs u),y,fun x hx=>?_,fun u M=>?_,J,fun cs R I=>?_⟩
   ·rw[aAD] at hx;rcases hx with rfl | hx
    ·simp only;rw[W];exact .inr (k2 _ rfl)
    ·obtain⟨j,U⟩:=List.mem_iff_getElem?.1 hx;have:=X (j+1) x Om (by simpa using U);simp only;rw[this];exact k1 x hx
   ·simp only;rw[FJ M,k2 u M]
   ·refine .step V ?_;have e:PV.frz q s rs (.agg cs)=.agg (cs.map (PV.cA q s rs)):=rfl;rw[e];refine K _ R ?_;rw[aCY];exact I
theorem LQ {K:cN} {α:Type} {e:α→PF} {Hs:α→PH} {j:α→Prop} {m:α→Nat} {n q s:Nat} {rs:List (List PV)} (a:α) (hq:H q=some (.rows s rs)) (l:j a) (x:m a<n) (u:(e a).le (F.frz q s rs)) (w:(Hs a).le (H.frz q s rs)):jT e Hs j m n K .normal F H :=
 ⟨a,_,_,.step q hq (.refl _ _),l,x,u,w⟩
end
structure zX (C:Ctx):Prop extends XW C where
 int:∀ n:Int,dS n→aG C 47 [.int .i64 n] .nil (aM (.agg (mkT n 1).cells))
 itoa:∀ n:Nat,n<100→aG C 195 [.int .i64 n] .nil (aM (.str (bW n)))
 next:∀ (l:List Nat) (v:PV),Tp l v→∀ (o n a:Nat),n≤1000000→a≤l.length→aG C 4 [.ptr o 2 0 0,.int .i64 n] (PH.nil.set o (aX v a)) (OV l v o n a)
section
variable {C:Ctx} {F:PF} {H:PH} {l:List Nat} {v:PV} {o a:Nat}
theorem dA (j:zX C) (T:Tp l v) {n:Nat} {args:List aN} {d:Option Nat} {K:PF→PH→Prop} (x:n≤1000000) (u:a≤l.length) (e:aN.evs F args=some [.ptr o 2 0 0,.int .i64 n]) (y:H o=some (aX v a))
  (w:K (F.put d (.int .i64 ((aD l n a).1:Nat))) (H.set o (aX v (aD l n a).2))):gD C 4 args [] d K F H :=
 lJ (j.next l v T o n a x u) y e w
end
def ahR (l:List Nat) (v:PV) (o a:Nat) (r:PV) (H:PH):Prop:=r=.agg (fP l a).1.cells∧H=PH.nil.set o (aX v (fP l a).2)
theorem uB (l:List Nat) {a:Nat} (h:a≤l.length):(fP l a).2≤l.length:=bE l 8 (bE l 6 h)
theorem adZ {C:Ctx} (j:zX C) {l:List Nat} {v:PV} (T:Tp l v) (o a:Nat) (x:a≤l.length):HD.wp C (aS T1.res (ahR l v o a)) (PF.args [.ptr o 2 0 0]) (PH.nil.set o (aX v a)):=by
 simp only[go_sem,HD,C1,T1];refine aP fun p K=>?_;have y:¬ p=o:=(jA.1 K).1;have e:¬ o=p:=fun h=>y h.symm;have M:=cD l (show 0<6 by decide) a;have a1:=bE l 6 x;simp only[go_sem,C2];refine dA j T (o:=o) (n:=6) (a:=a) (by decide) x rfl (by simp only[go_sem,e]) ?_;have E:IntKind.i64.wrap (1+((aD l 6 a).1:Int))=((1+(aD l 6 a).1:Nat):Int):=by rw[wrap_i64 Om Om]; omega
 simp only[go_sem,E];have N:=cD l (show 0<8 by decide) (aD l 6 a).2;refine dA j T (o:=o) (n:=8) (a:=(aD l 6 a).2) (by decide) a1 rfl Sq ?_;have I:IntKind.i64.wrap (1+((aD l 8 (aD l 6 a).2).1:Int))=((1+(aD l 8 (aD l 6 a).2).1:Nat):Int):=by rw[wrap_i64 Om Om]; omega
 simp only[go_sem,I];refine aB (j.fmk ((1+(aD l 6 a).1:Nat):Int) ((1+(aD l 8 (aD l 6 a).2).1:Nat):Int) (by unfold dS; omega) (by unfold dS; omega)) rfl ?_;have J:¬ ((1+(aD l 8 (aD l 6 a).2).1:Nat):Int)=0:=Om;unfold wC;rw[if_neg J];simp only[go_sem];refine aP fun q hq=>?_;have A:¬ q=o:=(jA.1 hq).1;have B:¬ q=p:=(jA.1 (jA.1 hq).2).1;have w:¬ p=q:=fun h=>B h.symm;have u:¬ o=q:=fun h=>A h.symm;simp only[go_sem,C3,y,e,A,B,w];refine aU (vs:=[.agg (fP l a).1.cells]) (.inr rfl) (PH.nil.set o (aX v (fP l a).2)) ?_ (e_ a_ ?_) ⟨rfl,rfl⟩
 ·simp only[go_sem];rfl
 ·simp only[go_sem,e,u];rfl
structure vb (C:Ctx):Prop extends zX C where
 frac:∀ (l:List Nat) (v:PV),Tp l v→∀ (o a:Nat),a≤l.length→aG C 1 [.ptr o 2 0 0] (PH.nil.set o (aX v a)) (ahR l v o a)
abbrev gR (l:List RF):List (List PV):=l.map RF.cells
theorem wW (l:List RF) (x:RF):gR l++[x.cells]=gR (l++[x]):=by simp[gR]
theorem FI (l:List RF):Flat (gR l):=Flat.map l fun x c e q s rs=>by
 simp only[RF.cells,gQ,aAD,aAP,or_false] at e;rcases e with rfl | rfl | rfl<;>rfl
theorem mO (l:List RF):(gR l).length=l.length:=by simp[gR]
theorem Tp.frz {l:List Nat} {v:PV} (T:Tp l v) (q s:Nat) (rs:List (List PV)):PV.cA q s rs v=v:=by
 rcases T.seen with ⟨_,rfl⟩ | rfl<;>rfl
theorem EC (l:List Nat) {a:Nat} (h:a≤l.length):∀ k,(kD l a k).2≤l.length
 | 0=>h
 | k+1=>uB l (EC l h k)
theorem Gh (l:List Nat) (a:Nat):∀ k,(kD l a k).1.length=k
 | 0=>rfl
 | k+1=>by simp only[kD,azX,aAC,Gh l a k]
def aoN (l:List Nat) (v:PV) (o a k:Nat) (r:PV) (H:PH):Prop:=r=frs (kD l a k).1∧H=PH.nil.set o (aX v (kD l a k).2)
def T6 (o:Nat) (m:Nat) (w:PV) (i:Nat):PF:=((((PF.nil.set 0 (.ptr o 2 0 0)).set 1 (.int .i64 m)).set 5 (w)).set 6 (.int .i64 i))
theorem alS {C:Ctx} (K:vb C) {l:List Nat} {v:PV} (T:Tp l v) (o a m:Nat) (V:m≤1000) (O:a≤l.length):MC.wp C (aS aeN.res (aoN l v o a (max m 1))) (PF.args [.ptr o 2 0 0,.int .i64 m]) (PH.nil.set o (aX v a)):=by
 have x:∀ i:Nat,((i:Int)<(if (m:Int)<1 then 1 else (m:Int)))↔i<max m 1:=by intro i;split<;>omega
 simp only[go_sem,MC,Ov,Ow,Ox,aeN];have M:aL (PH.nil.set o (aX v a)) [(o,aX v a)] [(.aA,3,gR [])]:=(aL.nil.new (H:=PH.nil) rfl (aX v a)).mY 3;refine wp_loop (α:=Nat × PV × PH) (fun t=>T6 o m t.2.1 t.1) (fun t=>t.2.2) (fun t=>t.1≤max m 1∧aL t.2.2 [(o,aX v (kD l a t.1).2)] [(t.2.1,3,gR (kD l a t.1).1)]) (fun t=>max m 1-t.1) (0,.aA,PH.nil.set o (aX v a)) ⟨aAH _,M⟩ ?_ b_ ?_
 ·unfold T6;exact Lq
 rintro⟨k,w,U⟩ ⟨R,u⟩;simp only at R u ⊢;simp only[go_sem,Ou,Oy,T6];have E:=EC l O k;have j:=Gh l a k;by_cases hlt:k<max m 1
 ·have B:=(x k).2 hlt;simp only[go_sem,B,Oz];refine lJ (K.frac l v T o _ E) (u.at 0 rfl) rfl ?_;have A:=u.set 0 rfl (aX v (fP l (kD l a k).2).2);have y:(1:Nat)*3≤16777216:=by decide
  simp only[go_sem,y];refine A.append 0 (src:=[(fP l (kD l a k).2).1.cells]) rfl rfl (by unfold roomFor; rw[mO,j]; simp only[aAC,maxLen]; omega) fun S H' J _=>?_;rw[wW] at J;simp only[go_sem,O0,wZz k];refine aJ (k+1,S,H') ⟨hlt,J⟩ (by simp only; omega) ?_ b_;exact Lq
 ·have B:¬ ((k:Int)<(if (m:Int)<1 then 1 else (m:Int))):=fun h=>hlt ((x k).1 h);have e:k=max m 1:=Om;subst e;simp only[go_sem,B,O1];have I:gR (kD l a (max m 1)).1≠[]:=fun h=>by have:=congrArg List.length h;rw[mO,j] at this;simp at this
  rcases u.own 0 rfl with ⟨N,_⟩ | ⟨q,rs,rfl,_⟩
  ·exact absurd N I
  obtain⟨rs,g1,g2,g3,-,g4⟩:=u.frz 0 rfl;refine oR (vs:=[.osl q 3 0 (gR (kD l a (max m 1)).1).length]) (.inr rfl) rfl (.step g1 (.done (H2:=PH.nil.set o (aX v (kD l a (max m 1)).2)) ?_ (e_ a_ ?_)))
  ·rw[cY,g3];exact⟨rfl,rfl⟩
  ·have:=g4.at 0 rfl;rw[this];simp only[bG.frz,aBA,aCH,T.frz];rfl
theorem aeH {C:Ctx} (j:zX C) (s:List UInt8) (n:Nat) (x:s.length≤100) (u:n<100):HH.wp C (aS T4.res (aM (.str (s++bW n)))) (PF.args [.str s,.int .i64 n]) .nil:=by
 have w:(bW n).length≤2:=by
  unfold bW;rw[Lib.decDigits];split
  ·simp
  ·rw[Lib.decDigits,dif_pos Om]; simp
 have e:¬ (((s.length+(bW n).length:Nat):Int)>9223372036854775807):=Om;simp only[go_sem,HH,Dn,Do,T4];refine aB (j.itoa n u) rfl ?_;simp only[go_sem,Sb,e];refine bS (.inr rfl) rfl ?_;rfl
structure sM (C:Ctx):Prop extends vb C where
 rep:∀ (l:List Nat) (v:PV),Tp l v→∀ (o a m:Nat),m≤1000→a≤l.length→aG C 5 [.ptr o 2 0 0,.int .i64 m] (PH.nil.set o (aX v a)) (aoN l v o a (max m 1))
 name:∀ (s:List UInt8) (n:Nat),s.length≤100→n<100→aG C 29 [.str s,.int .i64 n] .nil (aM (.str (s++bW n)))
theorem aaY (l:List Nat) (i j:Nat) {a:Nat} (h:a≤l.length):(jE l i j a).2≤l.length:=by
 unfold jE;split
 ·exact uB l h
 ·split
  ·exact h
  ·simp only;split
   ·exact uB l (bE l 3 h)
   ·exact bE l 3 h
theorem jp (l:List Nat) (i:Nat) {a:Nat} (h:a≤l.length):∀ j,(dV l i a j).2≤l.length
 | 0=>h
 | j+1=>aaY l i j (jp l i h j)
theorem WY (l:List Nat) (i a:Nat):∀ j,(dV l i a j).1.length=j
 | 0=>rfl
 | j+1=>by simp only[dV,azX,aAC,WY l i a j]
theorem US (l:List Nat) (n i:Nat) (s:BC) (h:s.a≤l.length):(dU l n i s).2≤l.length∧(dU l n i s).1≤s.left:=by
 unfold dU;split
 ·exact⟨bE l _ h,by have:=cD l (Om:0<s.left+1) s.a; omega⟩
 ·exact⟨h,azY _⟩
theorem wm (l:List Nat) (n i:Nat) {a:Nat} (h:a≤l.length):(fD l n i a).2≤l.length:=by
 unfold fD;simp only;split
 ·exact bE l 3 (uB l h)
 ·exact uB l h
theorem ii (l:List Nat) (n:Nat) {a:Nat} (h:a≤l.length):∀ i,(gA l n a i).a≤l.length∧(gA l n a i).left≤8∧(gA l n a i).start.length=i∧(gA l n a i).exit.length=i∧(gA l n a i).ayK.length=i
 | 0=>⟨h,azY _,rfl,rfl,rfl⟩
 | i+1=>by
  obtain⟨e,x,j,u,h5⟩:=ii l n h i;have w:=US l n i (gA l n a i) e;refine⟨?_,?_,?_,?_,?_⟩
  ·exact jp l i (wm l n i w.1) n
  ·simp only[gA]; omega
  ·simp only[gA,azX,aAC,j]
  ·simp only[gA,azX,aAC,u]
  ·simp only[gA,azX,aAC,h5]
abbrev uN (l:List (List RF)):List (List PV):=l.map fun r=>[frs r]
theorem qq (l:List (List RF)):Flat (uN l):=Flat.map l fun x c e q s rs=>by
 simp only[aAD,aAP,or_false] at e;subst e; rfl
abbrev UR (e j l:PV):bG:=.rows 4 [[.str [],e,j,l]]
abbrev Bu:bG:=.rows 4 [[.str [],.aA,.aA,.aA]]
def fQ (o o4 o6 n left i:Nat) (w:PV) (j:Nat):PF:=((((((((PF.nil.set 0 (.ptr o 2 0 0)).set 4 (.ptr o4 4 0 0)).set 5 (.int .i64 n)).set 6 (.ptr o6 4 0 0)).set 7 (.int .i64 left)).set 8 (.int .i64 i)).set 13 (w)).set 14 (.int .i64 j))
def cU (o o4 o6 n left i:Nat):PF:=((((((PF.nil.set 0 (.ptr o 2 0 0)).set 4 (.ptr o4 4 0 0)).set 5 (.int .i64 n)).set 6 (.ptr o6 4 0 0)).set 7 (.int .i64 left)).set 8 (.int .i64 i))
theorem VE {l:List RF} (h:l.length≤1000):roomFor (gR l).length 1 56:=by
 unfold roomFor;rw[mO];simp only[maxLen]; omega
theorem aeG {C:Ctx} (W:sM C) {l:List Nat} {v:PV} (T:Tp l v) (o o4 o6 n left i a:Nat) (ha:a≤l.length) (hn:n≤100) (hi:i<n) (B:List BX) (L:List LI) (K:cN) (F:PF) (H:PH)
  (hF:(fQ o o4 o6 n left i .aA 0).le F) (O:aL H ((o,aX v a)::B) L)
  (hK:∀ w y H',(fQ o o4 o6 n left i w n).le y→aL H' ((o,aX v (dV l i a n).2)::B) (L++[(w,3,gR (dV l i a n).1)])→K (.exit 2) y H') :
  aE.wp C (.loop HF) K F H:=by
 refine wp_loop (α:=Nat × PV × PH) (fun t=>fQ o o4 o6 n left i t.2.1 t.1) (fun t=>t.2.2) (fun t=>t.1≤n∧aL t.2.2 ((o,aX v (dV l i a t.1).2)::B) (L++[(t.2.1,3,gR (dV l i a t.1).1)])) (fun t=>n-t.1) (0,.aA,H) ⟨aAH _,O.mY 3⟩ hF b_ ?_;rintro⟨j,w,H0⟩ ⟨hj,O⟩;simp only at hj O ⊢;have N:=jp l i ha j;have ε:=WY l i a j;have e1:IntKind.i64.wrap ((i:Int)+1)=((i+1:Nat):Int):=dP Om;simp only[go_sem,HF,Di,fQ];by_cases hlt:j<n
 ·have I:(j:Int)<(n:Nat):=Om;simp only[go_sem,I,Dj];refine aB (W.int 0 (by unfold dS; omega)) rfl ?_;simp only[go_sem];refine aP fun p hp=>?_;have A:=O.new hp (.rows 3 [jX.cells]);simp only[go_sem,Dk,e1];have fin:∀ (y:PF) (H':PH),(fQ o o4 o6 n left i w j).le y→y 15=some (.ptr p 3 0 0)→aL H' ((o,aX v (jE l i j (dV l i a j).2).2)::B++[(p,.rows 3 [(jE l i j (dV l i a j).2).1.cells])]) (L++[(w,3,gR (dV l i a j).1)]) →
    aE.wp C (.region VO) (fZ 3 (mD C (aE.wp C (.region VP)) (jT (fun (t:Nat × PV × PH)=>fQ o o4 o6 n left i t.2.1 t.1) (fun t=>t.2.2) (fun t=>t.1≤n∧aL t.2.2 ((o,aX v (dV l i a t.1).2)::B) (L++[(t.2.1,3,gR (dV l i a t.1).1)])) (fun t=>n-t.1) (n-j) K))) y H':=by
   intro y H' e J R;have f0:y 0=some (.ptr o 2 0 0):=e 0 _ (by unfold fQ; simp only[go_sem]);have f4:y 4=some (.ptr o4 4 0 0):=e 4 _ (by unfold fQ; simp only[go_sem]);have f5:y 5=some (.int .i64 n):=e 5 _ (by unfold fQ; simp only[go_sem]);have f6:y 6=some (.ptr o6 4 0 0):=e 6 _ (by unfold fQ; simp only[go_sem]);have f7:y 7=some (.int .i64 left):=e 7 _ (by unfold fQ; simp only[go_sem]);have f8:y 8=some (.int .i64 i):=e 8 _ (by unfold fQ; simp only[go_sem]);have f13:y 13=some w:=e 13 _ (by unfold fQ; simp only[go_sem]);have f14:y 14=some (.int .i64 j):=e 14 _ (by unfold fQ; simp only[go_sem]);have γ:H' p=some (.rows 3 [(jE l i j (dV l i a j).2).1.cells]):=R.box (p,.rows 3 [(jE l i j (dV l i a j).2).1.cells]) (by simp);have Y:(1:Nat)*3≤16777216:=by decide
   simp only[go_sem,VO,f13,J,γ,Y];refine R.append (v:=w) (s:=3) (rows:=gR (dV l i a j).1) L.length (src:=[(jE l i j (dV l i a j).2).1.cells]) (by simp) rfl (VE Om) fun w' H2 h2 _=>?_;rw[wW,aDJ _ _ (azY _),Nat.sub_self] at h2;simp only[go_sem,VP,f14,wZz j];refine aJ (α:=Nat × PV × PH) (j+1,w',H2) ⟨hlt,h2.sub (aDP ..) (aCA.refl _)⟩ (by simp only; omega) ?_ b_;unfold fQ;exact Lq
  simp only[aE.wp,go_sem] at fin;have V:∀ x:RF,PH.set (PH.set H0 p (.rows 3 [jX.cells])) p (.rows 3 [x.cells])=PH.set H0 p (.rows 3 [x.cells]):=fun x=>PH.set_set p _ _;have draw:∀ (y:PF) (S:PH) (a1:Nat),a1≤l.length→(fQ o o4 o6 n left i w j).le y→y 15=some (.ptr p 3 0 0)→aL S ((o,aX v a1)::B++[(p,.rows 3 [jX.cells])]) (L++[(w,3,gR (dV l i a j).1)])→jE l i j (dV l i a j).2=fP l a1→∀ K',(∀ M H2,(fQ o o4 o6 n left i w j).le M→M 15=some (.ptr p 3 0 0)→aL H2 ((o,aX v (jE l i j (dV l i a j).2).2)::B++[(p,.rows 3 [(jE l i j (dV l i a j).2).1.cells])]) (L++[(w,3,gR (dV l i a j).1)])→K' M H2) →
    wpOps C VN K' y S:=by
   intro y S a1 β e J A he K' Z;have f0:y 0=some (.ptr o 2 0 0):=e 0 _ (by unfold fQ; simp only[go_sem]);simp only[go_sem,VN,f0];refine lJ (W.frac l v T o a1 β) (A.at 0 rfl) rfl ?_;have E:aL (S.set o (aX v (fP l a1).2)) ((o,aX v (fP l a1).2)::B++[(p,.rows 3 [jX.cells])]) (L++[(w,3,gR (dV l i a j).1)]):=A.set 0 rfl _;have δ:=E.mM;simp only[go_sem,J,δ];refine Z _ _ ?_ (by simp only[go_sem,J]) ?_
   ·have g:=fun (q:Nat) u h=>e q u h;unfold fQ at g ⊢;refine d_ (d_ (d_ (d_ (d_ (d_ (d_ (d_ c_ ?_) ?_) ?_) ?_) ?_) ?_) ?_) ?_
    ·simp only[go_sem,f0]
    ·simp only[go_sem,g 4 _ rfl]
    ·simp only[go_sem,g 5 _ rfl]
    ·simp only[go_sem,g 6 _ rfl]
    ·simp only[go_sem,g 7 _ rfl]
    ·simp only[go_sem,g 8 _ rfl]
    ·simp only[go_sem,g 13 _ rfl]
    ·simp only[go_sem,g 14 _ rfl]
   ·rw[he];exact E.rZ (.rows 3 [(fP l a1).1.cells])
  by_cases U:j=i+1
  ·have he:jE l i j (dV l i a j).2=fP l (dV l i a j).2:=by unfold jE; rw[if_pos U]
   simp only[go_sem,bM (Om:(j:Int)=((i+1:Nat):Int))];refine draw _ _ _ N (by unfold fQ; exact Lq) rfl A he _ ?_;intro M H2 k1 k2 k3;exact fin M H2 k1 k2 k3
  ·simp only[go_sem,bB (Om:¬ (j:Int)=((i+1:Nat):Int))];by_cases X:j=i
   ·have he:jE l i j (dV l i a j).2=(jX,(dV l i a j).2):=by unfold jE; rw[if_neg U,if_pos X]
    simp only[go_sem,cM (Om:(j:Int)=(i:Int))];exact fin _ _ (by unfold fQ; exact Lq) rfl (by rw[he]; exact A)
   ·simp only[go_sem,eF (Om:¬ (j:Int)=(i:Int))];refine dA W.tozX T (o:=o) (n:=3) (a:=(dV l i a j).2) (by decide) N rfl (A.at 0 rfl) ?_;have E:aL _ ((o,aX v (aD l 3 (dV l i a j).2).2)::B++[(p,.rows 3 [jX.cells])]) (L++[(w,3,gR (dV l i a j).1)]):=A.set 0 rfl _;by_cases c3:(aD l 3 (dV l i a j).2).1=0
    ·have he:jE l i j (dV l i a j).2=fP l (aD l 3 (dV l i a j).2).2:=by unfold jE; rw[if_neg U,if_neg X]; simp only[c3,if_true]
     simp only[go_sem,bM (show (((aD l 3 (dV l i a j).2).1:Nat):Int)=0 by omega)];refine draw _ _ _ (bE l 3 N) (by unfold fQ; exact Lq) rfl E he _ ?_;intro M H2 k1 k2 k3;exact fin M H2 k1 k2 k3
    ·have he:jE l i j (dV l i a j).2=(jX,(aD l 3 (dV l i a j).2).2):=by unfold jE; rw[if_neg U,if_neg X]; simp only[c3,if_false]
     simp only[go_sem,bB (show ¬ (((aD l 3 (dV l i a j).2).1:Nat):Int)=0 by omega)];exact fin _ _ (by unfold fQ; exact Lq) rfl (by rw[he]; exact E)
 ·have I:¬ (j:Int)<(n:Nat):=Om;have:j=n:=Om;subst this;simp only[go_sem,I];exact hK w _ _ (by unfold fQ; exact Lq) O
abbrev qU (o o4 o6:Nat) (v e j l:PV) (a:Nat):List BX:=[(o,aX v a),(o4,Bu),(o6,UR e j l)]
abbrev uW (s:BC) (e j l:PV):List LI:=[(e,3,gR s.start),(j,1,uN s.ayK),(l,3,gR s.exit)]
theorem X6 {C:Ctx} (J:sM C) {l:List Nat} {v:PV} (T:Tp l v) (o o4 o6 n i:Nat) (s:BC) (I:s.a≤l.length) (V:s.left≤8) (W:n≤100) (hi:i<n) (B:List BX) (L:List LI) (e:aE) (K:cN) (F:PF) (H:PH)
  (j:(cU o o4 o6 n s.left i).le F) (A:aL H ((o,aX v s.a)::B) L)
  (w:∀ x H',(cU o o4 o6 n (s.left-(dU l n i s).1) i).le x→x 9=some (.int .i64 ((dU l n i s).1:Nat))→aL H' ((o,aX v (dU l n i s).2)::B) L→aE.wp C e K x H') :
  aE.wp C (.seq (.region ip) (.seq (.seq (.region iq) (.cond (.tmp 29) (.region ir) .skip)) (.seq (.region PT) e))) K F H:=by
 have f0:F 0=some (.ptr o 2 0 0):=j 0 _ (by unfold cU; simp only[go_sem]);have S:F 4=some (.ptr o4 4 0 0):=j 4 _ (by unfold cU; simp only[go_sem]);have O:F 5=some (.int .i64 n):=j 5 _ (by unfold cU; simp only[go_sem]);have f6:F 6=some (.ptr o6 4 0 0):=j 6 _ (by unfold cU; simp only[go_sem]);have f7:F 7=some (.int .i64 s.left):=j 7 _ (by unfold cU; simp only[go_sem]);have R:F 8=some (.int .i64 i):=j 8 _ (by unfold cU; simp only[go_sem]);have M:IntKind.i64.wrap ((i:Int)+1)=((i+1:Nat):Int):=dP Om;have U:=(US l n i s I).2;have u:IntKind.i64.wrap ((s.left:Int)-((dU l n i s).1:Int))=((s.left-(dU l n i s).1:Nat):Int):=by rw[wrap_i64 Om Om]; omega
 simp only[go_sem,ip,f7,iq,R,O,M];by_cases c:i+1<n
 ·have y:((i+1:Nat):Int)<(n:Nat):=Om;have he:dU l n i s=aD l (s.left+1) s.a:=by unfold dU; rw[if_pos c]
  have N:IntKind.i64.wrap ((s.left:Int)+1)=((s.left+1:Nat):Int):=dP Om;rw[he] at w u;simp only[go_sem,y,ir,f0,f7,N];refine dA J.tozX T (o:=o) (n:=s.left+1) (a:=s.a) Om I rfl A.aoV ?_;have E:=A.anD (aX v (aD l (s.left+1) s.a).2);simp only[go_sem,PT,f7,u];refine w _ _ ?_ rfl E;unfold cU;exact Lq
 ·have y:¬ ((i+1:Nat):Int)<(n:Nat):=Om;have he:dU l n i s=(s.left,s.a):=by unfold dU; rw[if_neg c]
  rw[he] at w u;simp only at w u;simp only[go_sem,y,PT,f7,u];refine w _ _ ?_ rfl A;unfold cU;exact Lq
theorem T3 {C:Ctx} (R:sM C) {l:List Nat} {v:PV} (o o4 o6 n i left k a:Nat) (hk:k≤8) (hi:i<n) (hn:n≤100) (s:BC) (hs:s.start.length=i) (O x A:PV) (B:List BX) (e:aE) (K:cN) (F:PF) (H:PH)
  (w:(cU o o4 o6 n left i).le F) (S:F 9=some (.int .i64 k)) (X:aL H (qU o o4 o6 v O x A a++B) (uW s O x A))
  (Y:∀ u N H' B',(cU o o4 o6 n left i).le N→aL H' (qU o o4 o6 v u x A a++B') (uW { s with start:=s.start++[mkT (k:Nat) 8] } u x A)→aE.wp C e K N H') :
  aE.wp C (.seq (.region VG) (.seq (.region VH) e)) K F H:=by
 have f0:F 0=some (.ptr o 2 0 0):=w 0 _ (by unfold cU; simp only[go_sem]);have f4:F 4=some (.ptr o4 4 0 0):=w 4 _ (by unfold cU; simp only[go_sem]);have f5:F 5=some (.int .i64 n):=w 5 _ (by unfold cU; simp only[go_sem]);have f6:F 6=some (.ptr o6 4 0 0):=w 6 _ (by unfold cU; simp only[go_sem]);have f7:F 7=some (.int .i64 left):=w 7 _ (by unfold cU; simp only[go_sem]);have f8:F 8=some (.int .i64 i):=w 8 _ (by unfold cU; simp only[go_sem]);simp only[go_sem,VG,S];refine aB (R.fmk (k:Int) 8 (by unfold dS; omega) (by unfold dS; omega)) rfl ?_;unfold wC;rw[if_neg (by decide)];simp only[go_sem];refine aP fun p Z=>?_;have j:=X.new Z (.rows 3 [(mkT (k:Nat) 8).cells]);have U:=j.at 2 rfl;have V:=j.mM;have I:(1:Nat)*3≤16777216:=by decide
 have α:∀ y,PH.set (PH.set H p (.rows 3 [[PV.bool false,PV.aA,PV.aA]])) p y=PH.set H p y:=fun y=>PH.set_set p _ _;simp only[go_sem,VH,f6,U,V,I];refine j.append 0 (src:=[(mkT (k:Nat) 8).cells]) rfl rfl (VE Om) fun u H2 J M=>?_;rw[wW] at J M; rw[mO] at M;obtain⟨q,rfl⟩:=M (by simp);have E:=J.at 2 rfl;simp only[go_sem,E,aAD,aAP,or_false,forall_eq];have W:=J.set 2 rfl (UR (.osl q 3 0 (s.start++[mkT (k:Nat) 8]).length) x A);refine Y _ _ _ (B++[(p,.rows 3 [(mkT (k:Nat) 8).cells])]) ?_ W;unfold cU;exact Lq
theorem X5 {C:Ctx} (N:sM C) {l:List Nat} {v:PV} (T:Tp l v) (o o4 o6 n i left a:Nat) (ha:a≤l.length) (hi:i<n) (hn:n≤100) (s:BC) (hs:s.exit.length=i) (w x M:PV) (B:List BX) (u:aE) (K:cN) (F:PF) (H:PH)
  (J:(cU o o4 o6 n left i).le F) (hH:aL H (qU o o4 o6 v w x M a++B) (uW s w x M))
  (hK:∀ I e H' B',(cU o o4 o6 n left i).le e→aL H' (qU o o4 o6 v w x I (fD l n i a).2++B') (uW { s with exit:=s.exit++[(fD l n i a).1] } w x I)→aE.wp C u K e H') :
  aE.wp C (.seq (.region VI) (.seq (.seq (.region VJ) (.cond (.tmp 58) (.region VK) .skip)) (.seq (.region HG) u))) K F H:=by
 have f0:F 0=some (.ptr o 2 0 0):=J 0 _ (by unfold cU; simp only[go_sem]);have f4:F 4=some (.ptr o4 4 0 0):=J 4 _ (by unfold cU; simp only[go_sem]);have f5:F 5=some (.int .i64 n):=J 5 _ (by unfold cU; simp only[go_sem]);have f6:F 6=some (.ptr o6 4 0 0):=J 6 _ (by unfold cU; simp only[go_sem]);have f7:F 7=some (.int .i64 left):=J 7 _ (by unfold cU; simp only[go_sem]);have f8:F 8=some (.int .i64 i):=J 8 _ (by unfold cU; simp only[go_sem]);have e1:IntKind.i64.wrap ((i:Int)+1)=((i+1:Nat):Int):=dP Om;simp only[go_sem,VI,f0];refine lJ (N.frac l v T o a ha) (hH.at 0 rfl) rfl ?_;have X:=hH.set 0 rfl (aX v (fP l a).2);simp only[go_sem];refine aP fun p hp=>?_;have A:=X.new hp (.rows 3 [(fP l a).1.cells]);simp only[go_sem,VJ,f8,f5,e1];have fin:∀ (e:PF) (H':PH),(cU o o4 o6 n left i).le e→e 12=some (.ptr p 3 0 0)→aL H' (qU o o4 o6 v w x M (fD l n i a).2++B++[(p,.rows 3 [(fD l n i a).1.cells])]) (uW s w x M)→wpOps C HG (aE.wp C u K) e H':=by
  intro e H' j R y;have q0:e 0=some (.ptr o 2 0 0):=j 0 _ (by unfold cU; simp only[go_sem]);have q4:e 4=some (.ptr o4 4 0 0):=j 4 _ (by unfold cU; simp only[go_sem]);have q5:e 5=some (.int .i64 n):=j 5 _ (by unfold cU; simp only[go_sem]);have q6:e 6=some (.ptr o6 4 0 0):=j 6 _ (by unfold cU; simp only[go_sem]);have q7:e 7=some (.int .i64 left):=j 7 _ (by unfold cU; simp only[go_sem]);have q8:e 8=some (.int .i64 i):=j 8 _ (by unfold cU; simp only[go_sem]);have g6:=y.at 2 rfl;have U:=y.mM;have V:(1:Nat)*3≤16777216:=by decide
  simp only[go_sem,HG,q6,g6,R,U,V];refine y.append 2 (src:=[(fD l n i a).1.cells]) rfl rfl (VE Om) fun I H2 W Z=>?_;rw[wW] at W Z; rw[mO] at Z;obtain⟨q,rfl⟩:=Z (by simp);have S:=W.at 2 rfl;simp only[go_sem,S,aAD,aAP,or_false,forall_eq];have h3:=W.set 2 rfl (UR w x (.osl q 3 0 (s.exit++[(fD l n i a).1]).length));refine hK _ _ _ (B++[(p,.rows 3 [(fD l n i a).1.cells])]) ?_ h3;unfold cU;exact Lq
 by_cases c:i+1<n
 ·have O:((i+1:Nat):Int)<(n:Nat):=Om;have Y:=uB l ha;simp only[go_sem,O,f0];refine dA N.tozX T (o:=o) (n:=3) (a:=(fP l a).2) (by decide) Y rfl (A.at 0 rfl) ?_;have E:=A.set 0 rfl (aX v (aD l 3 (fP l a).2).2);by_cases c3:(aD l 3 (fP l a).2).1=0
  ·have he:fD l n i a=(jX,(aD l 3 (fP l a).2).2):=by unfold fD; simp only[if_pos c,c3,if_true]
   have U:=aL.mM (B:=qU o o4 o6 v w x M (aD l 3 (fP l a).2).2++B) E;simp only[go_sem,bM (show (((aD l 3 (fP l a).2).1:Nat):Int)=0 by omega),VK];refine aB (N.int 0 (by unfold dS; omega)) rfl ?_;simp only[go_sem,U];refine fin _ _ ?_ rfl ?_
   ·unfold cU;exact Lq
   ·rw[he];exact aL.rZ (B:=qU o o4 o6 v w x M (aD l 3 (fP l a).2).2++B) E (.rows 3 [jX.cells])
  ·have he:fD l n i a=((fP l a).1,(aD l 3 (fP l a).2).2):=by unfold fD; simp only[if_pos c,c3,if_false]
   simp only[go_sem,bB (show ¬ (((aD l 3 (fP l a).2).1:Nat):Int)=0 by omega)];refine fin _ _ ?_ rfl ?_
   ·unfold cU;exact Lq
   ·rw[he];exact E
 ·have O:¬ ((i+1:Nat):Int)<(n:Nat):=Om;have he:fD l n i a=fP l a:=by unfold fD; simp only[if_neg c]
  simp only[go_sem,O];refine fin _ _ ?_ rfl ?_
  ·unfold cU;exact Lq
  ·rw[he];exact A
def aaP (l:List Nat) (v:PV) (o dQ a:Nat) (r:PV) (H:PH):Prop:=r=.agg (qI l dQ a).1.cells∧H=PH.nil.set o (aX v (qI l dQ a).2)
theorem Ze {l:List (List RF)} (h:l.length≤1000):roomFor (uN l).length 1 24:=by
 unfold roomFor;simp only[azT,maxLen]; omega
theorem Zf (l:List (List RF)) (x:List RF):uN l++[[frs x]]=uN (l++[x]):=by simp[uN]
theorem T2 {C:Ctx} (Lb:sM C) {l:List Nat} {v:PV} (T:Tp l v) (o o4 o6 n left i a:Nat) (ha:a≤l.length) (hn:n≤100) (hi:i<n) (s:BC) (hs:s.ayK.length=i) (y N I:PV) (B:List BX) (K:cN) (F:PF) (H:PH)
  (J:(cU o o4 o6 n left i).le F) (hH:aL H (qU o o4 o6 v y N I a++B) (uW s y N I))
  (hK:∀ E A W H' B',(cU o o4 o6 n left i).le W→(∃ q,A=.osl q 3 0 n)→aL H' (qU o o4 o6 v y E I (dV l i a n).2++B') [(y,3,gR s.start),(E,1,uN s.ayK++[[A]]),(I,3,gR s.exit),(A,3,gR (dV l i a n).1)]→K .normal W H') :
  aE.wp C (.seq (.region VL) (.seq (.seq (.region VM) (.block 2 (.loop HF))) (.region VQ))) K F H:=by
 have f0:F 0=some (.ptr o 2 0 0):=J 0 _ (by unfold cU; simp only[go_sem]);have f4:F 4=some (.ptr o4 4 0 0):=J 4 _ (by unfold cU; simp only[go_sem]);have f5:F 5=some (.int .i64 n):=J 5 _ (by unfold cU; simp only[go_sem]);have f6:F 6=some (.ptr o6 4 0 0):=J 6 _ (by unfold cU; simp only[go_sem]);have f7:F 7=some (.int .i64 left):=J 7 _ (by unfold cU; simp only[go_sem]);have f8:F 8=some (.int .i64 i):=J 8 _ (by unfold cU; simp only[go_sem]);simp only[go_sem,VL,VM];refine aeG (C:=C) Lb T o o4 o6 n left i a ha hn hi ([(o4,Bu),(o6,UR y N I)]++B) (uW s y N I) _ _ H ?_ hH ?_
 ·unfold fQ
  (repeat' (first|exact c_|refine d_ ?_ ?_))<;>first|(simp only[go_sem,f0,f4,f5,f6,f7,f8]<;>rfl)|rfl
 intro w u H1 e x;have j:=WY l i a n;have hw:∃ q,w=.osl q 3 0 n:=by
  rcases x.own (v:=w) 3 rfl with ⟨M,_⟩ | ⟨q,rs,M,_⟩
  ·have:=congrArg List.length M;rw[mO,j] at this;simp at this; omega
  ·rw[mO,j] at M;exact⟨q,M⟩
 obtain⟨q,rfl⟩:=hw;have g0:u 0=some (.ptr o 2 0 0):=e 0 _ (by unfold fQ; simp only[go_sem]);have g4:u 4=some (.ptr o4 4 0 0):=e 4 _ (by unfold fQ; simp only[go_sem]);have g5:u 5=some (.int .i64 n):=e 5 _ (by unfold fQ; simp only[go_sem]);have X:u 6=some (.ptr o6 4 0 0):=e 6 _ (by unfold fQ; simp only[go_sem]);have g7:u 7=some (.int .i64 left):=e 7 _ (by unfold fQ; simp only[go_sem]);have g8:u 8=some (.int .i64 i):=e 8 _ (by unfold fQ; simp only[go_sem]);have R:u 13=some (.osl q 3 0 n):=e 13 _ (by unfold fQ; simp only[go_sem]);have b6:=x.at 2 rfl;have S:(1:Nat)*1≤16777216:=by decide
 simp only[go_sem,VQ,X,b6,R,S,aAD,aAP,or_false,forall_eq];refine x.append 1 (src:=[[.osl q 3 0 n]]) rfl Sq (Ze Om) fun E H2 Y V=>?_;obtain⟨q2,rfl⟩:=V (by simp);have O:=Y.at 2 rfl;simp only[go_sem,O,aAD,aAP,or_false,forall_eq];have Z:=Y.set 2 rfl (UR y (.osl q2 1 0 (uN s.ayK++[[PV.osl q 3 0 n]]).length) I);have U:(uN s.ayK++[[(PV.osl q 3 0 n:PV)]]).length=s.ayK.length+1:=by simp
 rw[U] at Z ⊢;refine hK (.osl q2 1 0 (s.ayK.length+1)) (.osl q 3 0 n) _ _ B ?_ ⟨q,rfl⟩ Z;unfold cU
 (repeat' (first|exact c_|refine d_ ?_ ?_))<;>first|(simp only[go_sem,g0,g4,g5,X,g7,g8]<;>rfl)|rfl
theorem alO {C:Ctx} (K:sM C) {l:List Nat} {v:PV} (T:Tp l v) (o dQ a:Nat) (hm:0<dQ) (ε:dQ≤50) (ha:a≤l.length):MA.wp C (aS aeF.res (aaP l v o dQ a)) (PF.args [.ptr o 2 0 0,.int .i64 dQ]) (PH.nil.set o (aX v a)):=by
 have h0:aL (PH.nil.set o (aX v a)) [(o,aX v a)] []:=aL.nil.new (H:=PH.nil) rfl (aX v a);simp only[go_sem,MA,Oh,aeF];refine aP fun o4 γ=>?_;have J:=h0.new γ Bu;simp only[go_sem,Oi];refine dA K.tozX T (o:=o) (n:=dQ) (a:=a) Om ha Sq (J.at 0 rfl) ?_;have h2:=J.set 0 rfl (aX v (aD l dQ a).2);have hN:=cD l hm a;have Z:=bE l dQ ha;have e1:IntKind.i64.wrap (1+((aD l dQ a).1:Int))=((1+(aD l dQ a).1:Nat):Int):=by rw[wrap_i64 Om Om]; omega
 have β:∀ s:BC,s=gA l (1+(aD l dQ a).1) (aD l dQ a).2 (1+(aD l dQ a).1)→qI l dQ a=(⟨[],s.start,s.ayK,s.exit⟩,s.a):=fun s hs=>by rw[hs]; rfl
 have Y:∀ r H,aaP l v o dQ a r H↔r=.agg (qI l dQ a).1.cells∧H=PH.nil.set o (aX v (qI l dQ a).2):=fun _ _=>Iff.rfl;generalize hn:1+(aD l dQ a).1=n at *
 generalize hb:(aD l dQ a).2=b at *
 have ζ:0<n:=Om;have e:n≤100:=Om;simp only[go_sem,e1,Oj];refine aP fun o6 δ=>?_;have h3:=((h2.new δ Bu).mY 3).mY 1;have h4:=h3.mY 3;simp only[go_sem,Ol,On];refine wp_loop (α:=Nat × PV × PV × PV × PH) (fun t=>cU o o4 o6 n (gA l n b t.1).left t.1) (fun t=>t.2.2.2.2)
  (fun t=>t.1≤n∧aL t.2.2.2.2 (qU o o4 o6 v t.2.1 t.2.2.1 t.2.2.2.1 (gA l n b t.1).a) (uW (gA l n b t.1) t.2.1 t.2.2.1 t.2.2.2.1)) (fun t=>n-t.1) (0,.aA,.aA,.aA,_) ⟨aAH _,h4⟩ ?_ b_ ?_
 ·unfold cU
  (repeat' (first|exact c_|refine d_ ?_ ?_))<;>first|(simp only[go_sem,gA]<;>rfl)|rfl
 rintro⟨i,w1,M,N,H0⟩ ⟨hi,F⟩;simp only at hi F ⊢;obtain⟨k1,k2,k3,k4,k5⟩:=ii l n Z i;simp only[go_sem,Dh,Oo,cU];by_cases hlt:i<n
 ·have B:(i:Int)<(n:Nat):=Om;have E:gA l n b (i+1)=⟨(gA l n b i).start++[mkT ((dU l n i (gA l n b i)).1:Nat) 8],(gA l n b i).exit++[(fD l n i (dU l n i (gA l n b i)).2).1],(gA l n b i).ayK++[(dV l i (fD l n i (dU l n i (gA l n b i)).2).2 n).1],(gA l n b i).left-(dU l n i (gA l n b i)).1,(dV l i (fD l n i (dU l n i (gA l n b i)).2).2 n).2⟩:=rfl;have kl:=US l n i (gA l n b i) k1;have ke:=wm l n i kl.1;generalize hs:gA l n b i=s at *
  simp only[go_sem,B];refine X6 (C:=C) K T o o4 o6 n i s k1 k2 e hlt [(o4,Bu),(o6,UR w1 M N)] (uW s w1 M N) _ _ _ H0 (by unfold cU; exact Lq) F ?_;intro F1 H1 O f9 U;refine T3 (C:=C) (l:=l) K o o4 o6 n i _ (dU l n i s).1 (dU l n i s).2 Om hlt e s k3 w1 M N [] _ _ F1 H1 O f9 U ?_;intro j F2 H2 B2 R V;refine X5 (C:=C) K T o o4 o6 n i _ (dU l n i s).2 kl.1 hlt e { s with start:=s.start++[mkT ((dU l n i s).1:Nat) 8] } k4 j M N B2 _ _ F2 H2 R V ?_;intro u F3 H3 B3 S W;refine T2 (C:=C) K T o o4 o6 n _ i (fD l n i (dU l n i s).2).2 ke e hlt { s with start:=s.start++[mkT ((dU l n i s).1:Nat) 8],exit:=s.exit++[(fD l n i (dU l n i s).2).1] } k5 j M u B3 _ F3 H3 S W ?_;rintro A η I H4 B4 y ⟨q,rfl⟩ X;have g0:I 0=some (.ptr o 2 0 0):=y 0 _ (by unfold cU; simp only[go_sem]);have g4:I 4=some (.ptr o4 4 0 0):=y 4 _ (by unfold cU; simp only[go_sem]);have g5:I 5=some (.int .i64 n):=y 5 _ (by unfold cU; simp only[go_sem]);have g6:I 6=some (.ptr o6 4 0 0):=y 6 _ (by unfold cU; simp only[go_sem]);have g7:I 7=some (.int .i64 (s.left-(dU l n i s).1:Nat)):=y 7 _ (by unfold cU; simp only[go_sem]);have g8:I 8=some (.int .i64 i):=y 8 _ (by unfold cU; simp only[go_sem]);obtain⟨rs,z1,z2,z3,z4,z5⟩:=X.frz 3 rfl;have y1:=z4 0 _ (by decide) rfl;have y2:=z4 1 _ (by decide) rfl;have y3:=z4 2 _ (by decide) rfl;simp only at y1 y2 y3;have y4:=T.frz q 3 rs;simp only[go_sem,Dl,g8,wZz i];refine LQ (i+1,j,A,u,H4.frz q 3 rs) z1 ⟨hlt,?_⟩ (by simp only; omega) ?_ b_
  ·rw[E];have eB:(qU o o4 o6 v j A u (dV l i (fD l n i (dU l n i s).2).2 n).2).map (fun b=>(b.1,b.2.frz q 3 rs))=qU o o4 o6 v j A u (dV l i (fD l n i (dU l n i s).2).2 n).2:=by simp only[aBA,aCH,bG.frz,y1,y2,y3,y4];rfl
   have eL:([(j,3,gR (s.start++[mkT ((dU l n i s).1:Nat) 8])),(A,1,uN s.ayK++[[.osl q 3 0 n]]),(u,3,gR (s.exit++[(fD l n i (dU l n i s).2).1]))]:List LI).map (fun x=>(x.1,x.2.1,x.2.2.map fun r=>r.map (PV.cA q 3 rs))) =
     uW ⟨s.start++[mkT ((dU l n i s).1:Nat) 8],s.exit++[(fD l n i (dU l n i s).2).1],s.ayK++[(dV l i (fD l n i (dU l n i s).2).2 n).1],s.left-(dU l n i s).1,(dV l i (fD l n i (dU l n i s).2).2 n).2⟩ j A u:=by
    have e2:(uN s.ayK++[[PV.osl q 3 0 n]]).map (fun r=>r.map (PV.cA q 3 rs))=uN (s.ayK++[(dV l i (fD l n i (dU l n i s).2).2 n).1]):=by rw[aBL,qq,aBA,aCH,aBA,aCH,z2,Zf]
    show ([(j,3,(gR (s.start++[mkT ((dU l n i s).1:Nat) 8])).map (fun r=>r.map (PV.cA q 3 rs))),(A,1,(uN s.ayK++[[PV.osl q 3 0 n]]).map (fun r=>r.map (PV.cA q 3 rs))),(u,3,(gR (s.exit++[(fD l n i (dU l n i s).2).1])).map (fun r=>r.map (PV.cA q 3 rs)))]:List LI)=_;rw[FI,e2,FI]
   rw[← eB,← eL];exact z5.sub (by rw[aBL]; exact aDP ..) (aCA.refl _)
  ·rw[E]
   (repeat' (first|exact c_|refine d_ ?_ ?_))<;>first|(simp only[go_sem,g0,g4,g5,g6,g7,g8]<;>rfl)|rfl
 ·have B:¬ (i:Int)<(n:Nat):=Om;have:i=n:=Om;subst this;simp only[go_sem,B,Dm];have b4:=F.at 1 rfl;have b6:=F.at 2 rfl;have osl:∀ {w:PV} {z:Nat} {rows:List (List PV)},rows.length=i→bZ H0 z w rows→∃ q,w=.osl q z 0 i:=by
   intro w z rows hr hO;rcases hO with ⟨J,_⟩ | ⟨q,rs,J,_⟩
   ·rw[J] at hr; simp at hr; omega
   ·exact⟨q,by rw[J,hr]⟩
  obtain⟨q1,rfl⟩:=osl (by rw[mO,k3]) (F.own 0 rfl);obtain⟨q2,rfl⟩:=osl (by rw[azT,k5]) (F.own 1 rfl);obtain⟨q3,rfl⟩:=osl (by rw[mO,k4]) (F.own 2 rfl);have hR:=β (gA l i b i) rfl;simp only[go_sem,b6,b4,aAD,aAP,or_false,forall_eq,forall_eq_or_imp];have x1:=F.set 1 rfl (UR (.osl q1 3 0 i) (.osl q2 1 0 i) (.osl q3 3 0 i));obtain⟨r1,s1,s2,s3,s4,s5⟩:=x1.frz 0 rfl;have u2:=s4 1 _ (by decide) rfl;have u3:=s4 2 _ (by decide) rfl;simp only at u2 u3;have u4:=T.frz q1 3 r1;obtain⟨r2,t1,t2,t3,t4,t5⟩:=s5.frz 0 rfl;have m3:=t4 1 _ (by decide) rfl;simp only at m3;have m4:=T.frz q2 1 r2;obtain⟨r3,n1,n2,n3,n4,n5⟩:=t5.frz 0 rfl;have n4:=T.frz q3 3 r3;refine oR (vs:=[.agg [.str [],.osl q1 3 0 i,.osl q2 1 0 i,.osl q3 3 0 i]]) (.inr rfl) ?_ (.step s1 (.step t1 (.step n1 (.done (H2:=PH.nil.set o (aX v (gA l i b i).a)) ?_ (e_ a_ ?_)))))
  ·simp only[go_sem]
  ·rw[Y,hR];refine⟨?_,rfl⟩;simp only[cY,PV.frz,PV.pI,aBA,aCH,s2,u2,u3,t2,m3,n2];simp only[PV.cA,FI _ _ _ _,qq _ _ _ _]
  ·have:=n5.at 0 rfl;rw[this];simp only[bG.frz,aBA,aCH,u4,m4,n4];rfl
structure nD (C:Ctx):Prop extends sM C where
 law:∀ (l:List Nat) (v:PV),Tp l v→∀ (o dQ a:Nat),0<dQ→dQ≤50→a≤l.length→aG C 2 [.ptr o 2 0 0,.int .i64 dQ] (PH.nil.set o (aX v a)) (aaP l v o dQ a)
structure GOk (l:List Nat) (ayF:Nat) (s:GS):Prop where
 ayP:s.ayP.length≤35
 ayZ:s.ayZ.length≤ayF
 a:s.a≤l.length
theorem UA {l:List Nat} {mc ayF dom:Nat} {s:GS} (h:GOk l ayF s):∀ i,GOk l ayF (jS l mc ayF dom s i)∧(jS l mc ayF dom s i).ayP=s.ayP
 | 0=>⟨h,rfl⟩
 | i+1=>by
  obtain⟨⟨e,w,j⟩,u⟩:=UA (mc:=mc) (dom:=dom) h i;simp only[jS];split
  ·exact⟨⟨e,by simp only[azX,aAC]; omega,bE l mc j⟩,u⟩
  ·exact⟨⟨e,w,j⟩,u⟩
theorem Ks {l:List Nat} {level dom ayF:Nat} {s:GS} (h:GOk l ayF s) (e:pU ayF s=false):GOk l ayF (nH l level dom s)∧∃ x:cS,(nH l level dom s).ayP=s.ayP++[x]∧x.level=(level:Int)∧x.parent=(dom:Int):=by
 obtain⟨w,j,u⟩:=h;unfold pU at e;rw[Bool.or_eq_false_iff] at e;have y:=of_decide_eq_false e.2;refine⟨⟨?_,j,?_⟩,_,rfl,rfl,rfl⟩
 ·simp only[nH,azX,aAC]; omega
 ·have a1:=bE l 3 (bE l 16 u);simp only[nH];split
  ·exact bE l 6 a1
  ·exact a1
theorem UB {l:List Nat} {level ayF dom:Nat} {rec:Nat→GS→GS} (e:∀ d t,GOk l ayF t→GOk l ayF (rec d t)∧∃ u,(rec d t).ayP=t.ayP++u) {s:GS} (h:GOk l ayF s) :
  ∀ i,GOk l ayF (gV l level ayF dom rec s i)∧∃ u,(gV l level ayF dom rec s i).ayP=s.ayP++u
 | 0=>⟨h,[],by simp[gV]⟩
 | i+1=>by
  obtain⟨j,u,w⟩:=UB e h i;simp only[gV];split
  ·exact⟨j,u,w⟩
  ·rename_i y;obtain⟨g1,x,g2,-⟩:=Ks (level:=level) (dom:=dom) j (by simpa using y);obtain⟨k1,A,k2⟩:=e ((nH l level dom (gV l level ayF dom rec s i)).ayP.length-1) _ g1;exact⟨k1,u++[x]++A,by rw[k2,g2,w]; simp⟩
theorem FW {l:List Nat} {mc ayF:Nat}:∀ (k dom:Nat) {s:GS},GOk l ayF s→GOk l ayF (eZ l mc ayF k dom s)∧∃ u,(eZ l mc ayF k dom s).ayP=s.ayP++u
 | 0,dom,s,h=>by have e:GOk l ayF { s with a:=(aD l 2 s.a).2 }:=⟨h.ayP,h.ayZ,bE l 2 h.a⟩;obtain⟨j,w⟩:=UA (mc:=mc) (dom:=dom) e (1+(aD l 2 s.a).1);exact⟨j,[],by simp only[eZ]; rw[w]; simp⟩
 | k+1,dom,s,h=>by have e:GOk l ayF { s with a:=(aD l 2 s.a).2 }:=⟨h.ayP,h.ayZ,bE l 2 h.a⟩;exact UB (level:=4-k) (dom:=dom) (fun d t x=>FW k d x) e (if 4-k=2 then 1 else 1+(aD l 2 s.a).1)
theorem Tf {l : List Nat} {level ayF dom : Nat} {rec : Nat → GS → GS} {s : GS} {i : Nat} (h : pU ayF (gV l level ayF dom rec s i) = true) : ∀ n, i ≤ n → gV l level ayF dom rec s n = gV l level ayF dom rec s i := by
  intro n hn
  induction n with
  | zero => have : i = 0 := Om
            subst this; rfl
  | succ n ih =>
    rcases aAM n i with h' | h'
    · have : i = n + 1 := Om
      subst this; rfl
    · have e := ih h'
      simp only [gV];rw [e, if_pos h]
def mkS (l:List Nat) (v:PV):Spec:=fun name vs=>match name,vs with
 | 29,[.str s,.int _ i]=>some ([],fun _=>aM (.str (s++bW i.toNat)))
 | 47,[.int _ n]=>some ([],fun _=>aM (.agg (mkT n 1).cells))
 | 4,[.ptr o _ _ _,.int _ n]=>some ([o],fun e r H'=>∀ a,e o=some (aX v a)→OV l v o n.toNat a r H')
 | _,_=>none
section
variable {C:Ctx} {F:PF} {H Hs:PH} {l:List Nat} {v:PV} {o a:Nat}
theorem rC (w:zX C) (T:Tp l v) {n:Nat} {st:Bool} {args:List aN} {d:Option Nat} {K:PF→PH→Prop} (E:n≤1000000) (A:a≤l.length) (e:aN.evs F args=some [.ptr o 2 0 0,.int .i64 n]) (I:H o=some (aX v a))
  (j:Hs.le (H.set o (aX v (aD l n a).2))) (B:K (F.put d (.int .i64 ((aD l n a).1:Nat))) (H.set o (aX v (aD l n a).2))):dOp C Hs (mkS l v) st (.call 4 args) d K F H:=by
 refine abH (x:=aX v a) (y:=aX v (aD l n a).2) (r:=.int .i64 ((aD l n a).1:Nat)) (R:=fun u r H'=>∀ a,u o=some (aX v a)→OV l v o n a r H') rfl I (w.next l v T o n a E A) ?_ ?_ e j B
 ·intro b hb;rw[cJ] at hb;injection hb with hb
  injection hb with _ hb
  injection hb with hb _
  injection hb with _ hb
  injection hb with hb _
  injection hb with _ hb
  have:a=b:=Om;subst this;exact⟨rfl,rfl⟩
 ·intro M H' J;exact J a (by rw[cJ])
theorem ET (u:sM C) {s:List UInt8} {n:Nat} {st:Bool} {args:List aN} {d:Option Nat} {K:PF→PH→Prop} (y:s.length≤100) (x:n<100) (e:aN.evs F args=some [.str s,.int .i64 n]) (j:Hs.le H) (w:K (F.put d (.str (s++bW n))) H) :
  dOp C Hs (mkS l v) st (.call 29 args) d K F H :=
 dJ (v:=.str (s++bW n)) rfl (u.name s n y x) e j w
theorem ajE (u:zX C) {n:Int} {st:Bool} {args:List aN} {d:Option Nat} {K:PF→PH→Prop} (x:dS n) (e:aN.evs F args=some [.int .i64 n]) (j:Hs.le H) (w:K (F.put d (.agg (mkT n 1).cells)) H) :
  dOp C Hs (mkS l v) st (.call 47 args) d K F H :=
 dJ (v:=.agg (mkT n 1).cells) rfl (u.int n x) e j w
end
theorem bZ.sZ {H:PH} {s:Nat} {v:PV} {rows:List (List PV)} (h:bZ H s v rows):PV.sZ v=some (.int .i64 (rows.length:Nat)):=by
 rcases h with ⟨rfl,rfl⟩ | ⟨q,rs,rfl,_⟩<;>rfl
abbrev kB (l:List cS):List (List PV):=l.map cS.cells
abbrev mN (l:List dL):List (List PV):=l.map dL.cells
abbrev flB (ext wl j e l wp wv:PV):bG:=.rows 7 [[ext,wl,j,e,l,wp,wv]]
structure GE where
 o:Nat
 fo:Nat
 qm:Nat
 ext:PV
 wl:PV
 wp:PV
 wv:PV
abbrev GE.boxes (G:GE) (v:PV) (mc:Nat) (e j:PV) (a:Nat):List BX:=[(G.o,aX v a),(G.fo,flB G.ext G.wl (.osl G.qm 4 0 mc) e j G.wp G.wv)]
abbrev mF (s:GS) (e j:PV):List LI:=[(e,7,kB s.ayP),(j,3,mN s.ayZ)]
def fE (G:GE) (dom ayF level n i:Nat):PF:=(((((((PF.nil.set 0 (.ptr G.o 2 0 0)).set 1 (.ptr G.fo 7 0 0)).set 2 (.int .i64 dom)).set 3 (.int .i64 ayF)).set 8 (.int .i64 level)).set 9 (.int .i64 n)).set 10 (.int .i64 i))
theorem bZ.one {H:PH} {s:Nat} {v:PV} {rows:List (List PV)} (h:bZ H s v rows) (e:0<rows.length):∃ q,v=.osl q s 0 rows.length:=by
 rcases h with ⟨rfl,_⟩ | ⟨q,rs,rfl,_⟩
 ·simp at e
 ·exact⟨q,rfl⟩
theorem C4 {C:Ctx} (U:nD C) {l:List Nat} {v:PV} (T:Tp l v) (G:GE) (mc ayF dom n:Nat) (δ:0<mc) (β:mc≤1000) (γ:ayF≤60) (hn:n≤10) (s:GS) (hs:GOk l ayF s) (w y:PV) (K:cN) (F:PF) (H:PH)
  (hF:(fE G dom ayF 5 n 0).le F) (x:aL H (G.boxes v mc w y s.a) (mF s w y))
  (hK:∀ J B F' H',aL H' (G.boxes v mc J B (jS l mc ayF dom s n).a) (mF (jS l mc ayF dom s n) J B)→K (.exit 0) F' H') :
  aE.wp C (.loop vX) K F H:=by
 refine wp_loop (α:=Nat × PV × PV × PH) (fun t=>fE G dom ayF 5 n t.1) (fun t=>t.2.2.2) (fun t=>t.1≤n∧aL t.2.2.2 (G.boxes v mc t.2.1 t.2.2.1 (jS l mc ayF dom s t.1).a) (mF (jS l mc ayF dom s t.1) t.2.1 t.2.2.1)) (fun t=>n-t.1) (0,w,y,H) ⟨aAH _,x⟩ hF b_ ?_;rintro⟨i,w,y,S⟩ ⟨hi,x⟩;simp only at hi x ⊢;obtain⟨O,-⟩:=UA (mc:=mc) (dom:=dom) hs i;have j:jS l mc ayF dom s (i+1)=(if (jS l mc ayF dom s i).ayZ.length<ayF then { jS l mc ayF dom s i with ayZ:=(jS l mc ayF dom s i).ayZ++[⟨[100]++bW (jS l mc ayF dom s i).ayZ.length,((aD l mc (jS l mc ayF dom s i).a).1:Nat),(dom:Nat)⟩],a:=(aD l mc (jS l mc ayF dom s i).a).2 } else jS l mc ayF dom s i):=rfl;simp only[go_sem,vX,VB,fE];by_cases hlt:i<n
 ·have u:(i:Int)<(n:Nat):=Om;generalize hg:jS l mc ayF dom s i=g at *
  have M:=x.at 1 rfl;have R:=(x.own 1 rfl).sZ;rw[azT] at R;have W:=wZz i;simp only[go_sem,u,VC,show (((5:Nat):Int)==5)=true from rfl,Da,M,R];by_cases Z:g.ayZ.length<ayF
  ·have A:(g.ayZ.length:Int)<(ayF:Nat):=Om;rw[if_pos Z] at j;simp only[go_sem,A];have I:(PH.nil.set G.fo (flB G.ext G.wl (.osl G.qm 4 0 mc) w y G.wp G.wv)).le S:=e_ a_ M;refine bO (PH.nil.set G.fo (flB G.ext G.wl (.osl G.qm 4 0 mc) w y G.wp G.wv)) (mkS l v) I ?_;simp only[go_sem,Db,M,R];refine ET U.tosM (s:=[100]) (n:=g.ayZ.length) (by decide) (by have:=O.ayZ; omega) rfl I ?_;simp only[go_sem];have ho:=x.at 0 rfl;have X:=x.set 0 rfl (aX v (aD l mc g.a).2);have N:=X.at 1 rfl;refine rC U.tozX T (o:=G.o) (n:=mc) (a:=g.a) Om O.a rfl ho (e_ a_ N) ?_;have E:(1:Nat)*3≤16777216:=by decide
   simp only[go_sem,E,aAD,aAP,or_false,forall_eq,forall_eq_or_imp];refine X.append 1 (src:=[(⟨[100]++bW g.ayZ.length,((aD l mc g.a).1:Nat),(dom:Nat)⟩:dL).cells]) rfl rfl (by unfold roomFor; rw[azT]; have:=O.ayZ; simp only[aAC,maxLen]; omega) fun B H2 Y hw=>?_;obtain⟨q,rfl⟩:=hw (by simp);have V:=Y.at 1 rfl;refine⟨e_ a_ V,?_⟩;refine bO .nil dE a_ ?_;simp only[go_sem,Dc,V,aAD,aAP,or_false,forall_eq];have h3:=Y.set 1 rfl (flB G.ext G.wl (.osl G.qm 4 0 mc) w (.osl q 3 0 (mN g.ayZ++[(⟨[100]++bW g.ayZ.length,((aD l mc g.a).1:Nat),(dom:Nat)⟩:dL).cells]).length) G.wp G.wv);refine⟨a_,?_⟩;simp only[go_sem,vY,W];refine aJ (i+1,w,.osl q 3 0 (mN g.ayZ++[(⟨[100]++bW g.ayZ.length,((aD l mc g.a).1:Nat),(dom:Nat)⟩:dL).cells]).length,_) ⟨hlt,?_⟩ (by simp only; omega) ?_ b_
   ·rw[j];have e:mN (g.ayZ++[(⟨[100]++bW g.ayZ.length,((aD l mc g.a).1:Nat),(dom:Nat)⟩:dL)])=mN g.ayZ++[(⟨[100]++bW g.ayZ.length,((aD l mc g.a).1:Nat),(dom:Nat)⟩:dL).cells]:=by simp[mN]
    unfold mF;simp only;rw[e];exact h3
   ·exact Lq
  ·have A:¬ (g.ayZ.length:Int)<(ayF:Nat):=Om;rw[if_neg Z] at j;simp only[go_sem,A,vY,W];refine aJ (i+1,w,y,S) ⟨hlt,by rw[j]; exact x⟩ (by simp only; omega) ?_ b_;exact Lq
 ·have u:¬ (i:Int)<(n:Nat):=Om;have:i=n:=Om;subst this;simp only[go_sem,u];exact hK w y _ _ x
def R1 (G:GE) (v:PV) (mc:Nat) (s':GS) (r:PV) (B':List BX) (L':List LI):Prop:=r=.tup []∧∃ e j,B'=G.boxes v mc e j s'.a∧L'=mF s' e j
def XS (C:Ctx) (l:List Nat) (v:PV) (mc ayF k:Nat):Prop :=
 ∀ (G:GE) (j u:PV) (s:GS) (dom:Nat) (x:cS),GOk l ayF s→s.ayP[dom]?=some x→x.level=4-(k:Int)→∀ e,aL e (G.boxes v mc j u s.a) (mF s j u) →
  aG C 7 [.ptr G.o 2 0 0,.ptr G.fo 7 0 0,.int .i64 dom,.int .i64 ayF] e (fun r H'=>∃ B' L',R1 G v mc (eZ l mc ayF k dom s) r B' L'∧aL H' B' L')
theorem Xu {e:Nat} (h:e≤4):([45,115,114,107,109]:List UInt8)[e]?=some (lK e):=by
 match e,h with
 | 0,_=>rfl
 | 1,_=>rfl
 | 2,_=>rfl
 | 3,_=>rfl
 | 4,_=>rfl
theorem QX {C:Ctx} {l:List Nat} {v:PV} (G:GE) (mc ayF dom A n i k p:Nat) (γ:A=4-k) (hk:k<4) (y:XS C l v mc ayF k) (g:GS) (x:cS) (a:Nat) (W:GOk l ayF { g with ayP:=g.ayP++[x],a:=a }) (hx:x.level=(A:Nat)) (X w:PV) (β:ayF≤60) (K:cN) (F:PF) (H:PH)
  (j:(fE G dom ayF A n i).le F) (f11:F 11=some (.ptr p 7 0 0)) (J:aL H (G.boxes v mc X w a++[(p,.rows 7 [x.cells])]) (mF g X w))
  (hK:∀ u B U H',(fE G dom ayF A n i).le U→aL H' (G.boxes v mc u B (eZ l mc ayF k g.ayP.length { g with ayP:=g.ayP++[x],a:=a }).a) (mF (eZ l mc ayF k g.ayP.length { g with ayP:=g.ayP++[x],a:=a }) u B)→K .normal U H') :
  aE.wp C (.draw LY) (mD C (aE.wp C (.region LZ)) K) F H:=by
 have f0:F 0=some (.ptr G.o 2 0 0):=j 0 _ (by unfold fE; simp only[go_sem]);have f1:F 1=some (.ptr G.fo 7 0 0):=j 1 _ (by unfold fE; simp only[go_sem]);have f2:F 2=some (.int .i64 dom):=j 2 _ (by unfold fE; simp only[go_sem]);have f3:F 3=some (.int .i64 ayF):=j 3 _ (by unfold fE; simp only[go_sem]);have f8:F 8=some (.int .i64 A):=j 8 _ (by unfold fE; simp only[go_sem]);have f9:F 9=some (.int .i64 n):=j 9 _ (by unfold fE; simp only[go_sem]);have α:F 10=some (.int .i64 i):=j 10 _ (by unfold fE; simp only[go_sem]);have O:=W.ayP;simp only[azX,aAC] at O;have Z:=J.at 1 rfl;have b2:=J.at 2 rfl;have E:(1:Nat)*7≤16777216:=by decide
 refine bO .nil dE a_ ?_;simp only[go_sem,LY,f1,f11,Z,b2,E,aAD,aAP,or_false,forall_eq,forall_eq_or_imp];refine J.append 0 (src:=[x.cells]) rfl rfl (by unfold roomFor; rw[azT]; simp only[aAC,maxLen]; omega) fun u H2 I hw=>?_;obtain⟨q,rfl⟩:=hw (by simp);have hl:(kB g.ayP++[x.cells]).length=g.ayP.length+1:=by simp
 rw[hl] at I ⊢;have c1:=I.at 1 rfl;refine⟨a_,?_⟩;simp only[go_sem,c1,aAD,aAP,or_false,forall_eq];have V:=I.set 1 rfl (flB G.ext G.wl (.osl G.qm 4 0 mc) (.osl q 7 0 (g.ayP.length+1)) w G.wp G.wv);have c2:=V.at 1 rfl;refine⟨a_,?_⟩;have e:kB (g.ayP++[x])=kB g.ayP++[x.cells]:=by simp[kB]
 have ew:IntKind.i64.wrap (((g.ayP.length+1:Nat):Int)-1)=(g.ayP.length:Int):=by rw[wrap_i64 Om Om]; omega
 simp only[go_sem,LZ,f0,f1,f3,ew];have h4:aL (H2.set G.fo (flB G.ext G.wl (.osl G.qm 4 0 mc) (.osl q 7 0 (g.ayP.length+1)) w G.wp G.wv)) (G.boxes v mc (.osl q 7 0 (g.ayP.length+1)) w a++[(p,.rows 7 [x.cells])]) (mF { g with ayP:=g.ayP++[x],a:=a } (.osl q 7 0 (g.ayP.length+1)) w++[]):=by unfold mF;simp only;rw[e];exact V
 refine DH h4 (fun Y N=>y G _ w { g with ayP:=g.ayP++[x],a:=a } g.ayP.length x W (by simp) (by rw[hx]; omega) Y N) rfl ?_;rintro r B' L' H' ⟨rfl,R,S,rfl,rfl⟩ M;refine hK R S _ _ ?_ (M.sub (aDP ..) (by rw[aBN]; exact aCA.refl _));unfold fE;exact Lq
theorem JN {C:Ctx} (V:nD C) {l:List Nat} {v:PV} (T:Tp l v) (G:GE) (mc ayF dom n k:Nat) (hk:k<4) (X:ayF≤60) (hn:n≤10) (R:XS C l v mc ayF k) (s:GS) (hs:GOk l ayF s) (ζ:0<s.ayP.length) (N O:PV) (K:cN) (F:PF) (H:PH)
  (hF:(fE G dom ayF (4-k) n 0).le F) (E:aL H (G.boxes v mc N O s.a) (mF s N O))
  (hK:∀ e A B y H',(e=.exit 0∨e=.ret)→aL H' (G.boxes v mc A B (gV l (4-k) ayF dom (eZ l mc ayF k) s n).a) (mF (gV l (4-k) ayF dom (eZ l mc ayF k) s n) A B)→K e y H') :
  aE.wp C (.loop vX) K F H:=by
 obtain⟨j,U⟩:∃ j,j=4-k:=⟨_,rfl⟩;rw[← U] at hF hK;refine wp_loop (α:=Nat × PV × PV × PH) (fun t=>fE G dom ayF j n t.1) (fun t=>t.2.2.2) (fun t=>t.1≤n∧aL t.2.2.2 (G.boxes v mc t.2.1 t.2.2.1 (gV l j ayF dom (eZ l mc ayF k) s t.1).a) (mF (gV l j ayF dom (eZ l mc ayF k) s t.1) t.2.1 t.2.2.1)) (fun t=>n-t.1) (0,N,O,H) ⟨aAH _,E⟩ hF b_ ?_;rintro⟨i,N,O,H0⟩ ⟨hi,E⟩;simp only at hi E ⊢;obtain⟨Z,u,gu⟩:=UB (level:=j) (dom:=dom) (fun d t ht=>FW (mc:=mc) k d ht) hs i;have J:=fun h=>Tf (l:=l) (level:=j) (ayF:=ayF) (dom:=dom) (rec:=eZ l mc ayF k) (s:=s) (i:=i) h n hi;have x:gV l j ayF dom (eZ l mc ayF k) s (i+1)=(if pU ayF (gV l j ayF dom (eZ l mc ayF k) s i) then gV l j ayF dom (eZ l mc ayF k) s i else eZ l mc ayF k ((nH l j dom (gV l j ayF dom (eZ l mc ayF k) s i)).ayP.length-1) (nH l j dom (gV l j ayF dom (eZ l mc ayF k) s i))):=rfl;simp only[go_sem,vX,VB,fE];by_cases hlt:i<n
 ·have M:(i:Int)<(n:Nat):=Om;generalize hg:gV l j ayF dom (eZ l mc ayF k) s i=g at *
  have ε:0<g.ayP.length:=by rw[gu,azX]; omega
  have b1:=E.at 1 rfl;have lr:=(E.own 1 rfl).sZ;have ld:=(E.own 0 rfl).sZ;rw[azT] at lr ld;have ei:=wZz i;simp only[go_sem,M,VC,bB (Om:((j:Nat):Int)≠5),m9,b1,lr];by_cases c1:ayF≤g.ayZ.length
  ·have W:pU ayF g=true:=by unfold pU; simp[c1]
   simp only[go_sem,show (g.ayZ.length:Int)≥(ayF:Nat) by omega];exact hK _ N O _ _ (.inr rfl) (by rw[J W]; exact E)
  simp only[go_sem,show ¬ (g.ayZ.length:Int)≥(ayF:Nat) by omega,b1,ld];by_cases c2:35≤g.ayP.length
  ·have W:pU ayF g=true:=by unfold pU; simp[c2]
   simp only[go_sem,show (g.ayP.length:Int)≥35 by omega];exact hK _ N O _ _ (.inr rfl) (by rw[J W]; exact E)
  have W:pU ayF g=false:=by unfold pU; simp[c1,c2]
  rw[if_neg (by rw[W]; decide)] at x;simp only[go_sem,show ¬ (g.ayP.length:Int)≥35 by omega];have ls:=Xu (Om:j≤4);refine bO .nil (mkS l v) a_ ?_;have γ:pE [[PV.int IntKind.u8 (((lK j).toNat:Nat):Int)]]=some [lK j]:=by simp[pE]
  obtain⟨Y,x0,β,-⟩:=Ks (level:=j) (dom:=dom) Z W;have δ:(nH l j dom g).ayP.length-1=g.ayP.length:=by rw[β]; simp
  rw[δ] at x;have h1:=E.set 0 rfl (aX v (aD l 16 g.a).2);have a1:=bE l 16 Z.a;have n1:=cD l (show 0<16 by decide) g.a;have e1:IntKind.i64.wrap (1+((aD l 16 g.a).1:Int))=((1+(aD l 16 g.a).1:Nat):Int):=by rw[wrap_i64 Om Om]; omega
  simp only[go_sem,na,ls,γ,b1,ld];refine ET V.tosM (s:=[lK j]) (n:=g.ayP.length) (by simp) (by have:=Z.ayP; omega) rfl a_ ?_;simp only[go_sem];refine rC V.tozX T (o:=G.o) (n:=16) (a:=g.a) Om Z.a rfl (E.at 0 rfl) a_ ?_;simp only[go_sem,e1];refine ajE V.tozX (n:=0) (by unfold dS; omega) rfl a_ ?_;simp only[go_sem,aAD,aAP,or_false,forall_eq,forall_eq_or_imp];refine aP fun p hp=>?_;have h2:=h1.new hp (.rows 7 [(⟨[lK j]++bW g.ayP.length,(j:Nat),(dom:Nat),(1+(aD l 16 g.a).1:Nat),jX⟩:cS).cells]);simp only[go_sem,aAD,aAP,or_false,forall_eq,forall_eq_or_imp];refine⟨a_,?_⟩;simp only[go_sem,nb];refine dA V.tozX T (o:=G.o) (n:=3) (a:=(aD l 16 g.a).2) (by decide) a1 rfl (h2.at 0 rfl) ?_;have h3:=h2.set 0 rfl (aX v (aD l 3 (aD l 16 g.a).2).2);have a2:=bE l 3 a1;by_cases c3:(aD l 3 (aD l 16 g.a).2).1=0
  ·have hd:nH l j dom g={ g with ayP:=g.ayP++[⟨[lK j]++bW g.ayP.length,(j:Nat),(dom:Nat),(1+(aD l 16 g.a).1:Nat),mkT 1 ((2+(aD l 6 (aD l 3 (aD l 16 g.a).2).2).1:Nat):Int)⟩],a:=(aD l 6 (aD l 3 (aD l 16 g.a).2).2).2 }:=by unfold nH; simp only[c3,if_true]
   rw[hd] at x Y;have n2:=cD l (show 0<6 by decide) (aD l 3 (aD l 16 g.a).2).2;have e2:IntKind.i64.wrap (2+((aD l 6 (aD l 3 (aD l 16 g.a).2).2).1:Int))=((2+(aD l 6 (aD l 3 (aD l 16 g.a).2).2).1:Nat):Int):=by rw[wrap_i64 Om Om]; omega
   simp only[go_sem,bM (show (((aD l 3 (aD l 16 g.a).2).1:Nat):Int)=0 by omega),nc];refine dA V.tozX T (o:=G.o) (n:=6) (a:=(aD l 3 (aD l 16 g.a).2).2) (by decide) a2 rfl (h3.at 0 rfl) ?_;have h4:=h3.set 0 rfl (aX v (aD l 6 (aD l 3 (aD l 16 g.a).2).2).2);rw[PH.set_set] at h4;simp only[go_sem,e2];refine aB (V.fmk 1 ((2+(aD l 6 (aD l 3 (aD l 16 g.a).2).2).1:Nat):Int) (by unfold dS; omega) (by unfold dS; omega)) rfl ?_;unfold wC;rw[if_neg Om];simp only[go_sem,show ¬ p=G.o from h4.ne 2 0 rfl rfl (by decide)];have h5:=h4.set 2 rfl (.rows 7 [(⟨[lK j]++bW g.ayP.length,(j:Nat),(dom:Nat),(1+(aD l 16 g.a).1:Nat),mkT 1 ((2+(aD l 6 (aD l 3 (aD l 16 g.a).2).2).1:Nat):Int)⟩:cS).cells])
   try simp only[ka]
   refine QX G mc ayF dom j n i k p U hk R g _ _ Y rfl N O X _ _ _ (by unfold fE; exact Lq) rfl h5 ?_;intro A B y H' w I;rw[← x] at I;have S:y 10=some (.int .i64 i):=w 10 _ (by unfold fE; simp only[go_sem]);have g0:y 0=some (.ptr G.o 2 0 0):=w 0 _ (by unfold fE; simp only[go_sem]);have g1:y 1=some (.ptr G.fo 7 0 0):=w 1 _ (by unfold fE; simp only[go_sem]);have g2:y 2=some (.int .i64 dom):=w 2 _ (by unfold fE; simp only[go_sem]);have g3:y 3=some (.int .i64 ayF):=w 3 _ (by unfold fE; simp only[go_sem]);have g8:y 8=some (.int .i64 j):=w 8 _ (by unfold fE; simp only[go_sem]);have g9:y 9=some (.int .i64 n):=w 9 _ (by unfold fE; simp only[go_sem]);simp only[go_sem,vY,S,ei];refine aJ (i+1,A,B,H') ⟨hlt,I⟩ (by simp only; omega) ?_ b_;exact Lq
  ·have hd:nH l j dom g={ g with ayP:=g.ayP++[⟨[lK j]++bW g.ayP.length,(j:Nat),(dom:Nat),(1+(aD l 16 g.a).1:Nat),jX⟩],a:=(aD l 3 (aD l 16 g.a).2).2 }:=by unfold nH; simp only[c3,if_false]
   rw[hd] at x Y;simp only[go_sem,bB (show ¬ (((aD l 3 (aD l 16 g.a).2).1:Nat):Int)=0 by omega)]
   try simp only[ka]
   refine QX G mc ayF dom j n i k p U hk R g _ _ Y rfl N O X _ _ _ (by unfold fE; exact Lq) rfl h3 ?_;intro A B y H' w I;rw[← x] at I;have S:y 10=some (.int .i64 i):=w 10 _ (by unfold fE; simp only[go_sem]);have g0:y 0=some (.ptr G.o 2 0 0):=w 0 _ (by unfold fE; simp only[go_sem]);have g1:y 1=some (.ptr G.fo 7 0 0):=w 1 _ (by unfold fE; simp only[go_sem]);have g2:y 2=some (.int .i64 dom):=w 2 _ (by unfold fE; simp only[go_sem]);have g3:y 3=some (.int .i64 ayF):=w 3 _ (by unfold fE; simp only[go_sem]);have g8:y 8=some (.int .i64 j):=w 8 _ (by unfold fE; simp only[go_sem]);have g9:y 9=some (.int .i64 n):=w 9 _ (by unfold fE; simp only[go_sem]);simp only[go_sem,vY,S,ei];refine aJ (i+1,A,B,H') ⟨hlt,I⟩ (by simp only; omega) ?_ b_;exact Lq
 ·have M:¬ (i:Int)<(n:Nat):=Om;have:i=n:=Om;subst this;simp only[go_sem,M];exact hK _ N O _ _ (.inl rfl) E
theorem C5 {C:Ctx} (O:nD C) {l:List Nat} {v:PV} (T:Tp l v) (mc ayF k:Nat) (V:0<mc) (J:mc≤1000) (E:ayF≤60) (hk:k≤4) (M:∀ k',k=k'+1→XS C l v mc ayF k') (G:GE) (X N:PV) (s:GS) (dom:Nat) (x:cS)
  (R:GOk l ayF s) (Z:s.ayP[dom]?=some x) (hl:x.level=4-(k:Int)) (S:PH) (I:aL S (G.boxes v mc X N s.a) (mF s X N)) :
  xG.wp C (aS ut.res (fun r H'=>∃ B' L',R1 G v mc (eZ l mc ayF k dom s) r B' L'∧aL H' B' L')) (PF.args [.ptr G.o 2 0 0,.ptr G.fo 7 0 0,.int .i64 dom,.int .i64 ayF]) S:=by
 have B:dom<s.ayP.length:=(aAW.1 Z).1;have b1:=I.at 1 rfl;have fin:∀ (e:jZ) (j u:PV) (y:PF) (H':PH),(e=.exit 0∨e=.ret)→aL H' (G.boxes v mc j u (eZ l mc ayF k dom s).a) (mF (eZ l mc ayF k dom s) j u) →
   fZ 0 (aS ut.res (fun r H'=>∃ B' L',R1 G v mc (eZ l mc ayF k dom s) r B' L'∧aL H' B' L')) e y H':=by
  intro e j u y H' he w;rcases he with rfl | rfl
  ·rw[BD,if_pos rfl];exact aU (vs:=[]) (.inl rfl) H' rfl b_ ⟨_,_,⟨rfl,j,u,rfl,rfl⟩,w⟩
  ·exact aU (vs:=[]) (.inr rfl) H' rfl b_ ⟨_,_,⟨rfl,j,u,rfl,rfl⟩,w⟩
 obtain⟨q,rs,e1,e2,e3,e4⟩:∃ q rs,X=.osl q 7 0 s.ayP.length∧S q=some (.rows 7 rs)∧s.ayP.length≤rs.length∧rs.take s.ayP.length=kB s.ayP:=by
  rcases I.own 0 rfl with ⟨A,_⟩ | ⟨q,rs,A,h2,h3,h4⟩
  ·have:=congrArg List.length A;rw[azT] at this;simp at this; rw[this] at B; simp at B
  ·rw[azT] at A h3 h4;exact⟨q,rs,A,h2,h3,h4⟩
 have W:rs[dom]?=some x.cells:=by
  have:(kB s.ayP)[dom]?=some x.cells:=by simp[kB,Z]
  rw[← e4,List.getElem?_take_of_lt B] at this;exact this
 subst e1;have c1:(dom:Int)<(s.ayP.length:Nat):=Om;have ew:IntKind.i64.wrap (x.level+1)=((5-k:Nat):Int):=by rw[hl,wrap_i64 Om Om]; omega
 have β:=cD l (show 0<2 by decide) s.a;have en:IntKind.i64.wrap (1+((aD l 2 s.a).1:Int))=((1+(aD l 2 s.a).1:Nat):Int):=by rw[wrap_i64 Om Om]; omega
 have A:=I.set 0 rfl (aX v (aD l 2 s.a).2);have F:GOk l ayF { s with a:=(aD l 2 s.a).2 }:=⟨R.ayP,R.ayZ,bE l 2 R.a⟩;have α:¬ q=G.o:=fun h=>I.neL 0 0 rfl rfl rfl h.symm;simp only[go_sem,xG,C6,b1,c1,e2,W,ew,C7];refine dA O.tozX T (o:=G.o) (n:=2) (a:=s.a) (by decide) R.a (by simp only[go_sem]; rfl) (I.at 0 rfl) ?_;simp only[go_sem,en,C8];cases k with
 | zero =>
  simp only[go_sem,bB (Om:¬ ((5-0:Nat):Int)=2),HE];refine C4 (C:=C) O T G mc ayF dom (1+(aD l 2 s.a).1) V J E Om { s with a:=(aD l 2 s.a).2 } F _ N _ _ _ ?_ A ?_
  ·unfold fE;exact Lq
  ·intro j u y H' w;exact fin _ j u y H' (.inl rfl) w
 | succ k =>
  have K:=M k rfl;by_cases Y:4-k=2
  ·have U:eZ l mc ayF (k+1) dom s=gV l (4-k) ayF dom (eZ l mc ayF k) { s with a:=(aD l 2 s.a).2 } 1:=by simp only[eZ,if_pos Y]
   simp only[go_sem,bM (show ((5-(k+1):Nat):Int)=2 by omega),C9,HE];refine JN (C:=C) O T G mc ayF dom 1 k Om E (by decide) K { s with a:=(aD l 2 s.a).2 } F (by simp only; omega) _ N _ _ _ ?_ A ?_
   ·unfold fE
    (repeat' (first|exact c_|refine d_ ?_ ?_))<;>first|(simp only[go_sem,show 4-k=5-(k+1) by omega]<;>rfl)|rfl
   ·intro e j u y H' he w;rw[← U] at w;exact fin e j u y H' he w
  ·have U:eZ l mc ayF (k+1) dom s=gV l (4-k) ayF dom (eZ l mc ayF k) { s with a:=(aD l 2 s.a).2 } (1+(aD l 2 s.a).1):=by simp only[eZ,if_neg Y]
   simp only[go_sem,bB (show ¬ ((5-(k+1):Nat):Int)=2 by omega),HE];refine JN (C:=C) O T G mc ayF dom (1+(aD l 2 s.a).1) k Om E Om K { s with a:=(aD l 2 s.a).2 } F (by simp only; omega) _ N _ _ _ ?_ A ?_
   ·unfold fE
    (repeat' (first|exact c_|refine d_ ?_ ?_))<;>first|(simp only[go_sem,show 4-k=5-(k+1) by omega]<;>rfl)|rfl
   ·intro e j u y H' he w;rw[← U] at w;exact fin e j u y H' he w
theorem Ay {C:Ctx} (A:nD C) {l:List Nat} {v:PV} (T:Tp l v) (mc ayF:Nat) (w:0<mc) (j:mc≤1000) (u:ayF≤60)
  (B:∀ (args:List PV) (H:PH) (R:PV→PH→Prop),args.length=4→xG.wp C (aS ut.res R) (PF.args args) H→aG C 7 args H R):∀ k,k≤4→XS C l v mc ayF k
 | 0,h=>fun G K M s dom x I J F y E=>B _ _ _ rfl (C5 A T mc ayF 0 w j u h (fun _ e=>by omega) G K M s dom x I J F y E)
 | k+1,h=>fun G K M s dom x I J F y E=>B _ _ _ rfl (C5 A T mc ayF (k+1) w j u h (fun N e=>by have:N=k:=Om;subst this;exact Ay A T mc ayF w j u B N Om) G K M s dom x I J F y E)
theorem alD (l:List Nat) (dQ:Nat) {a:Nat} (h:a≤l.length):(qI l dQ a).2≤l.length:=(ii l (1+(aD l dQ a).1) (bE l dQ h) (1+(aD l dQ a).1)).1
theorem GI (l:List Nat) {a:Nat} (h:a≤l.length):∀ k,(hJ l a k).2≤l.length∧(hJ l a k).1.length=k
 | 0=>⟨h,rfl⟩
 | k+1=>by obtain⟨e,j⟩:=GI l h k;exact⟨alD l 2 e,by simp only[hJ,azX,aAC,j]⟩
theorem xI (l:List Nat) (ayN:Nat) {a:Nat} (h:a≤l.length):∀ k,(eQ l ayN a k).2≤l.length∧(eQ l ayN a k).1.length=k
 | 0=>⟨h,rfl⟩
 | k+1=>by obtain⟨e,j⟩:=xI l ayN h k;exact⟨bE l ayN (bE l 8 (bE l 4 e)),by simp only[eQ,azX,aAC,j]⟩
structure FE where
 o:Nat
 o6:Nat
 o7:Nat
 ayF:Nat
 ayH:Nat
abbrev flZ:bG:=flB (.int .i64 0) .aA .aA .aA .aA .aA .aA
abbrev FE.boxes (E:FE) (v ext e j l u w x:PV) (a:Nat):List BX:=[(E.o,aX v a),(E.o7,flB ext e j l u w x),(E.o6,flZ)]
def fW (E:FE):PF:=(((((PF.nil.set 0 (.ptr E.o 2 0 0)).set 1 (.int .i64 E.ayF)).set 2 (.int .i64 E.ayH)).set 6 (.ptr E.o6 7 0 0)).set 7 (.ptr E.o7 7 0 0))
abbrev iV (l:List cW):List (List PV):=l.map cW.cells
abbrev jY (l:List dT):List (List PV):=l.map dT.cells
theorem PR {E:FE} {F:PF} (e:F 0=some (.ptr E.o 2 0 0)) (j:F 1=some (.int .i64 E.ayF)) (l:F 2=some (.int .i64 E.ayH)) (u:F 6=some (.ptr E.o6 7 0 0)) (h7:F 7=some (.ptr E.o7 7 0 0)):(fW E).le F :=
 d_ (d_ (d_ (d_ (d_ c_ e) j) l) u) h7
theorem adW {C:Ctx} (N:nD C) {l:List Nat} {v:PV} (T:Tp l v) (E:FE) (n a:Nat) (hn:n≤10) (Y:a≤l.length) (ext:PV) (K:cN) (F:PF) (H:PH)
  (W:(((fW E).set 8 (.int .i64 n)).set 9 (.int .i64 0)).le F) (x:aL H (E.boxes v ext .aA .aA .aA .aA .aA .aA a) [])
  (X:∀ I M H',(fW E).le M→aL H' (E.boxes v ext I .aA .aA .aA .aA .aA (hJ l a n).2) [(I,4,iV (hJ l a n).1)]→K (.exit 0) M H') :
  aE.wp C (.loop LX) K F H:=by
 refine wp_loop (α:=Nat × PV × PH) (fun t=>((fW E).set 8 (.int .i64 n)).set 9 (.int .i64 t.1)) (fun t=>t.2.2) (fun t=>t.1≤n∧aL t.2.2 (E.boxes v ext t.2.1 .aA .aA .aA .aA .aA (hJ l a t.1).2) [(t.2.1,4,iV (hJ l a t.1).1)]) (fun t=>n-t.1) (0,.aA,H) ⟨aAH _,x.mY 4⟩ W b_ ?_;rintro⟨i,I,H0⟩ ⟨hi,x⟩;simp only at hi x ⊢;obtain⟨k1,k2⟩:=GI l Y i;have w:hJ l a (i+1)=((hJ l a i).1++[{ (qI l 2 (hJ l a i).2).1 with name:=[108,97,119]++bW i }],(qI l 2 (hJ l a i).2).2):=rfl;simp only[go_sem,LX,mz,fW];by_cases hlt:i<n
 ·have j:(i:Int)<(n:Nat):=Om;generalize hg:hJ l a i=g at *
  simp only[go_sem,j,m5];refine lJ (N.law l v T E.o 2 g.2 (by decide) (by decide) k1) (x.at 0 rfl) rfl ?_;have U:=x.set 0 rfl (aX v (qI l 2 g.2).2);generalize hz:qI l 2 g.2=z at *
  simp only[go_sem];refine aP fun p Z=>?_;have V:=U.new Z (.rows 4 [z.1.cells]);simp only[go_sem,m6,aAD,aAP,or_false,forall_eq,forall_eq_or_imp];refine aB (N.name [108,97,119] i (by decide) Om) rfl ?_;have y:=V.set 3 rfl (.rows 4 [({ z.1 with name:=[108,97,119]++bW i }:cW).cells]);rw[PH.set_set] at y;have O:=y.at 1 rfl;have A:¬ E.o7=p:=y.ne 1 3 rfl rfl (by decide);have u:¬ E.o7=E.o:=y.ne 1 0 rfl rfl (by decide);simp only[aQ,if_neg A,if_neg u] at O;have J:(1:Nat)*4≤16777216:=by decide
  simp only[go_sem,m7,A,u,O,J,aAD,aAP,or_false,forall_eq,forall_eq_or_imp];refine y.append 0 (src:=[({ z.1 with name:=[108,97,119]++bW i }:cW).cells]) rfl rfl (by unfold roomFor; rw[azT]; simp only[aAC,maxLen]; omega) fun w' H2 R hw=>?_;obtain⟨q,rfl⟩:=hw (by simp);have S:=R.at 1 rfl;simp only[go_sem,S,aAD,aAP,or_false,forall_eq];have h5:=R.set 1 rfl (flB ext (.osl q 4 0 (iV g.1++[({ z.1 with name:=[108,97,119]++bW i }:cW).cells]).length) .aA .aA .aA .aA .aA);simp only[go_sem,m8,wZz i];refine aJ (i+1,.osl q 4 0 (iV g.1++[({ z.1 with name:=[108,97,119]++bW i }:cW).cells]).length,_) ⟨hlt,?_⟩ (by simp only; omega) ?_ b_
  ·rw[w];have e:iV (g.1++[{ z.1 with name:=[108,97,119]++bW i }])=iV g.1++[({ z.1 with name:=[108,97,119]++bW i }:cW).cells]:=by simp[iV]
   simp only;rw[e];exact h5.dropLast (B:=E.boxes v ext _ .aA .aA .aA .aA .aA z.2)
  ·exact Lq
 ·have j:¬ (i:Int)<(n:Nat):=Om;have:i=n:=Om;subst this;simp only[go_sem,j];exact X I _ _ (PR rfl rfl rfl rfl rfl) x
theorem Tz {C:Ctx} (R:nD C) {l:List Nat} {v:PV} (T:Tp l v) (E:FE) (n a nl:Nat) (hn:n≤10) (β:nl≤1000) (ha:a≤l.length) (ext u:PV) (ayN:List cW) (W:ayN.length=nl) (K:cN) (F:PF) (H:PH)
  (hF:(((fW E).set 11 (.int .i64 n)).set 12 (.int .i64 0)).le F) (w:aL H (E.boxes v ext u .aA .aA .aA .aA .aA a) [(u,4,iV ayN)])
  (hK:∀ I S H',(fW E).le S→S 11=some (.int .i64 n)→aL H' (E.boxes v ext u I .aA .aA .aA .aA (eQ l nl a n).2) [(u,4,iV ayN),(I,4,jY (eQ l nl a n).1)]→K (.exit 2) S H') :
  aE.wp C (.loop GR) K F H:=by
 refine wp_loop (α:=Nat × PV × PH) (fun t=>((fW E).set 11 (.int .i64 n)).set 12 (.int .i64 t.1)) (fun t=>t.2.2) (fun t=>t.1≤n∧aL t.2.2 (E.boxes v ext u t.2.1 .aA .aA .aA .aA (eQ l nl a t.1).2) [(u,4,iV ayN),(t.2.1,4,jY (eQ l nl a t.1).1)]) (fun t=>n-t.1) (0,.aA,H) ⟨aAH _,w.mY 4⟩ hF b_ ?_;rintro⟨i,I,H0⟩ ⟨hi,w⟩;simp only at hi w ⊢;obtain⟨k1,k2⟩:=xI l nl ha i;have A:eQ l nl a (i+1)=((eQ l nl a i).1++[⟨[109]++bW i,(1+(aD l 4 (eQ l nl a i).2).1:Nat),(1+(aD l 8 (aD l 4 (eQ l nl a i).2).2).1:Nat),((aD l nl (aD l 8 (aD l 4 (eQ l nl a i).2).2).2).1:Nat)⟩],(aD l nl (aD l 8 (aD l 4 (eQ l nl a i).2).2).2).2):=rfl;simp only[go_sem,GR,ZV,fW];by_cases hlt:i<n
 ·have j:(i:Int)<(n:Nat):=Om;generalize hg:eQ l nl a i=g at *
  have hx:=cD l (show 0<4 by decide) g.2;have X:=bE l 4 k1;have hy:=cD l (show 0<8 by decide) (aD l 4 g.2).2;have Y:=bE l 8 X;have az:=bE l nl Y;have U:=w.set 0 rfl (aX v (aD l 4 g.2).2);have B:=U.set 0 rfl (aX v (aD l 8 (aD l 4 g.2).2).2);have h3:=B.set 0 rfl (aX v (aD l nl (aD l 8 (aD l 4 g.2).2).2).2);generalize M:aD l 4 g.2=x at *
  generalize N:aD l 8 x.2=y at *
  generalize O:aD l nl y.2=z at *
  have b1:=w.at 1 rfl;have lw:=(w.own 0 rfl).sZ;rw[azT,W] at lw;have J:(PH.nil.set E.o7 (flB ext u I .aA .aA .aA .aA)).le H0:=e_ a_ b1;have ex:IntKind.i64.wrap (1+(x.1:Int))=((1+x.1:Nat):Int):=by rw[wrap_i64 Om Om]; omega
  have ey:IntKind.i64.wrap (1+(y.1:Int))=((1+y.1:Nat):Int):=by rw[wrap_i64 Om Om]; omega
  simp only[go_sem,j];refine bO (PH.nil.set E.o7 (flB ext u I .aA .aA .aA .aA)) (mkS l v) J ?_;simp only[go_sem,ZW];refine ET R.tosM (s:=[109]) (n:=i) (by decide) Om rfl J ?_;simp only[go_sem];refine rC R.tozX T (o:=E.o) (n:=4) (a:=g.2) (by decide) k1 rfl (w.at 0 rfl) ?_ ?_
  ·rw[M]; exact e_ a_ (U.at 1 rfl)
  rw[M];simp only[go_sem,ex];refine rC R.tozX T (o:=E.o) (n:=8) (a:=x.2) (by decide) X rfl (U.at 0 rfl) ?_ ?_
  ·rw[N]; exact e_ a_ (B.at 1 rfl)
  rw[N];simp only[go_sem,ey,lw];rw[PH.set_set] at B;refine rC R.tozX T (o:=E.o) (n:=nl) (a:=y.2) Om Y rfl (B.at 0 rfl) ?_ ?_
  ·rw[O]; exact e_ a_ ((B.set 0 rfl (aX v z.2)).at 1 rfl)
  rw[O];have h4:=B.set 0 rfl (aX v z.2);have V:(1:Nat)*4≤16777216:=by decide
  simp only[go_sem,V,aAD,aAP,or_false,forall_eq,forall_eq_or_imp];rw[PH.set_set] at h4;refine h4.append 1 (src:=[(⟨[109]++bW i,(1+x.1:Nat),(1+y.1:Nat),(z.1:Nat)⟩:dT).cells]) rfl rfl (by unfold roomFor; rw[azT]; simp only[aAC,maxLen]; omega) fun w' H2 h5 hw=>?_;obtain⟨q,rfl⟩:=hw (by simp);have Z:=h5.at 1 rfl;refine⟨e_ a_ Z,?_⟩;refine bO .nil dE a_ ?_;simp only[go_sem,ZX,Z,aAD,aAP,or_false,forall_eq];have h6:=h5.set 1 rfl (flB ext u (.osl q 4 0 (jY g.1++[(⟨[109]++bW i,(1+x.1:Nat),(1+y.1:Nat),(z.1:Nat)⟩:dT).cells]).length) .aA .aA .aA .aA);refine⟨a_,?_⟩;simp only[go_sem,ZY,wZz i];refine aJ (i+1,.osl q 4 0 (jY g.1++[(⟨[109]++bW i,(1+x.1:Nat),(1+y.1:Nat),(z.1:Nat)⟩:dT).cells]).length,_) ⟨hlt,?_⟩ (by simp only; omega) ?_ b_
  ·rw[A];have e:jY (g.1++[⟨[109]++bW i,(1+x.1:Nat),(1+y.1:Nat),(z.1:Nat)⟩])=jY g.1++[(⟨[109]++bW i,(1+x.1:Nat),(1+y.1:Nat),(z.1:Nat)⟩:dT).cells]:=by simp[jY]
   simp only;rw[e];exact h6
  ·exact Lq
 ·have j:¬ (i:Int)<(n:Nat):=Om;have:i=n:=Om;subst this;simp only[go_sem,j];exact hK I _ _ (PR rfl rfl rfl rfl rfl) rfl w
abbrev wN (x:cX) (w:PV):List PV:=[.str x.name,.int .i64 x.k,.int .i64 x.m,.int .i64 x.azE,.int .i64 x.s0,.int .i64 x.s1,.int .i64 x.s2,.int .i64 x.s3,.int .i64 x.s4,w,frs x.repair,
 .bool x.target.neg,aI x.target.num,aI x.target.den,.bool x.ayQ.neg,aI x.ayQ.num,aI x.ayQ.den]
def io (E:FE) (mc n i:Nat):PF:=(((fW E).set 11 (.int .i64 mc)).set 13 (.int .i64 n)).set 14 (.int .i64 i)
structure PAt (E:FE) (mc n i:Nat) (F:PF):Prop where
 f0:F 0=some (.ptr E.o 2 0 0)
 f1:F 1=some (.int .i64 E.ayF)
 f2:F 2=some (.int .i64 E.ayH)
 f6:F 6=some (.ptr E.o6 7 0 0)
 f7:F 7=some (.ptr E.o7 7 0 0)
 f11:F 11=some (.int .i64 mc)
 f13:F 13=some (.int .i64 n)
 f14:F 14=some (.int .i64 i)
def qK (l:List Nat) (a:Nat):Nat→List Int × Nat
 | 0=>([],a)
 | j+1=>let s:=qK l a j
  let t:=hQ l s.2
  (s.1++[t.1],t.2)
theorem tO (l:List Nat) {a:Nat} (h:a≤l.length):(hQ l a).2≤l.length:=by
 unfold hQ;simp only;split
 ·exact bE l 3 (bE l 3 h)
 ·exact bE l 3 h
theorem ju (l:List Nat) {a:Nat} (h:a≤l.length):∀ j,(qK l a j).2≤l.length∧(qK l a j).1.length=j
 | 0=>⟨h,rfl⟩
 | j+1=>by obtain⟨e,u⟩:=ju l h j;exact⟨tO l e,by simp only[qK,azX,aAC,u]⟩
abbrev qJ (pre post:List PV) (s:List Int):List PV:=pre++(s.map fun x=>PV.int .i64 x)++azV (4-s.length) (.int .i64 0)++post
theorem anH {pre post:List PV} {s:List Int} (e:pre.length=5) (l:s.length<4) (x:Int):(qJ pre post s).set (5+s.length) (.int .i64 x)=qJ pre post (s++[x]):=by
 obtain⟨k,j⟩:∃ k,4-s.length=k+1:=⟨3-s.length,by omega⟩;unfold qJ;rw[azX,aAC,show 4-(s.length+1)=k by omega,j,List.replicate_succ,aBL,aBA,aCH];rw[List.set_append_left _ _ (by simp[e]),aDJ _ _ (by simp[e])];have:5+s.length-(pre++s.map fun x=>PV.int .i64 x).length=0:=by simp[e]
 rw[this,List.set_cons_zero];simp
theorem agE {pre post:List PV} {s:List Int} (j:pre.length=5) (l:s.length<4):qJ pre post s=qJ pre post (s++[0]):=by
 obtain⟨k,e⟩:∃ k,4-s.length=k+1:=⟨3-s.length,by omega⟩;unfold qJ;rw[azX,aAC,show 4-(s.length+1)=k by omega,e,List.replicate_succ,aBL,aBA,aCH];simp
theorem T0 {C:Ctx} (Lb:nD C) {l:List Nat} {v:PV} (T:Tp l v) (E:FE) (mc n i a p:Nat) (ha:a≤l.length) (B:List BX) (L:List LI) (pre post:List PV) (e:pre.length=5) (A:post.length=8) (K:cN) (F:PF) (H:PH)
  (w:PAt E mc n i F) (U:F 15=some (.ptr p 17 0 0)) (V:F 16=some (.int .i64 1)) (I:aL H ((E.o,aX v a)::B++[(p,.rows 17 [qJ pre post []])]) L)
  (hK:∀ R H',PAt E mc n i R→R 15=some (.ptr p 17 0 0)→aL H' ((E.o,aX v (qK l a 4).2)::B++[(p,.rows 17 [qJ pre post (qK l a 4).1])]) L→K (.exit 6) R H') :
  aE.wp C (.loop xA) K F H:=by
 refine wp_loop (α:=Nat × PH) (fun t=>((io E mc n i).set 15 (.ptr p 17 0 0)).set 16 (.int .i64 (t.1+1:Nat))) (fun t=>t.2) (fun t=>t.1≤4∧aL t.2 ((E.o,aX v (qK l a t.1).2)::B++[(p,.rows 17 [qJ pre post (qK l a t.1).1])]) L) (fun t=>4-t.1) (0,H) ⟨aAH _,I⟩ ?_ b_ ?_
 ·unfold io fW
  (repeat' (first|exact c_|refine d_ ?_ ?_))<;>first|(simp only[go_sem,w.f0,w.f1,w.f2,w.f6,w.f7,w.f11,w.f13,w.f14,U,V]<;>rfl)|rfl
 rintro⟨j,H0⟩ ⟨hj,I⟩;simp only at hj I ⊢;obtain⟨k1,k2⟩:=ju l ha j;have u:qK l a (j+1)=((qK l a j).1++[(hQ l (qK l a j).2).1],(hQ l (qK l a j).2).2):=rfl;simp only[go_sem,xA,ao,io,fW];by_cases hlt:j<4
 ·generalize hg:qK l a j=g at *
  have ei:=dP (Om:j+1<9223372036854775807);simp only[go_sem,show ((j+1:Nat):Int)<5 by omega,ap];refine dA Lb.tozX T (o:=E.o) (n:=3) (a:=g.2) (by decide) k1 (by simp only[go_sem]; rfl) (I.at 0 rfl) ?_;have N:aL _ ((E.o,aX v (aD l 3 g.2).2)::B++[(p,.rows 17 [qJ pre post g.1])]) L:=I.set 0 rfl (aX v (aD l 3 g.2).2);by_cases c:(aD l 3 g.2).1=0
  ·have Z:hQ l g.2=(((1+(aD l 3 (aD l 3 g.2).2).1:Nat):Int),(aD l 3 (aD l 3 g.2).2).2):=by unfold hQ; simp only[c,if_true]
   have n2:=cD l (show 0<3 by decide) (aD l 3 g.2).2;have e2:IntKind.i64.wrap (1+((aD l 3 (aD l 3 g.2).2).1:Int))=((1+(aD l 3 (aD l 3 g.2).2).1:Nat):Int):=by rw[wrap_i64 Om Om]; omega
   simp only[go_sem,bM (show (((aD l 3 g.2).1:Nat):Int)=0 by omega),au];refine dA Lb.tozX T (o:=E.o) (n:=3) (a:=(aD l 3 g.2).2) (by decide) (bE l 3 k1) (by simp only[go_sem]; rfl) (N.at 0 rfl) ?_;have O:aL _ ((E.o,aX v (aD l 3 (aD l 3 g.2).2).2)::B++[(p,.rows 17 [qJ pre post g.1])]) L:=N.set 0 rfl (aX v (aD l 3 (aD l 3 g.2).2).2);have S:=O.mM;rw[PH.set_set] at S O;have M:¬ p=E.o:=fun h=>by have Y:=O.ndB;simp[eA,h] at Y
   simp only[aQ,if_neg M] at S;have X:((j+1:Nat):Int)<((5:Nat):Int):=Om;have W:(0:Int)≤((j+1:Nat):Int):=Om;have β:(qJ pre post g.1).length=17:=by simp[qJ,e,A,k2]; omega
   have x:=anH (pre:=pre) (post:=post) (s:=g.1) e Om ((1+(aD l 3 (aD l 3 g.2).2).1:Nat):Int);rw[k2] at x;have J:4+(j+1)*1=5+j:=Om;have y:5+j+1≤17:=Om;simp only[go_sem,e2,X,W,J,M,S,y,aAD,aAP,or_false,forall_eq,x,GY,ei];refine aJ (j+1,_) ⟨hlt,?_⟩ (by simp only; omega) ?_ b_
   ·rw[u,Z];exact O.rZ _
   ·exact Lq
  ·have Z:hQ l g.2=(0,(aD l 3 g.2).2):=by unfold hQ; simp only[c,if_false]
   simp only[go_sem,bB (show ¬ (((aD l 3 g.2).1:Nat):Int)=0 by omega),GY,ei];refine aJ (j+1,_) ⟨hlt,?_⟩ (by simp only; omega) ?_ b_
   ·rw[agE (pre:=pre) (post:=post) (s:=g.1) e Om] at N;rw[u,Z];exact N
   ·exact Lq
 ·have:j=4:=Om;subst this;simp only[go_sem,show ¬ ((4+1:Nat):Int)<5 by decide];exact hK _ _ ⟨by simp only[go_sem],by simp only[go_sem],by simp only[go_sem],by simp only[go_sem],by simp only[go_sem],by simp only[go_sem],by simp only[go_sem],by simp only[go_sem]⟩ Sq I
theorem aL.pD {E:FE} {v ext e j l u w x:PV} {a:Nat} {H:PH} {B:List BX} {L:List LI} (h:aL H (E.boxes v ext e j l u w x a++B) L) (b:Nat):aL (H.set E.o (aX v b)) (E.boxes v ext e j l u w x b++B) L:=h.set 0 rfl _
abbrev WT (s:List UInt8) (k m q:Int) (w r e j l:PV) (h:RF):List PV:=[.str s,.int .i64 k,.int .i64 m,.int .i64 q,.int .i64 0,.int .i64 0,.int .i64 0,.int .i64 0,.int .i64 0,w,r,e,j,l,.bool h.neg,aI h.num,aI h.den]
theorem adX {C : Ctx} (Lb : nD C) {l : List Nat} {v : PV} (T : Tp l v) (E : FE) (mc n i a : Nat) (ha : a ≤ l.length) (hi : i < 50) (ext w1 w2 w3 w4 w5 w6 : PV) (L : List LI) (rest : aE) (K : cN) (F : PF) (H : PH)
    (hF : PAt E mc n i F) (hH : aL H (E.boxes v ext w1 w2 w3 w4 w5 w6 a) L)
    (hK : ∀ p F' H', PAt E mc n i F' → F' 15 = some (.ptr p 17 0 0) →
      (let k := aD l 2 a; let m := aD l 3 k.2; let h := aD l 4 m.2; let q := aD l (m.1 + 1) h.2; let r := kD l q.2 (max m.1 1); let g := aD l 9 r.2
       aL H' (E.boxes v ext w1 w2 w3 w4 w5 w6 g.2 ++ [(p, .rows 17 [qJ [.str ([112] ++ bW i), .int .i64 (1 + k.1 : Nat), .int .i64 (m.1 : Nat), .int .i64 (1 + k.1 + q.1 : Nat), .int .i64 0]
        ([.aA, frs r.1] ++ (mkT (g.1 : Nat) 8).cells ++ (mkT ((1 + h.1 : Nat) : Int) 1).cells) []])]) L) → aE.wp C rest K F' H') :
    aE.wp C (.seq (.region GW) (.seq (.seq (.draw xB) (.draw xC)) (.seq (.region xD) (.seq (.region xE) rest)))) K F H := by
  obtain ⟨f0, f1, f2, f6, f7, f11, f13, f14⟩ := hF;have nk := cD l (show 0 < 2 by decide) a;have ak := bE l 2 ha;have nm := cD l (show 0 < 3 by decide) (aD l 2 a).2;have am := bE l 3 ak;simp only at hK;generalize hk : aD l 2 a = k at *
  generalize hm : aD l 3 k.2 = m at *
  have nh := cD l (show 0 < 4 by decide) m.2;have ah := bE l 4 am;generalize hh : aD l 4 m.2 = h at *
  have nq := cD l (Om : 0 < m.1 + 1) h.2;have aq := bE l (m.1 + 1) ah;generalize hq : aD l (m.1 + 1) h.2 = q at *
  have ar := EC l aq (max m.1 1);generalize hr : kD l q.2 (max m.1 1) = r at *
  have ng := cD l (show 0 < 9 by decide) r.2;have ag := bE l 9 ar;generalize hg : aD l 9 r.2 = g at *
  have ek : IntKind.i64.wrap (1 + (k.1 : Int)) = ((1 + k.1 : Nat) : Int) := by rw [wrap_i64 Om Om]; omega
  have eh : IntKind.i64.wrap (1 + (h.1 : Int)) = ((1 + h.1 : Nat) : Int) := by rw [wrap_i64 Om Om]; omega
  have em : IntKind.i64.wrap ((m.1 : Int) + 1) = ((m.1 + 1 : Nat) : Int) := dP Om;have eq' : IntKind.i64.wrap (((1 + k.1 : Nat) : Int) + (q.1 : Int)) = ((1 + k.1 + q.1 : Nat) : Int) := by rw [wrap_i64 Om Om]; omega
  have h0 : aL H (E.boxes v ext w1 w2 w3 w4 w5 w6 a ++ []) L := by rw [aBN]; exact hH
  simp only[go_sem,GW,f14];refine aB (Lb.name [112] i (by decide) Om) rfl ?_;simp only[go_sem,f0];refine dA Lb.tozX T (o := E.o) (n := 2) (a := a) (by decide) ha rfl (h0.at 0 rfl) ?_;have g1 := h0.pD k.2;rw [hk];simp only[go_sem,ek,f0];refine dA Lb.tozX T (o := E.o) (n := 3) (a := k.2) (by decide) ak rfl (g1.at 0 rfl) ?_;have g2 := g1.pD m.2;rw [hm];rw [PH.set_set] at g2;simp only[go_sem,f0];refine dA Lb.tozX T (o := E.o) (n := 4) (a := m.2) (by decide) am rfl (g2.at 0 rfl) ?_;have g3 := g2.pD h.2;rw [hh];rw [PH.set_set] at g3;simp only[go_sem,eh];refine aB (Lb.int ((1 + h.1 : Nat) : Int) (by unfold dS; omega)) rfl ?_;simp only[go_sem,aAD,aAP,or_false,forall_eq,forall_eq_or_imp];refine aP fun p hp => ?_;have g4 := g3.new hp (.rows 17 [WT ([112] ++ bW i) (1 + k.1 : Nat) (m.1 : Nat) 0 .aA .aA (.bool false) .aA .aA (mkT ((1 + h.1 : Nat) : Int) 1)]);have hpo : ¬ p = E.o := g4.ne 3 0 rfl rfl (by decide);have hop : ¬ E.o = p := fun e => hpo e.symm;have q2 : ∀ (F2 : PF) (H2 : PH), PAt E mc n i F2 → F2 15 = some (.ptr p 17 0 0) → aL H2 (E.boxes v ext w1 w2 w3 w4 w5 w6 h.2 ++ [(p, .rows 17 [WT ([112] ++ bW i) (1 + k.1 : Nat) (m.1 : Nat) 0 .aA .aA (.bool false) .aA .aA (mkT ((1 + h.1 : Nat) : Int) 1)])]) L →
      aE.wp C (.seq (.seq (.draw xB) (.draw xC)) (.seq (.region xD) (.seq (.region xE) rest))) K F2 H2 := by
    intro F2 H2 hF2 f15 hH2;obtain ⟨f0, f1, f2, f6, f7, f11, f13, f14⟩ := hF2;have bp := hH2.at 3 rfl;have hHs : (PH.nil.set p (.rows 17 [WT ([112] ++ bW i) (1 + k.1 : Nat) (m.1 : Nat) 0 .aA .aA (.bool false) .aA .aA (mkT ((1 + h.1 : Nat) : Int) 1)])).le H2 := e_ a_ bp;simp only[go_sem];refine bO _ (mkS l v) hHs ?_;simp only[go_sem,xB,f15,bp,em,f0];refine rC Lb.tozX T (o := E.o) (n := m.1 + 1) (a := h.2) Om ah rfl (hH2.at 0 rfl) ?_ ?_
    · rw [hq]; exact e_ a_ ((hH2.pD q.2).at 3 rfl)
    rw [hq];have g5 := hH2.pD q.2;simp only[go_sem,eq',f15];refine bO .nil dE a_ ?_;simp only[go_sem,xC,hpo,bp];refine ⟨a_, ?_⟩;have g6 : aL _ (E.boxes v ext w1 w2 w3 w4 w5 w6 q.2 ++ [(p, .rows 17 [WT ([112] ++ bW i) (1 + k.1 : Nat) (m.1 : Nat) (1 + k.1 + q.1 : Nat) .aA .aA (.bool false) .aA .aA (mkT ((1 + h.1 : Nat) : Int) 1)])]) L := g5.set 3 rfl (.rows 17 [WT ([112] ++ bW i) (1 + k.1 : Nat) (m.1 : Nat) (1 + k.1 + q.1 : Nat) .aA .aA (.bool false) .aA .aA (mkT ((1 + h.1 : Nat) : Int) 1)]);have bq := g6.at 3 rfl;simp only[go_sem,xD,f0,f15];refine lJ (Lb.rep l v T E.o q.2 m.1 Om aq) (g6.at 0 rfl) rfl ?_;have g7 := g6.pD r.2;rw [hr];simp only[go_sem,hpo,f15];have g8 : aL _ (E.boxes v ext w1 w2 w3 w4 w5 w6 r.2 ++ [(p, .rows 17 [WT ([112] ++ bW i) (1 + k.1 : Nat) (m.1 : Nat) (1 + k.1 + q.1 : Nat) .aA (frs r.1) (.bool false) .aA .aA (mkT ((1 + h.1 : Nat) : Int) 1)])]) L := g7.set 3 rfl (.rows 17 [WT ([112] ++ bW i) (1 + k.1 : Nat) (m.1 : Nat) (1 + k.1 + q.1 : Nat) .aA (frs r.1) (.bool false) .aA .aA (mkT ((1 + h.1 : Nat) : Int) 1)]);simp only[go_sem,xE,f0];refine dA Lb.tozX T (o := E.o) (n := 9) (a := r.2) (by decide) ar rfl (g8.at 0 rfl) ?_;have g9 := g8.pD g.2;rw [hg];simp only[go_sem];refine aB (Lb.fmk (g.1 : Int) 8 (by unfold dS; omega) (by unfold dS; omega)) rfl ?_;unfold wC;rw [if_neg (by decide)];simp only[go_sem,f15,hpo];have g10 := g9.set 3 rfl (.rows 17 [qJ [.str ([112] ++ bW i), .int .i64 (1 + k.1 : Nat), .int .i64 (m.1 : Nat), .int .i64 (1 + k.1 + q.1 : Nat), .int .i64 0]
        ([.aA, frs r.1] ++ (mkT (g.1 : Nat) 8).cells ++ (mkT ((1 + h.1 : Nat) : Int) 1).cells) []])
    refine hK p _ _ ⟨by simp only[go_sem,f0], by simp only[go_sem,f1], by simp only[go_sem,f2], by simp only[go_sem,f6], by simp only[go_sem,f7], by simp only[go_sem,f11], by simp only[go_sem,f13], by simp only[go_sem,f14]⟩ (by simp only[go_sem,f15]) g10
  simp only [aE.wp, go_sem] at q2;simp only[go_sem,aAD,aAP,or_false,forall_eq,forall_eq_or_imp];exact q2 _ _ ⟨by simp only[go_sem,f0], by simp only[go_sem,f1], by simp only[go_sem,f2], by simp only[go_sem,f6], by simp only[go_sem,f7], by simp only[go_sem,f11], by simp only[go_sem,f13], by simp only[go_sem,f14]⟩ rfl g4
abbrev FE.lists (x y A B E:PV) (l:List cW) (u:List dT) (e:List cS) (j:List dL) (w:List (List PV)):List LI:=[(x,4,iV l),(y,4,jY u),(A,7,kB e),(B,3,mN j),(E,17,w)]
theorem adY {C:Ctx} (Lb:nD C) {l:List Nat} {v:PV} (T:Tp l v) (E:FE) (mc n i a:Nat) (ha:a≤l.length) (η:0<mc) (μ:mc≤50) (ext y A B I w5:PV) (lw:List cW) (md:List dT) (dm:List cS) (dv:List dL) (pr:List (List PV)) (ρ:pr.length≤50)
  (s:List UInt8) (k m q:Int) (r t h:RF) (M:List RF) (p:Nat) (K:cN) (F:PF) (H:PH)
  (hF:PAt E mc n i F) (u:F 15=some (.ptr p 17 0 0))
  (hH:aL H (E.boxes v ext y A B I w5 .aA a++[(p,.rows 17 [qJ [.str s,.int .i64 k,.int .i64 m,.int .i64 q,.int .i64 0] ([.aA,frs M]++t.cells++h.cells) []])]) (FE.lists y A B I w5 lw md dm dv pr))
  (V:(let J:=qK l a 4; let f:=aD l mc J.2; let b:=aD l 2 f.2
   let ms:List Int × Nat:=if 1<mc then (if b.1=0 then ([(f.1:Int),1-(f.1:Int)],b.2) else ([(f.1:Int)],b.2)) else ([(f.1:Int)],f.2)
   ∀ (w j:PV) (W:PF) (H':PH) (B':List BX),PAt E mc n i W→(∃ o,w=.osl o 1 0 ms.1.length)→aL H' (E.boxes v ext y A B I j .aA ms.2++B')
    (FE.lists y A B I j lw md dm dv (pr++[wN ⟨s,k,m,q,0,(J.1.getD 0 0),(J.1.getD 1 0),(J.1.getD 2 0),(J.1.getD 3 0),ms.1,M,t,h⟩ w])++[(w,1,cO ms.1)])→K .normal W H')) :
  aE.wp C (.seq (.seq (.region GX) (.block 6 (.loop xA))) (.seq (.region GZ) (.seq (.region HA) (.seq (.seq (.region HB) (.cond (.tmp 143) (.region HC) .skip)) (.region xF))))) K F H:=by
 obtain⟨f0,f1,f2,f6,f7,f11,f13,f14⟩:=hF;simp only[go_sem,GX];refine T0 (C:=C) Lb T E mc n i a p ha [(E.o7,flB ext y A B I w5 .aA),(E.o6,flZ)] _ _ _ rfl rfl _ _ H ⟨by simp only[go_sem,f0],by simp only[go_sem,f1],by simp only[go_sem,f2],by simp only[go_sem,f6],by simp only[go_sem,f7],by simp only[go_sem,f11],by simp only[go_sem,f13],by simp only[go_sem,f14]⟩ (by simp only[go_sem,u]) rfl hH ?_;clear f0 f1 f2 f6 f7 f11 f13 f14 u hH;intro F1 H1 ε u x;obtain⟨f0,f1,f2,f6,f7,f11,f13,f14⟩:=ε;obtain⟨α,ls⟩:=ju l ha 4;have ι:∃ N O R S,(qK l a 4).1=[N,O,R,S]:=⟨_,_,_,_,rfl⟩;simp only at V;generalize ν:qK l a 4=J at *
 obtain⟨N,O,R,S,hx⟩:=ι;rw[hx] at V x;replace x:aL H1 (E.boxes v ext y A B I w5 .aA J.2++[(p,.rows 17 [wN ⟨s,k,m,q,0,N,O,R,S,[],M,t,h⟩ .aA])]) (FE.lists y A B I w5 lw md dm dv pr):=x;have nf:=cD l η J.2;have af:=bE l mc α;generalize hf:aD l mc J.2=f at *
 have ab:=bE l 2 af;generalize hb:aD l 2 f.2=b at *
 have Z:¬ p=E.o:=x.ne 3 0 rfl rfl (by decide);have θ:¬ p=E.o7:=x.ne 3 1 rfl rfl (by decide);have ο:¬ E.o7=p:=fun e=>θ e.symm;have ξ:¬ E.o7=E.o:=x.ne 1 0 rfl rfl (by decide);simp only[go_sem,GZ,f0,f11];refine dA Lb.tozX T (o:=E.o) (n:=mc) (a:=J.2) Om α rfl (x.at 0 rfl) ?_;have h2:=x.set 0 rfl (aX v f.2);rw[hf];simp only[go_sem,HA];refine aP fun o ho=>?_;have h3:=h2.i9 (s:=1) (rows:=cO [(f.1:Int)]) ho;have b3:=h3.at 3 rfl;have ob:¬ p=o:=h3.neL 3 5 rfl rfl rfl;have σ:¬ E.o7=o:=h3.neL 1 5 rfl rfl rfl;have τ:¬ E.o=o:=h3.neL 0 5 rfl rfl rfl;simp only[aQ,if_neg ob,if_neg Z] at b3;simp only[go_sem,u,ob,Z,b3,aAD,aAP,or_false,forall_eq];have h4:=h3.set 3 rfl (.rows 17 [wN ⟨s,k,m,q,0,N,O,R,S,[],M,t,h⟩ (.osl o 1 0 1)]);have fin:∀ (w:PV) (ms:List Int) (a':Nat) (W:PF) (H':PH),PAt E mc n i W→W 15=some (.ptr p 17 0 0)→(∃ o,w=.osl o 1 0 ms.length) →
   aL H' (E.boxes v ext y A B I w5 .aA a'++[(p,.rows 17 [wN ⟨s,k,m,q,0,N,O,R,S,ms,M,t,h⟩ w])]) (FE.lists y A B I w5 lw md dm dv pr++[(w,1,cO ms)]) →
   (∀ (j:PV) (U:PF) (H2:PH),PAt E mc n i U→aL H2 (E.boxes v ext y A B I j .aA a'++[(p,.rows 17 [wN ⟨s,k,m,q,0,N,O,R,S,ms,M,t,h⟩ w])]) (FE.lists y A B I j lw md dm dv (pr++[wN ⟨s,k,m,q,0,N,O,R,S,ms,M,t,h⟩ w])++[(w,1,cO ms)])→K .normal U H2) →
   wpOps C xF (K .normal) W H':=by
  intro w ms a' W H' δ u hw Y ζ;obtain⟨wo,rfl⟩:=hw;obtain⟨f0,f1,f2,f6,f7,f11,f13,f14⟩:=δ;have c1:=Y.at 1 rfl;have c3:=Y.at 3 rfl;have γ:(1:Nat)*17≤16777216:=by decide
  simp only[go_sem,xF,f7,u,c1,c3,γ,aAD,aAP,or_false,forall_eq,forall_eq_or_imp];refine Y.append 4 (src:=[wN ⟨s,k,m,q,0,N,O,R,S,ms,M,t,h⟩ (.osl wo 1 0 ms.length)]) rfl rfl (by unfold roomFor; simp only[aAC,maxLen]; omega) fun j H2 h5 κ=>?_;obtain⟨q5,rfl⟩:=κ (by simp);have c2:=h5.at 1 rfl;simp only[go_sem,c2,aAD,aAP,or_false,forall_eq];exact ζ _ _ _ ⟨by simp only[go_sem,f0],by simp only[go_sem,f1],by simp only[go_sem,f2],by simp only[go_sem,f6],by simp only[go_sem,f7],by simp only[go_sem,f11],by simp only[go_sem,f13],by simp only[go_sem,f14]⟩ (h5.set 1 rfl (flB ext y A B I _ .aA))
 simp only[go_sem,HB,f11];by_cases c:1<mc
 ·have c':(mc:Int)>1:=Om;simp only[go_sem,c',f0];refine dA Lb.tozX T (o:=E.o) (n:=2) (a:=f.2) (by decide) af rfl (h4.at 0 rfl) ?_;have h5:=h4.set 0 rfl (aX v b.2);rw[hb];by_cases c2:b.1=0
  ·have X:(b.1:Int)=0:=Om;rw[if_pos c,if_pos c2] at V;have e1:IntKind.i64.wrap (1-(f.1:Int))=1-(f.1:Int):=wrap_i64 Om Om;have c3:=h5.at 3 rfl;have β:(1:Nat)*1≤16777216:=by decide
   simp only[go_sem,bM X,HC,u,Z,e1,β];refine h5.append 5 (src:=[[.int .i64 (1-(f.1:Int))]]) rfl rfl (by unfold roomFor; simp only[cO,azT,aAC,maxLen]; omega) fun w' H2 h6 hw=>?_;obtain⟨q2,rfl⟩:=hw (by simp);have c4:=h6.at 3 rfl;simp only[go_sem,c4,u,aAD,aAP,or_false,forall_eq];have h7:=h6.set 3 rfl (.rows 17 [wN ⟨s,k,m,q,0,N,O,R,S,[(f.1:Int),1-(f.1:Int)],M,t,h⟩ (.osl q2 1 0 2)]);exact fin (.osl q2 1 0 2) [(f.1:Int),1-(f.1:Int)] b.2 _ _ ⟨by simp only[go_sem,f0],by simp only[go_sem,f1],by simp only[go_sem,f2],by simp only[go_sem,f6],by simp only[go_sem,f7],by simp only[go_sem,f11],by simp only[go_sem,f13],by simp only[go_sem,f14]⟩ (by simp only[go_sem,u]) ⟨q2,rfl⟩ h7 (fun j U H2 g1 g2=>V _ j U H2 _ g1 ⟨q2,rfl⟩ g2)
  ·have X:¬ (b.1:Int)=0:=Om;rw[if_pos c,if_neg c2] at V;simp only[go_sem,bB X];exact fin (.osl o 1 0 1) [(f.1:Int)] b.2 _ _ ⟨by simp only[go_sem,f0],by simp only[go_sem,f1],by simp only[go_sem,f2],by simp only[go_sem,f6],by simp only[go_sem,f7],by simp only[go_sem,f11],by simp only[go_sem,f13],by simp only[go_sem,f14]⟩ (by simp only[go_sem,u]) ⟨o,rfl⟩ h5 (fun j U H2 g1 g2=>V _ j U H2 _ g1 ⟨o,rfl⟩ g2)
 ·have c':¬ (mc:Int)>1:=Om;rw[if_neg c] at V;simp only[go_sem,c'];exact fin (.osl o 1 0 1) [(f.1:Int)] f.2 _ _ ⟨by simp only[go_sem,f0],by simp only[go_sem,f1],by simp only[go_sem,f2],by simp only[go_sem,f6],by simp only[go_sem,f7],by simp only[go_sem,f11],by simp only[go_sem,f13],by simp only[go_sem,f14]⟩ (by simp only[go_sem,u]) ⟨o,rfl⟩ h4 (fun j U H2 g1 g2=>V _ j U H2 _ g1 ⟨o,rfl⟩ g2)
abbrev mG (l:List cX):List (List PV):=l.map cX.cells
abbrev oK (l:List fV):List (List PV):=l.map fV.cells
theorem qD {rows:List (List PV)} (h:∀ r∈rows,∀ c∈r,c.oid=none):Flat rows:=Flat.of fun r j c e q s rs=>FJ (h r j c e) q s rs
theorem Nz (l:List cW):Flat (iV l):=qD fun r j c e=>by
 obtain⟨x,_,rfl⟩:=aAS.1 j;simp only[cW.cells,aAD,aAP,or_false] at e;rcases e with rfl | rfl | rfl | rfl<;>rfl
theorem Of (l:List dT):Flat (jY l):=qD fun r j c e=>by
 obtain⟨x,_,rfl⟩:=aAS.1 j;simp only[dT.cells,aAD,aAP,or_false] at e;rcases e with rfl | rfl | rfl | rfl<;>rfl
theorem Kr (l:List cS):Flat (kB l):=qD fun r j c e=>by
 obtain⟨x,_,rfl⟩:=aAS.1 j;simp only[cS.cells,aAD,aAP,or_false] at e;rcases e with rfl | rfl | rfl | rfl | rfl | rfl | rfl<;>rfl
theorem Kt (l:List dL):Flat (mN l):=qD fun r j c e=>by
 obtain⟨x,_,rfl⟩:=aAS.1 j;simp only[dL.cells,aAD,aAP,or_false] at e;rcases e with rfl | rfl | rfl<;>rfl
theorem anW (l:List fV):Flat (oK l):=qD fun r j c e=>by
 obtain⟨x,_,rfl⟩:=aAS.1 j;simp only[fV.cells,aAD,aAP,or_false] at e;rcases e with rfl | rfl<;>rfl
theorem Qr (l:List cX):Flat (mG l):=qD fun r j c e=>by
 obtain⟨x,_,rfl⟩:=aAS.1 j;simp only[cX.cells,aAD,aAP,or_false] at e;rcases e with rfl | rfl | rfl | rfl | rfl | rfl | rfl | rfl | rfl | rfl | rfl | rfl | rfl | rfl | rfl | rfl | rfl<;>rfl
theorem Uv (l:List Nat) (mc i:Nat) {a:Nat} (h:a≤l.length):(mJ l mc i a).2≤l.length:=by
 have j:=bE l 9 (EC l (bE l ((aD l 3 (aD l 2 a).2).1+1) (bE l 4 (bE l 3 (bE l 2 h)))) (max (aD l 3 (aD l 2 a).2).1 1));have e:=bE l mc (tO l (tO l (tO l (tO l j))));unfold mJ;simp only;split
 ·split
  ·exact bE l 2 e
  ·exact bE l 2 e
 ·exact e
theorem tJ (l:List Nat) (mc:Nat) {a:Nat} (h:a≤l.length):∀ k,(dO l mc a k).2≤l.length∧(dO l mc a k).1.length=k
 | 0=>⟨h,rfl⟩
 | k+1=>by obtain⟨e,j⟩:=tJ l mc h k;exact⟨Uv l mc k e,by simp only[dO,azX,aAC,j]⟩
theorem DF (l:List Nat) (pc:Nat) {a:Nat} (h:a≤l.length):∀ k,(eT l pc a k).2≤l.length∧(eT l pc a k).1.length=k
 | 0=>⟨h,rfl⟩
 | k+1=>by obtain⟨e,j⟩:=DF l pc h k;exact⟨bE l pc e,by simp only[eT,azX,aAC,j]⟩
theorem Cz {C:Ctx} (Lb:nD C) {l:List Nat} {v:PV} (T:Tp l v) (E:FE) (mc n a:Nat) (hn:n≤10) (θ:0<mc) (Z:mc≤50) (ha:a≤l.length) (N:Int) (j u y A:PV) (S:List cW) (U:List dT) (O:List cS) (R:List dL) (K:cN) (F:PF) (H:PH)
  (J:PAt E mc n 0 F) (W:aL H (E.boxes v (.int .i64 N) j u y A .aA .aA a) [(j,4,iV S),(u,4,jY U),(y,7,kB O),(A,3,mN R)])
  (hK:∀ V F' H',(fW E).le F'→aL H' (E.boxes v (.int .i64 N) j u y A V .aA (dO l mc a n).2) (FE.lists j u y A V S U O R (mG (dO l mc a n).1))→K (.exit 4) F' H') :
  aE.wp C (.loop GT) K F H:=by
 refine wp_loop (α:=Nat × PV × PH) (fun t=>io E mc n t.1) (fun t=>t.2.2) (fun t=>t.1≤n∧aL t.2.2 (E.boxes v (.int .i64 N) j u y A t.2.1 .aA (dO l mc a t.1).2) (FE.lists j u y A t.2.1 S U O R (mG (dO l mc a t.1).1))) (fun t=>n-t.1) (0,.aA,H) ⟨aAH _,W.mY 17⟩ ?_ b_ ?_
 ·unfold io fW
  (repeat' (first|exact c_|refine d_ ?_ ?_))<;>first|(simp only[go_sem,J.f0,J.f1,J.f2,J.f6,J.f7,J.f11,J.f13,J.f14]<;>rfl)|rfl
 rintro⟨i,V,H0⟩ ⟨hi,W⟩;simp only at hi W ⊢;obtain⟨k1,k2⟩:=tJ l mc ha i;have I:dO l mc a (i+1)=((dO l mc a i).1++[(mJ l mc i (dO l mc a i).2).1],(mJ l mc i (dO l mc a i).2).2):=rfl;simp only[go_sem,GT,an,io,fW];by_cases hlt:i<n
 ·have B:(i:Int)<(n:Nat):=Om;generalize hg:dO l mc a i=g at *
  simp only[go_sem,B];refine adX (C:=C) Lb T E mc n i g.2 k1 Om (.int .i64 N) j u y A V .aA _ _ _ _ H0 ⟨by simp only[go_sem],by simp only[go_sem],by simp only[go_sem],by simp only[go_sem],by simp only[go_sem],by simp only[go_sem],by simp only[go_sem],by simp only[go_sem]⟩ W ?_;intro p F1 H1 γ β X;simp only at X;have ι:mJ l mc i g.2=_:=rfl;have Y:=bE l 9 (EC l (bE l ((aD l 3 (aD l 2 g.2).2).1+1) (bE l 4 (bE l 3 (bE l 2 k1)))) (max (aD l 3 (aD l 2 g.2).2).1 1));refine adY (C:=C) Lb T E mc n i _ Y θ Z (.int .i64 N) j u y A V S U O R _ (by rw[azT,k2]; omega) _ _ _ _ (mkT 0 1) _ _ _ p _ F1 H1 γ β X ?_;intro M f b ms w e F2 H2 B' δ hw ε;obtain⟨o,rfl⟩:=hw;have hP:mJ l mc i g.2=(⟨[112]++bW i,(1+(aD l 2 g.2).1:Nat),((aD l 3 (aD l 2 g.2).2).1:Nat),(1+(aD l 2 g.2).1+(aD l ((aD l 3 (aD l 2 g.2).2).1+1) (aD l 4 (aD l 3 (aD l 2 g.2).2).2).2).1:Nat),0,M.1.getD 0 0,M.1.getD 1 0,M.1.getD 2 0,M.1.getD 3 0,ms.1,(kD l (aD l ((aD l 3 (aD l 2 g.2).2).1+1) (aD l 4 (aD l 3 (aD l 2 g.2).2).2).2).2 (max (aD l 3 (aD l 2 g.2).2).1 1)).1,mkT ((aD l 9 (kD l (aD l ((aD l 3 (aD l 2 g.2).2).1+1) (aD l 4 (aD l 3 (aD l 2 g.2).2).2).2).2 (max (aD l 3 (aD l 2 g.2).2).1 1)).2).1:Nat) 8,mkT ((1+(aD l 4 (aD l 3 (aD l 2 g.2).2).2).1:Nat):Int) 1⟩,ms.2):=rfl;rw[hP] at I;generalize ζ:(⟨[112]++bW i,(1+(aD l 2 g.2).1:Nat),((aD l 3 (aD l 2 g.2).2).1:Nat),(1+(aD l 2 g.2).1+(aD l ((aD l 3 (aD l 2 g.2).2).1+1) (aD l 4 (aD l 3 (aD l 2 g.2).2).2).2).1:Nat),0,M.1.getD 0 0,M.1.getD 1 0,M.1.getD 2 0,M.1.getD 3 0,ms.1,(kD l (aD l ((aD l 3 (aD l 2 g.2).2).1+1) (aD l 4 (aD l 3 (aD l 2 g.2).2).2).2).2 (max (aD l 3 (aD l 2 g.2).2).1 1)).1,mkT ((aD l 9 (kD l (aD l ((aD l 3 (aD l 2 g.2).2).1+1) (aD l 4 (aD l 3 (aD l 2 g.2).2).2).2).2 (max (aD l 3 (aD l 2 g.2).2).1 1)).2).1:Nat) 8,mkT ((1+(aD l 4 (aD l 3 (aD l 2 g.2).2).2).1:Nat):Int) 1⟩:cX)=P at *
  have η:P.ayG=ms.1:=by rw[← ζ]
  obtain⟨rs,z1,z2,z3,z4,z5⟩:=ε.frz 5 rfl;have y1:=z4 0 _ (by decide) rfl;have y2:=z4 1 _ (by decide) rfl;have y3:=z4 2 _ (by decide) rfl;have y4:=z4 3 _ (by decide) rfl;have y5:=z4 4 _ (by decide) rfl;simp only at y1 y2 y3 y4 y5;have y0:=T.frz o 1 rs;obtain⟨f0,f1,f2,f6,f7,f11,f13,f14⟩:=δ;simp only[go_sem,av,f14,wZz i];refine LQ (i+1,e,H2.frz o 1 rs) z1 ⟨hlt,?_⟩ (by simp only; omega) ?_ b_
  ·rw[I];have eB:(E.boxes v (.int .i64 N) j u y A e .aA ms.2).map (fun b=>(b.1,b.2.frz o 1 rs))=E.boxes v (.int .i64 N) j u y A e .aA ms.2:=by show [(E.o,bG.rows 2 [[PV.cA o 1 rs v,.int .i64 ms.2]]),(E.o7,bG.rows 7 [[.int .i64 N,PV.cA o 1 rs j,PV.cA o 1 rs u,PV.cA o 1 rs y,PV.cA o 1 rs A,PV.cA o 1 rs e,.aA]]),(E.o6,flZ)]=_;rw[y0,y1,y2,y3,y4,y5]
   have e5:(mG g.1++[wN P (.osl o 1 0 ms.1.length)]).map (fun r=>r.map (PV.cA o 1 rs))=mG (g.1++[P]):=by
    rw[aBL,Qr];have:([wN P (.osl o 1 0 ms.1.length)]:List (List PV)).map (fun r=>r.map (PV.cA o 1 rs))=[P.cells]:=by show [[PV.str P.name,.int .i64 P.k,.int .i64 P.m,.int .i64 P.azE,.int .i64 P.s0,.int .i64 P.s1,.int .i64 P.s2,.int .i64 P.s3,.int .i64 P.s4,PV.cA o 1 rs (.osl o 1 0 ms.1.length),frs P.repair,.bool P.target.neg,aI P.target.num,aI P.target.den,.bool P.ayQ.neg,aI P.ayQ.num,aI P.ayQ.den]]=_;rw[z2,← η];rfl
    rw[this];simp[mG]
   have eL:(FE.lists j u y A e S U O R (mG g.1++[wN P (.osl o 1 0 ms.1.length)])).map (fun x=>(x.1,x.2.1,x.2.2.map fun r=>r.map (PV.cA o 1 rs)))=FE.lists j u y A e S U O R (mG (g.1++[P])):=by show [(j,4,(iV S).map _),(u,4,(jY U).map _),(y,7,(kB O).map _),(A,3,(mN R).map _),(e,17,(mG g.1++[wN P (.osl o 1 0 ms.1.length)]).map _)]=_;rw[Nz,Of,Kr,Kt,e5]
   rw[← eB,← eL];exact z5.sub (by rw[aBL]; exact aDP ..) (aCA.refl _)
  ·(repeat' (first|exact c_|refine d_ ?_ ?_))<;>first|(simp only[go_sem,f0,f1,f2,f6,f7,f11,f13]<;>rfl)|rfl
 ·have B:¬ (i:Int)<(n:Nat):=Om;have:i=n:=Om;subst this;simp only[go_sem,B];exact hK V _ _ (PR Sq Sq Sq Sq Sq) W
theorem Jy {C:Ctx} (V:nD C) {l:List Nat} {v:PV} (T:Tp l v) (E:FE) (pc n a:Nat) (hn:n≤60) (β:pc≤50) (ha:a≤l.length) (ext B I J M j:PV) (A:List cX) (S:A.length=pc) (L:List LI) (K:cN) (F:PF) (H:PH)
  (hF:(((fW E).set 18 (.int .i64 n)).set 19 (.int .i64 0)).le F) (x:aL H (E.boxes v ext B I J M j .aA a) ((j,17,mG A)::L))
  (hK:∀ w U H',(fW E).le U→aL H' (E.boxes v ext B I J M j w (eT l pc a n).2) ((j,17,mG A)::L++[(w,2,oK (eT l pc a n).1)])→K (.exit 8) U H') :
  aE.wp C (.loop GU) K F H:=by
 refine wp_loop (α:=Nat × PV × PH) (fun t=>((fW E).set 18 (.int .i64 n)).set 19 (.int .i64 t.1)) (fun t=>t.2.2) (fun t=>t.1≤n∧aL t.2.2 (E.boxes v ext B I J M j t.2.1 (eT l pc a t.1).2) ((j,17,mG A)::L++[(t.2.1,2,oK (eT l pc a t.1).1)])) (fun t=>n-t.1) (0,.aA,H) ⟨aAH _,x.mY 2⟩ hF b_ ?_;rintro⟨i,w,Z⟩ ⟨hi,x⟩;simp only at hi x ⊢;obtain⟨k1,k2⟩:=DF l pc ha i;have y:eT l pc a (i+1)=((eT l pc a i).1++[⟨[118]++bW i,((aD l pc (eT l pc a i).2).1:Nat)⟩],(aD l pc (eT l pc a i).2).2):=rfl;simp only[go_sem,GU,ba,fW];by_cases hlt:i<n
 ·have u:(i:Int)<(n:Nat):=Om;generalize hg:eT l pc a i=g at *
  have X:=x.set 0 rfl (aX v (aD l pc g.2).2);generalize O:aD l pc g.2=z at *
  have b1:=x.at 1 rfl;have Y:=(x.own 0 rfl).sZ;rw[azT,S] at Y;have N:(PH.nil.set E.o7 (flB ext B I J M j w)).le Z:=e_ a_ b1;simp only[go_sem,u];refine bO (PH.nil.set E.o7 (flB ext B I J M j w)) (mkS l v) N ?_;simp only[go_sem,bb];refine ET V.tosM (s:=[118]) (n:=i) (by decide) Om rfl N ?_;simp only[go_sem,Y];refine rC V.tozX T (o:=E.o) (n:=pc) (a:=g.2) Om k1 rfl (x.at 0 rfl) ?_ ?_
  ·rw[O]; exact e_ a_ (X.at 1 rfl)
  rw[O];have R:(1:Nat)*2≤16777216:=by decide
  simp only[go_sem,R,aAD,aAP,or_false,forall_eq,forall_eq_or_imp];refine X.append (v:=w) (s:=2) (rows:=oK g.1) (L.length+1) (src:=[(⟨[118]++bW i,(z.1:Nat)⟩:fV).cells]) (by simp) rfl (by unfold roomFor; rw[azT]; simp only[aAC,maxLen]; omega) fun w' H2 h5 hw=>?_;obtain⟨q,rfl⟩:=hw (by simp);rw[show ((j,17,mG A)::L++[(w,2,oK g.1)])=((j,17,mG A)::L)++[(w,2,oK g.1)] from rfl,aDJ _ _ (by simp),show L.length+1-((j,17,mG A)::L).length=0 by simp] at h5;have W:=h5.at 1 rfl;refine⟨e_ a_ W,?_⟩;refine bO .nil dE a_ ?_;simp only[go_sem,bc,W,aAD,aAP,or_false,forall_eq];have h6:=h5.set 1 rfl (flB ext B I J M j (.osl q 2 0 (oK g.1++[(⟨[118]++bW i,(z.1:Nat)⟩:fV).cells]).length));refine⟨a_,?_⟩;simp only[go_sem,bd,wZz i];refine aJ (i+1,.osl q 2 0 (oK g.1++[(⟨[118]++bW i,(z.1:Nat)⟩:fV).cells]).length,_) ⟨hlt,?_⟩ (by simp only; omega) ?_ b_
  ·rw[y];have e:oK (g.1++[⟨[118]++bW i,(z.1:Nat)⟩])=oK g.1++[(⟨[118]++bW i,(z.1:Nat)⟩:fV).cells]:=by simp[oK]
   simp only;rw[e];exact h6
  ·exact Lq
 ·have u:¬ (i:Int)<(n:Nat):=Om;have:i=n:=Om;subst this;simp only[go_sem,u];exact hK w _ _ (PR rfl rfl rfl rfl rfl) x
def JV (l:List Nat) (v:PV) (o ayF ayH a:Nat) (r:PV) (H:PH):Prop:=Co r (.agg (gW l ayF ayH a).1.cells)∧H=PH.nil.set o (aX v (gW l ayF ayH a).2)
structure vd (C:Ctx):Prop extends nD C where
 grow:∀ (l:List Nat) (v:PV),Tp l v→∀ (mc ayF:Nat),0<mc→mc≤1000→ayF≤60→XS C l v mc ayF 4
theorem X2 {C:Ctx} (R:vd C) {l:List Nat} {v:PV} (T:Tp l v) (o ayF ayH a:Nat) (Δ:ayF≤60) (Ψ:ayH≤50) (ha:a≤l.length) :
  BP.wp C (aS C0.res (JV l v o ayF ayH a)) (PF.args [.ptr o 2 0 0,.int .i64 ayF,.int .i64 ayH]) (PH.nil.set o (aX v a)):=by
 have hT:gW l ayF ayH a=gW l ayF ayH a:=rfl
 conv at hT=>rhs; unfold gW
 dsimp only at hT;have hR:∀ r H,JV l v o ayF ayH a r H↔Co r (.agg (gW l ayF ayH a).1.cells)∧H=PH.nil.set o (aX v (gW l ayF ayH a).2):=fun _ _=>Iff.rfl;have ne:=cD l (show 0<2 by decide) a;have ae:=bE l 2 ha;generalize he:aD l 2 a=e at *
 have Ω:=cD l (show 0<2 by decide) e.2;have ζ:=bE l 2 ae;generalize Θ:aD l 2 e.2=O at *
 obtain⟨S,δ⟩:=GI l ζ (1+O.1);generalize α:hJ l O.2 (1+O.1)=ayN at *
 have a':=cD l (show 0<2 by decide) ayN.2;have η:=bE l 2 S;generalize Λ:aD l 2 ayN.2=u at *
 obtain⟨U,Y⟩:=xI l (1+O.1) η (1+u.1);generalize W:eQ l (1+O.1) u.2 (1+u.1)=ayG at *
 have κ:GOk l ayF ⟨[mH],[],ayG.2⟩:=⟨by simp,aAH _,U⟩;obtain⟨hG,-⟩:=FW (mc:=1+u.1) 4 0 κ;generalize hg:eZ l (1+u.1) ayF 4 0 ⟨[mH],[],ayG.2⟩=g at *
 have b':=cD l (show 0<2 by decide) g.a;have θ:=bE l 2 hG.a;generalize Φ:aD l 2 g.a=pl at *
 obtain⟨V,ε⟩:=tJ l (1+u.1) θ (1+pl.1);generalize β:dO l (1+u.1) pl.2 (1+pl.1)=pols at *
 have c':=cD l (Om:0<ayH+1) pols.2;have σ:=bE l (ayH+1) V;generalize ο:aD l (ayH+1) pols.2=vo at *
 generalize γ:eT l (1+pl.1) vo.2 vo.1=vols at *
 have ee:IntKind.i64.wrap (1+(e.1:Int))=((1+e.1:Nat):Int):=by rw[wrap_i64 Om Om]; omega
 have τ:IntKind.i64.wrap (1+(O.1:Int))=((1+O.1:Nat):Int):=by rw[wrap_i64 Om Om]; omega
 have υ:IntKind.i64.wrap (1+(u.1:Int))=((1+u.1:Nat):Int):=by rw[wrap_i64 Om Om]; omega
 have χ:IntKind.i64.wrap (1+(pl.1:Int))=((1+pl.1:Nat):Int):=by rw[wrap_i64 Om Om]; omega
 have ψ:IntKind.i64.wrap ((ayH:Int)+1)=((ayH+1:Nat):Int):=dP Om;have h0:aL (PH.nil.set o (aX v a)) [(o,aX v a)] []:=aL.nil.new (H:=PH.nil) rfl (aX v a);simp only[go_sem,BP,mr,C0];refine aP fun o6 μ=>?_;have w:=h0.new μ flZ;simp only[go_sem,mu];refine dA R.tozX T (o:=o) (n:=2) (a:=a) (by decide) ha rfl (w.at 0 rfl) ?_;have A:=w.set 0 rfl (aX v e.2);rw[he];simp only[go_sem,ee];refine aP fun o7 ν=>?_;have J:=A.new ν (flB (.int .i64 (1+e.1:Nat)) .aA .aA .aA .aA .aA .aA);simp only[go_sem,mw,aAD,aAP,or_false,forall_eq,forall_eq_or_imp];refine dA R.tozX T (o:=o) (n:=2) (a:=e.2) (by decide) ae rfl (J.at 0 rfl) ?_;have h4:=J.set 0 rfl (aX v O.2);rw[Θ];have h5:=h4.perm (B':=FE.boxes ⟨o,o6,o7,ayF,ayH⟩ v (.int .i64 (1+e.1:Nat)) .aA .aA .aA .aA .aA .aA O.2) (L':=[]) (aCM.cons _ (aCM.swap _ _ _)) (aCM.refl _);obtain⟨E,j⟩:∃ E:FE,E=⟨o,o6,o7,ayF,ayH⟩:=⟨_,rfl⟩;rw[← j] at h5;simp only[go_sem,τ,my];refine adW (C:=C) R.tonD T E (1+O.1) O.2 Om ζ _ _ _ _ ?_ h5 ?_
 ·rw[j];unfold fW;exact Lq
 clear h5 h4 J A w h0 μ ν;intro y F1 H1 K w;rw[α] at w;have f0:F1 0=some (.ptr o 2 0 0):=K 0 _ (by rw[j]; unfold fW; simp only[go_sem]);have f1:F1 1=some (.int .i64 ayF):=K 1 _ (by rw[j]; unfold fW; simp only[go_sem]);have f2:F1 2=some (.int .i64 ayH):=K 2 _ (by rw[j]; unfold fW; simp only[go_sem]);have f6:F1 6=some (.ptr o6 7 0 0):=K 6 _ (by rw[j]; unfold fW; simp only[go_sem]);have f7:F1 7=some (.ptr o7 7 0 0):=K 7 _ (by rw[j]; unfold fW; simp only[go_sem]);have Z:=w.at 0 rfl;rw[j] at Z;simp only[go_sem,ZT,f0];refine dA R.tozX T (o:=o) (n:=2) (a:=ayN.2) (by decide) S rfl Z ?_;have A:=w.set 0 rfl (aX v u.2);rw[Λ];simp only[go_sem,υ,ZU];refine Tz (C:=C) R.tonD T E (1+u.1) u.2 (1+O.1) Om Om η (.int .i64 (1+e.1:Nat)) y ayN.1 δ _ _ _ ?_ (by rw[j] at A ⊢; exact A) ?_
 ·rw[j];unfold fW;exact Lq
 clear Z A w f0 f1 f2 f6 f7 K;intro w2 F2 H2 M f11 A;rw[W] at A;have f0:F2 0=some (.ptr o 2 0 0):=M 0 _ (by rw[j]; unfold fW; simp only[go_sem]);have f1:F2 1=some (.int .i64 ayF):=M 1 _ (by rw[j]; unfold fW; simp only[go_sem]);have f2:F2 2=some (.int .i64 ayH):=M 2 _ (by rw[j]; unfold fW; simp only[go_sem]);have f6:F2 6=some (.ptr o6 7 0 0):=M 6 _ (by rw[j]; unfold fW; simp only[go_sem]);have f7:F2 7=some (.ptr o7 7 0 0):=M 7 _ (by rw[j]; unfold fW; simp only[go_sem]);obtain⟨qm,ξ⟩:=(A.own 1 rfl).one (by rw[azT]; omega);rw[azT,Y] at ξ;subst ξ;have ω:(1:Nat)*7≤16777216:=by decide
 simp only[go_sem,ZZ];refine aB (R.int 0 (by unfold dS; omega)) rfl ?_;simp only[go_sem,aAD,aAP,or_false,forall_eq,forall_eq_or_imp,ω];refine aP fun od Ξ=>?_;have J:=A.i9 (s:=7) (rows:=kB [mH]) Ξ;have b7:=A.at 1 rfl;rw[j] at b7;have n7:¬ o7=od:=by have:=J.neL 1 2 rfl rfl rfl;rw[j] at this; exact this
 simp only[go_sem,f7,b7,n7,aAD,aAP,or_false,forall_eq];have h4:=(J.set 1 rfl (flB (.int .i64 (1+e.1:Nat)) y (.osl qm 4 0 (1+u.1)) (.osl od 7 0 1) .aA .aA .aA)).mY 3;rw[j] at h4;have h5:=h4.perm (B':=(GE.mk o o7 qm (.int .i64 (1+e.1:Nat)) y .aA .aA).boxes v (1+u.1) (.osl od 7 0 1) .aA ayG.2++[(o6,flZ)]) (L':=mF ⟨[mH],[],ayG.2⟩ (.osl od 7 0 1) .aA++[(y,4,iV ayN.1),(.osl qm 4 0 (1+u.1),4,jY ayG.1)]) (aCM.refl _)
  (List.perm_append_comm (l₁:=[(y,4,iV ayN.1),(.osl qm 4 0 (1+u.1),4,jY ayG.1)]) (l₂:=mF ⟨[mH],[],ayG.2⟩ (.osl od 7 0 1) .aA))
 simp only[go_sem,aa,f0,f1,f7];refine DH h5 (fun H0 Γ=>R.grow l v T (1+u.1) ayF Om Om Δ (GE.mk o o7 qm (.int .i64 (1+e.1:Nat)) y .aA .aA) (.osl od 7 0 1) .aA ⟨[mH],[],ayG.2⟩ 0 mH κ rfl rfl H0 Γ) (by simp only[go_sem,f0,f1,f7]; rfl) ?_;rintro r B' L' H3 ⟨rfl,F,I,rfl,rfl⟩ h6;rw[hg] at h6;have h7:=h6.perm (B':=E.boxes v (.int .i64 (1+e.1:Nat)) y (.osl qm 4 0 (1+u.1)) F I .aA .aA g.a) (L':=[(y,4,iV ayN.1),(.osl qm 4 0 (1+u.1),4,jY ayG.1),(F,7,kB g.ayP),(I,3,mN g.ayZ)]) (by rw[j]; exact aCM.refl _)
  (List.perm_append_comm (l₁:=mF g F I) (l₂:=[(y,4,iV ayN.1),(.osl qm 4 0 (1+u.1),4,jY ayG.1)]))
 have Z:=h7.at 0 rfl;rw[j] at Z;simp only[go_sem,ac,f0];refine dA R.tozX T (o:=o) (n:=2) (a:=g.a) (by decide) hG.a rfl Z ?_;have h8:=h7.set 0 rfl (aX v pl.2);rw[Φ];simp only[go_sem,χ,al];refine Cz (C:=C) R.tonD T E (1+u.1) (1+pl.1) pl.2 Om Om Om θ ((1+e.1:Nat):Int) y (.osl qm 4 0 (1+u.1)) F I ayN.1 ayG.1 g.ayP g.ayZ _ _ _ (by rw[j]; exact⟨by simp only[go_sem,f0],by simp only[go_sem,f1],by simp only[go_sem,f2],by simp only[go_sem,f6],by simp only[go_sem,f7],by simp only[go_sem,f11],by simp only[go_sem],by simp only[go_sem]; rfl⟩) (by rw[j] at h8 ⊢; exact h8) ?_;clear h8 h7 h6 h5 h4 J A Z b7 f0 f1 f2 f6 f7 M;intro w5 F4 H4 N w;rw[β] at w;have f0:F4 0=some (.ptr o 2 0 0):=N 0 _ (by rw[j]; unfold fW; simp only[go_sem]);have f1:F4 1=some (.int .i64 ayF):=N 1 _ (by rw[j]; unfold fW; simp only[go_sem]);have f2:F4 2=some (.int .i64 ayH):=N 2 _ (by rw[j]; unfold fW; simp only[go_sem]);have f6:F4 6=some (.ptr o6 7 0 0):=N 6 _ (by rw[j]; unfold fW; simp only[go_sem]);have f7:F4 7=some (.ptr o7 7 0 0):=N 7 _ (by rw[j]; unfold fW; simp only[go_sem]);have Z:=w.at 0 rfl;rw[j] at Z;simp only[go_sem,aw,f0,f2,ψ];refine dA R.tozX T (o:=o) (n:=ayH+1) (a:=pols.2) Om V rfl Z ?_;have A:=w.set 0 rfl (aX v vo.2);rw[ο];have J:=A.perm (B':=E.boxes v (.int .i64 (1+e.1:Nat)) y (.osl qm 4 0 (1+u.1)) F I w5 .aA vo.2) (L':=(w5,17,mG pols.1)::[(y,4,iV ayN.1),(.osl qm 4 0 (1+u.1),4,jY ayG.1),(F,7,kB g.ayP),(I,3,mN g.ayZ)]) (aCM.refl _)
  (List.perm_append_comm (l₁:=[(y,4,iV ayN.1),(.osl qm 4 0 (1+u.1),4,jY ayG.1),(F,7,kB g.ayP),(I,3,mN g.ayZ)]) (l₂:=[(w5,17,mG pols.1)]))
 simp only[go_sem,ay];refine Jy (C:=C) R.tonD T E (1+pl.1) vo.1 vo.2 Om Om σ _ _ _ _ _ w5 pols.1 ε _ _ _ _ ?_ (by rw[j] at J ⊢; exact J) ?_
 ·rw[j];unfold fW;exact Lq
 clear J A w Z f0 f1 f2 f6 f7 N;intro w6 F5 H5 ι w;rw[γ] at w;have f6:F5 6=some (.ptr o6 7 0 0):=ι 6 _ (by rw[j]; unfold fW; simp only[go_sem]);have f7:F5 7=some (.ptr o7 7 0 0):=ι 7 _ (by rw[j]; unfold fW; simp only[go_sem]);rw[j] at w;have b7:=w.at 1 rfl;have b6:=w.at 2 rfl;have one:∀ (x:PV),x∈[y,F,I,w5,w6]→(∃ q s n,x=.osl q s 0 n)∨x=.aA:=by
  intro x hx;have X:∀ {s:Nat} {rows:List (List PV)},bZ H5 s x rows→(∃ q s n,x=.osl q s 0 n)∨x=.aA:=by
   rintro s rows (⟨_,h⟩ | ⟨q,rs,h,_⟩)
   ·exact .inr h
   ·exact .inl ⟨q,s,_,h⟩
  simp only[aAD,aAP,or_false] at hx;rcases hx with rfl | rfl | rfl | rfl | rfl
  ·exact X (w.own 1 rfl)
  ·exact X (w.own 3 rfl)
  ·exact X (w.own 4 rfl)
  ·exact X (w.own 0 rfl)
  ·exact X (w.own 5 rfl)
 have B:∀ (x:PV),x∈[y,F,I,w5,w6]→PV.one x=true:=fun x hx=>by rcases one x hx with ⟨q,s,n,rfl⟩ | rfl<;>rfl
 have o1:=B y (by simp);have o3:=B F (by simp);have o4:=B I (by simp);have o5:=B w5 (by simp);have ρ:=B w6 (by simp);simp only[PV.one] at o1 o3 o4 o5 ρ;simp only[go_sem,be,f6,f7,b7,b6,aAD,aAP,or_false,forall_eq,forall_eq_or_imp,o1,o3,o4,o5,ρ];have A:=w.set 2 rfl (flB (.int .i64 (1+e.1:Nat)) y (.osl qm 4 0 (1+u.1)) F I w5 w6);have J:=A.sub (B':=[(o,aX v vols.2)]) (aCA.cons_cons _ (List.nil_sublist _)) (aCA.refl _);obtain⟨φ,H6,k1,k2,k3,k4⟩:=aL.giveUp _ J (fun x hx=>by
  simp only[List.cons_append,aDF,aAD,aAP,or_false] at hx;rcases hx with rfl | rfl | rfl | rfl | rfl | rfl
  ·exact Qr _
  ·exact Nz _
  ·exact Of _
  ·exact Kr _
  ·exact Kt _
  ·exact anW _) (fun b hb q s rs=>by
  simp only[aAD,aAP,or_false] at hb;subst hb;simp only[bG.frz,aBA,aCH,T.frz];rfl)
 refine oR (vs:=[.agg [.int .i64 (1+e.1:Nat),y,.osl qm 4 0 (1+u.1),F,I,w5,w6]]) (.inr rfl) (by simp only[go_sem,f6]) (k4 _ _ (.done (H2:=PH.nil.set o (aX v vols.2)) ?_ (e_ a_ (k3.at 0 rfl))));rw[hR,hT];refine⟨CoL.agg ?_,rfl⟩;have s5:=k1 (w5,17,mG pols.1) (by simp);have s1:=k1 (y,4,iV ayN.1) (by simp);have s2:=k1 (.osl qm 4 0 (1+u.1),4,jY ayG.1) (by simp);have s3:=k1 (F,7,kB g.ayP) (by simp);have s4:=k1 (I,3,mN g.ayZ) (by simp);have s6:=k1 (w6,2,oK vols.1) (by simp);have s0:φ (.int .i64 (1+e.1:Nat))=.int .i64 (1+e.1:Nat):=k2 _ rfl;show CoL [φ (.int .i64 (1+e.1:Nat)),φ y,φ (.osl qm 4 0 (1+u.1)),φ F,φ I,φ w5,φ w6] _;rw[s0];exact CoL.cons (.refl _) (CoL.cons s1.co (CoL.cons s2.co (CoL.cons s3.co (CoL.cons s4.co (CoL.cons s5.co (CoL.cons s6.co .nil))))))
structure V6 (C:Ctx):Prop extends vd C where
 new:∀ (l:List Nat),(∀ x∈l,x<256)→l.length≤9223372036854775807→aG C 28 [.sl 1 (jW l)] .nil (fy l)
 fleet:∀ (l:List Nat) (v:PV),Tp l v→∀ (o ayF ayH a:Nat),ayF≤60→ayH≤50→a≤l.length →
  aG C 0 [.ptr o 2 0 0,.int .i64 ayF,.int .i64 ayH] (PH.nil.set o (aX v a)) (fun r H=>r=.agg (gW l ayF ayH a).1.cells∧H=PH.nil.set o (aX v (gW l ayF ayH a).2))
theorem JV.exact {C:Ctx} {name:Nat} {args:List PV} {H:PH} {l:List Nat} {v:PV} {o ayF ayH a:Nat} (h:aG C name args H (JV l v o ayF ayH a)):aG C name args H (fun r H=>r=.agg (gW l ayF ayH a).1.cells∧H=PH.nil.set o (aX v (gW l ayF ayH a).2)) :=
 h.post fun r H' e=>⟨_,e.1,rfl,e.2⟩
theorem Xz {C:Ctx} (y:V6 C) (l:List Nat) (hb:∀ x∈l,x<256) (B:l.length≤9223372036854775807) (ayF ayH:Nat) (j:ayF≤60) (w:ayH≤50) :
  BO.wp C (aS Cf.res (cK (.agg (gW (l.take 400) ayF ayH 0).1.cells))) (PF.args [.sl 1 (jW l),.int .i64 ayF,.int .i64 ayH]) .nil:=by
 simp only[go_sem,BO,ml,Cf];refine aP fun o6 E=>?_;simp only[go_sem,mm];refine eD (y.new l hb B) rfl a_ ?_;rintro r H' ⟨o,v,rfl,T,rfl⟩ A;have u:¬ o6=o:=by intro e;subst e;have:=A o6 (aX v 0) (by rw[aQ,if_pos rfl]) rfl;rw[aQ,if_pos rfl] at this;cases this
 rw[PH.nL];simp only[go_sem];refine lJ (y.fleet _ v T o ayF ayH 0 j w (aAH _)) (by rw[aQ,if_pos rfl]) rfl ?_;simp only[go_sem,u];exact aU (vs:=[.agg (gW (l.take 400) ayF ayH 0).1.cells]) (.inr rfl) .nil Sq a_ ⟨.refl _,rfl⟩
theorem CoL.afA:CoL [] []:=⟨rfl,fun j p q h=>by simp at h⟩
theorem CoL.zY {p q:PV} {ps l:List PV} (h:Co p q) (e:CoL ps l):CoL (p::ps) (q::l):=by
 refine⟨by simp[e.len],fun j x y a b=>?_⟩;cases j with
 | zero =>simp only[List.getElem?_cons_zero,aCD.injEq] at a b;subst a; subst b; exact h
 | succ j=>exact e.at_ j x y (by simpa using a) (by simpa using b)
theorem aG.seen {C:Ctx} {name:Nat} {args:List PV} {H:PH} {v:PV} (h:aG C name args H (cK v)):aG C name args H (aM v) :=
 h.post fun r H' e=>⟨v,e.1,rfl,e.2⟩
def QD (x:RF):Bool:=(x.num.all (fun n=>decide (n<4294967296))&&x.den.all fun n=>decide (n<4294967296))&&(decide (x.num.length≤9)&&decide (x.den.length≤9))
theorem IA {x:RF} (h:QD x=true):x.Ok:=by
 simp only[QD,aAF,aBI,decide_eq_true_eq] at h;exact⟨h.1.1,h.1.2,by omega,by omega⟩
def EE (l:List RF):Bool:=decide (l.length≤9)&&l.all QD
theorem AP {l:List RF} (h:EE l=true):oL l:=by
 simp only[EE,aAF,aBI,decide_eq_true_eq] at h;exact⟨by unfold Fits; omega,fun x e=>IA (h.2 x e)⟩
def Bt (x:cW):Bool:=(EE x.start&&EE x.exit)&&(decide (x.ayK.length≤9)&&x.ayK.all EE)
theorem Xn {x:cW} (h:Bt x=true):x.Ok:=by
 simp only[Bt,aAF,aBI,decide_eq_true_eq] at h;exact⟨AP h.1.1,AP h.1.2,by unfold Fits; omega,fun r e=>AP (h.2.2 r e)⟩
def F9 (x:cX):Bool:=(decide (dS x.k∧dS x.m∧dS x.azE)&&(decide (x.ayG.length≤9)&&x.ayG.all fun m=>decide (dS m)))&&(EE x.repair&&(QD x.target&&QD x.ayQ))
theorem Y6 {x:cX} (h:F9 x=true):x.Ok:=by
 simp only[F9,aAF,aBI,decide_eq_true_eq] at h;exact⟨h.1.1.1,h.1.1.2.1,h.1.1.2.2,by unfold Fits; omega,h.1.2.2,AP h.2.1,IA h.2.2.1,IA h.2.2.2⟩
def okB (f:aC):Bool:=(decide (f.ayN.length≤99∧f.ayG.length≤99∧f.ayI.length≤99∧f.ayF.length≤99∧f.ayJ.length≤99∧f.ayH.length≤99)&&(f.ayN.all Bt&&f.ayJ.all F9)) &&
 (f.ayI.all (fun x=>QD x.ayV&&decide (dS x.level∧dS x.parent))&&(f.ayF.all (fun x=>decide (dS x.model∧dS x.machine))&&f.ayH.all fun x=>decide (dS x.ayS)))
theorem apR {f:aC} (h:okB f=true):f.Ok:=by
 simp only[okB,aAF,aBI,decide_eq_true_eq] at h;obtain⟨⟨⟨y,A,B,E,F,I⟩,l,u⟩,j,w,h5⟩:=h;exact⟨by unfold Fits; omega,by unfold Fits; omega,by unfold Fits; omega,by unfold Fits; omega,by unfold Fits; omega,by unfold Fits; omega,fun x e=>Xn (l x e),fun x e=>⟨IA (j x e).1,(j x e).2⟩,w,fun x e=>Y6 (u x e),h5⟩
noncomputable def eW:aC:={ (gW [] 1 0 0).1 with ayH:=[⟨[118,48],0⟩] }
theorem jM:dB eW=true:=by decide +kernel
theorem sA:eW.Ok:=apR (by decide +kernel)
theorem J8:vS eW [[0]] []=true:=by
 unfold vS Vw;rw[jM,if_pos rfl,if_pos (by decide +kernel)];decide +kernel
end Go.PM
