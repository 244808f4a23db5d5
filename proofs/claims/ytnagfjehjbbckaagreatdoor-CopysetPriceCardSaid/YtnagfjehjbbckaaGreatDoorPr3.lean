/-
  Texts of ours, joined. No condition.
-/
import Derived.Test.YtnagfjehjbbckaaGreatDoorPr1
import Derived.Test.YtnagfjehjbbckaaGreatDoorPr2
import Derived.Lib.ItoaNum
set_option linter.unusedSimpArgs false
set_option linter.unusedVariables false
open Nat renaming reduceEqDiff → γ, reduceAdd → δ, reduceSub → ε, reduceMul → ζ, reduceLT → η, reduceLeDiff → θ, reduceBEq → τ
open Int renaming reduceLT → ι, reduceLE → κ, reduceEq → μ, reduceToNat → ν, reduceAdd → ξ, reduceNeg → ο, reduceBEq → ρ, reduceBNe → σ
open List renaming reduceReplicate → υ
open List renaming length_map → aYN, range → aYO, getElem_mem → aYQ, replicate → aYR, length_append → aYU, mem_cons → aYY, getElem?_eq_getElem → aZA, length_singleton → aZB, all_eq_true → aZC, getD_eq_getElem?_getD → aZG, length_take → aZH, not_mem_nil → aZI, take_of_length_le → aZJ, take_length → aZK, getElem?_map → aZN, map_append → aZO, mem_map → aZQ, mem_range → aZR, getElem?_eq_some_iff → aZU, take_succ_eq_append_getElem → aZW, append_assoc → a0A, drop_zero → a0B, getElem_of_mem → a0C, map_cons → a0D, mem_append → a0G, getElem?_eq_none → a0H, getElem_map → a0K, append_nil → a0M, drop_eq_getElem_cons → a0O, mem_singleton → a0Q, Sublist → a0U, length_set → a0W, map_nil → a0X, mem_of_getElem? → a1C, length_nil → a1H, nodup_append → a1J, set_append_right → a1M, take_append_drop → a1N, all_append → a1X, ext_getElem → a1Y, range_succ → a1Z, set_cons_zero → a2B, map_congr_left → a2F, nil_append → a2G, drop_of_length_le → a2L, mem_of_mem_take → a2M, countP_le_length → a2N, length_filter_le → a2O
open Nat renaming gcd → aYP, zero_le → aYS, le_refl → aYV, lt_or_ge → aZL, zero_add → aZM, le_trans → aZS, mod_eq_of_lt → a0E, mod_lt → a0I, add_zero → a0S, eq_zero_or_pos → a1B, pos_of_ne_zero → a1G, sub_self → a1Q
open Bool renaming not_true → aYT, false_and → aYW, true_and → aYZ, and_eq_true → aZD, not_false → aZF, and_false → aZV, and_true → a0T, and_assoc → a1R, false_eq_true → a1S
open Option renaming map_some → aZZ, some → a0Y, getD_some → a1L
open Int renaming toNat_natCast → a0J
open Array renaming getElem?_eq_some_iff → a2A
namespace Go.PM
open Go Go.Na
structure sR (C:Ctx):Prop extends HG C where
 inn:∀ n lo hi:Int,aH C 104 [.int .i64 n,.int .i64 lo,.int .i64 hi] .nil (aF (.bool (within n lo hi)))
 pD:∀ x:RF,x.Ok→aH C 97 [.agg x.cells] .nil (aF (.bool (bK x)))
 lim:∀ x:RF,x.Ok→aH C 105 [.agg x.cells] .nil (aF (.bool (cV x)))
 one:∀ x:RF,x.Ok→aH C 101 [.agg x.cells] .nil (aF (.bool (wZ x)))
 allf:∀ (p:RF→Bool) (fn:Nat) (l:List RF),Fits l→(∀ x∈l,aH C fn [.agg x.cells] .nil (aF (.bool (p x))))→aH C 99 [frs l,.fn fn []] .nil (aF (.bool (l.all p)))
 alli:∀ (p:Int→Bool) (fn:Nat) (l:List Int),Fits l→(∀ x∈l,aH C fn [.int .i64 x] .nil (aF (.bool (p x))))→aH C 100 [ints l,.fn fn []] .nil (aF (.bool (l.all p)))
 allb:∀ (p:Bool→Bool) (fn:Nat) (l:List Bool),Fits l→(∀ x∈l,aH C fn [.bool x] .nil (aF (.bool (p x))))→aH C 98 [akP l,.fn fn []] .nil (aF (.bool (l.all p)))
 ends1:∀ b:Bool,aH C 103 [.bool b] .nil (aF (.bool b))
 num1:∀ n:Int,aH C 107 [.int .i64 n] .nil (aF (.bool (within n 0 8)))
 rate1:∀ x:RF,x.Ok→aH C 109 [.agg x.cells] .nil (aF (.bool (cV x&&bK x)))
 name:∀ s:List UInt8,aH C 123 [.str s] .nil (aF (.bool (isName s)))
theorem sR.aBV {C:Ctx} (L:sR C) (l:List RF) (h:jR l):aH C 99 [frs l,.fn 105 []] .nil (aF (.bool (l.all cV))) :=
 L.allf cV 105 l h.fits fun x c=>L.lim x (h.all x c)
theorem within_iff {n lo hi:Int}:within n lo hi=true↔lo≤n∧n≤hi:=by simp[within]
theorem aIW {C:Ctx} (L:sR C) (p:bV) (B:p.Ok) :
  RV.wp C (aR aBC.res (cA (.bool (LX p)))) (PF.args [.int .i64 p.k,.int .i64 p.m,.int .i64 p.aYA,.agg [.int .i64 p.s0,.int .i64 p.s1,.int .i64 p.s2,.int .i64 p.s3,.int .i64 p.s4]]) .nil:=by
 simp only[go_sem,RV,abO,abP,aBC];refine aA (L.inn p.k 1 6) rfl ?_;unfold LX;cases u:within p.k 1 6 with
 | false =>simp only[go_sem,aZF,zF];exact bE rfl (by simp only[aYW])
 | true =>
  obtain⟨k1,k2⟩:=within_iff.1 u;simp only[go_sem,aYT];refine aA (L.inn p.m 0 4) rfl ?_;cases w:within p.m 0 4 with
  | false =>simp only[go_sem,aZF,zF];exact bE rfl (by simp only[aYW,aZV])
  | true =>
   obtain⟨E,F⟩:=within_iff.1 w;have l:IntKind.i64.wrap (p.k+p.m)=p.k+p.m:=wrap_i64 Om Om;by_cases i:p.k+p.m≤8
   ·have c:¬ p.k+p.m>8:=Om;simp only[go_sem,aYT,l,c];refine aA (L.inn p.aYA p.k (p.k+p.m)) rfl ?_;cases A:within p.aYA p.k (p.k+p.m) with
    | false =>simp only[go_sem,aZF,zF];exact bE rfl (by simp only[aYW,aZV])
    | true =>
     have d:(0:Int)<((5:Nat):Int):=by decide
     by_cases h5:p.s0=0
     ·have e:chunks 1 5 [PV.int .i64 p.s0,.int .i64 p.s1,.int .i64 p.s2,.int .i64 p.s3,.int .i64 p.s4]=([p.s0,p.s1,p.s2,p.s3,p.s4].map fun n=>[PV.int .i64 n]):=rfl;have y:5≤maxLen:=by decide
      simp only[go_sem,aYT,d,bS h5,abQ,e,y];refine aA (L.alli (fun n=>within n 0 8) 107 [p.s0,p.s1,p.s2,p.s3,p.s4] (show 5≤9223372036854775807 by decide) fun x _=>L.num1 x) rfl ?_;simp only[go_sem];exact bE rfl (by rw[decide_eq_true i,decide_eq_true h5]; simp only[aYZ])
     ·simp only[go_sem,aYT,d,cT h5,zF];exact bE rfl (by rw[decide_eq_false h5]; simp only[aYW,aZV])
   ·have c:p.k+p.m>8:=Om;simp only[go_sem,aYT,l,c,zF];exact bE rfl (by rw[decide_eq_false i]; simp only[aYW,aZV])
theorem max_eq (a b:Int):(if a<b then b else a)=max a b:=by
 rw[Int.max_def];by_cases h:a<b
 ·rw[if_pos h,if_pos Om]
 ·by_cases c:a≤b
  ·rw[if_neg h,if_pos c]; omega
  ·rw[if_neg h,if_neg c]
theorem aBG {C:Ctx} (L:sR C) (p:bV) (c:p.Ok) :
  JI.wp C (aR amL.res (cA (.bool (CP p)))) (PF.args [.int .i64 p.m,frs p.repair,.agg p.target.cells,.agg p.aXM.cells]) .nil:=by
 simp only[go_sem,JI,Oo,Oq,amL,max_eq,aYN];unfold CP;by_cases d:(p.repair.length:Int)=max p.m 1
 ·simp only[go_sem,bN d];refine aA (L.allf (fun x=>cV x&&bK x) 109 p.repair c.repair.fits fun x e=>L.rate1 x (c.repair.all x e)) rfl ?_;rw[decide_eq_true d,aYZ];cases i:p.repair.all fun x=>cV x&&bK x with
  | false =>simp only[go_sem];exact bE rfl rfl
  | true =>
   simp only[go_sem];refine aA (L.lim _ c.target) rfl ?_;cases l:cV p.target with
   | false =>simp only[go_sem];exact bE rfl rfl
   | true =>
    simp only[go_sem];refine aA (L.one _ c.target) rfl ?_;cases u:wZ p.target with
    | false =>simp only[go_sem];exact bE rfl rfl
    | true =>simp only[go_sem];refine aA (L.lim _ c.aXM) rfl ?_;simp only[go_sem];exact bE rfl rfl
 ·simp only[go_sem,bD d];exact bE rfl (by rw[decide_eq_false d]; rfl)
def qT (l:List (List UInt8)) (k:List KS):Option PV:=match k with
 | [.str s]=>if l.contains s then some (.bool true) else none
 | _=>none
theorem avQ (l:List (List UInt8)) (s:List UInt8):(fun k=>if k=[KS.str s] then some (PV.bool true) else qT l k)=qT (l++[s]):=by
 funext k
 match k with
 | []=>rfl
 | [.int a b]=>simp[qT]
 | [.bool a]=>simp[qT]
 | [.str t] =>
  by_cases h:t=s
  ·subst h; simp[qT]
  ·simp[qT,h]
 | a::b::c=>simp[qT]
abbrev texts (l:List (List UInt8)):PV:=.sl 1 (l.map fun s=>[PV.str s])
theorem avP:qT []=(fun _=>none:jU):=by
 funext k
 match k with
 | []=>rfl
 | [.int a b]=>rfl
 | [.bool a]=>rfl
 | [.str t]=>rfl
 | a::b::c=>cases a<;>rfl
theorem avR (l:List (List UInt8)) (s:List UInt8):jU.upd (qT l) [KS.str s] (.bool true)=qT (l++[s]):=avQ l s
theorem Uf (l:List (List UInt8)) (s:List UInt8):(qT l [KS.str s]).getD (.bool false)=.bool (l.contains s):=by
 show (if l.contains s then some (PV.bool true) else none).getD (.bool false)=_;cases l.contains s<;>rfl
theorem x7 {p:Nat→Bool} {k:Nat} (h:(aYO k).all p=true) (c:p k=true):(aYO (k+1)).all p=true:=by
 rw[a1Z,a1X,h]; simp[c]
theorem fD {p:Nat→Bool} {n k:Nat} (c:k<n) (d:p k=false):(aYO n).all p=false:=by
 rw[List.all_eq_false];exact⟨k,aZR.2 c,by simp[d]⟩
def rI (p:Nat→Bool) (k:Nat):Prop:=(aYO k).all p=true
theorem rI.zero {p:Nat→Bool}:rI p 0:=rfl
theorem rI.step {p:Nat→Bool} {k:Nat} (h:rI p k) (c:p k=true):rI p (k+1):=x7 h c
def apM (l:List (List UInt8)) (o k:Nat):PF:=((((PF.nil.set 3 (.map o)).set 7 (texts l)).set 8 (.int .i64 (l.length:Nat))).set 9 (.int .i64 k))
theorem aBJ {C:Ctx} (L:sR C) (l:List (List UInt8)) (E:Fits l):JJ.wp C (aR amO.res (cA (.bool (distinct l)))) (PF.args [texts l]) .nil:=by
 simp only[go_sem,JJ,Ox,Oy,amO];refine aN fun o H=>?_;simp only[go_sem,Oz];have y:(PH.nil.set o (.map (false,[.str]) (fun _=>none)))=PH.nil.set o (.map (false,[.str]) (qT (l.take 0))):=by rw[List.take_zero,avP]
 unfold distinct;generalize A:(fun i=>isName (l.getD i [])&&!(l.take i).contains (l.getD i []))=p;have u:∀ k (h:k<l.length),p k=(isName l[k]&&!(l.take k).contains l[k]):=by intro k h;rw[← A];simp only[aZG,aZA h,a1L]
 refine wp_loop (α:=Nat) (fun k=>apM l o k) (fun k=>PH.nil.set o (.map (false,[.str]) (qT (l.take k)))) (fun k=>k≤l.length∧rI p k) (fun k=>l.length-k) 0 ⟨aYS _,.zero⟩ ?_ ?_ ?_
 ·unfold apM
  (repeat' (first|exact c_|refine d_ ?_ ?_))<;>first|(simp only[go_sem,aYN]<;>rfl)|rfl
 ·rw[y]; exact b_
 rintro k ⟨F,x⟩;simp only[go_sem,Ow,O0,apM];by_cases hlt:k<l.length
 ·have d:(k:Int)<(l.length:Nat):=Om;have B:(l.map fun s=>[PV.str s])[k]?=some [.str l[k]]:=by simp[hlt]
  simp only[go_sem,d,O1,B,O2];refine aA (L.name l[k]) rfl ?_;have c:=u k hlt;cases w:isName l[k] with
  | false =>rw[w,aYW] at c;simp only[go_sem,aZF,bv];exact bE (b:=false) rfl (fD hlt c).symm
  | true =>
   rw[w,aYZ] at c;cases e:(l.take k).contains l[k] with
   | true =>rw[e] at c;simp only[go_sem,aYT,Uf,e,bv];exact bE (b:=false) rfl (fD hlt c).symm
   | false =>
    rw[e] at c;simp only[go_sem,aYT,Uf,e,O3,avR,O4,wZz k];refine aD (k+1) ⟨hlt,x.step c⟩ Om ?_ ?_
    ·exact Lq
    ·rw[aZW hlt];exact PH.aK a_ Sq
 ·have d:¬ (k:Int)<(l.length:Nat):=Om;simp only[go_sem,d,B5];have:k=l.length:=Om;subst this;exact bE (b:=true) rfl (show rI p l.length from x).symm
def marks (n:Nat) (l:List Int):List Bool:=(aYO n).map fun (i:Nat)=>l.contains (i:Int)
theorem SC (n:Nat) (l:List Int):(marks n l).length=n:=by simp[marks]
theorem Ck (n:Nat):marks n []=aYR n false:=by
 refine a1Y (by simp[marks]) fun i c d=>by simp[marks]
theorem AS {n:Nat} {l:List Int} {m:Int} (c:0≤m) (d:m<n):(marks n l)[m.toNat]?=some (l.contains m):=by
 have:m.toNat<n:=Om;simp only[marks,aZN,List.getElem?_range this,aZZ];rw[Int.toNat_of_nonneg c]
theorem SD {n:Nat} {l:List Int} {m:Int} (d:0≤m) (e:m<n):(marks n l).set m.toNat true=marks n (l++[m]):=by
 refine a1Y (by simp[marks]) fun i p u=>?_;simp only[marks,a0K,List.getElem_range,List.getElem_set,List.contains_append];by_cases h:m.toNat=i
 ·subst h;rw[if_pos rfl,Int.toNat_of_nonneg d]; simp
 ·have c:((i:Nat):Int)≠m:=Om;rw[if_neg h]; simp[c]
abbrev dM (l:List Bool):List (List PV):=l.map fun b=>[PV.bool b]
theorem kE (l:List Bool) (i:Nat) (b:Bool):(dM l).set i [.bool b]=dM (l.set i b):=by unfold dM; rw[List.map_set]
structure Jt (C:Ctx):Prop extends sR C where
 num:∀ p:bV,p.Ok→aH C 106 [.int .i64 p.k,.int .i64 p.m,.int .i64 p.aYA,.agg [.int .i64 p.s0,.int .i64 p.s1,.int .i64 p.s2,.int .i64 p.s3,.int .i64 p.s4]] .nil (aF (.bool (LX p)))
 rate:∀ p:bV,p.Ok→aH C 108 [.int .i64 p.m,frs p.repair,.agg p.target.cells,.agg p.aXM.cells] .nil (aF (.bool (CP p)))
 uniq:∀ l:List (List UInt8),Fits l→aH C 110 [texts l] .nil (aF (.bool (distinct l)))
def aDL (p:bV) (aXD:Nat) (o k:Nat):PF:=(((((PF.nil.set 1 (.int .i64 aXD)).set 5 (.osl o 1 0 aXD)).set 39 (ints p.aXD)).set 40 (.int .i64 (p.aXD.length:Nat))).set 41 (.int .i64 k))
theorem aJA {C:Ctx} (L:Jt C) (p:bV) (B:p.Ok) (aXD:Nat) (R:aXD≤4):RX.wp C (aR aBF.res (cA (.bool (jO aXD p)))) (PF.args [.agg p.cells,.int .i64 aXD]) .nil:=by
 simp only[go_sem,RX,abU,abV,aBF];refine aA (L.num p B) rfl ?_;unfold jO;cases l:LX p with
 | false =>simp only[go_sem,aZF,WF];exact bE rfl (by simp only[aYW])
 | true =>
  by_cases i:p.aXD.length=0
  ·simp only[go_sem,aYT,aYN,bN (Om:(p.aXD.length:Int)=0),WF];refine bE rfl ?_;have:decide (p.aXD.length≠0)=false:=by simp[i]
   rw[this]; simp only[aYW,aZV]
  ·have x:decide (p.aXD.length≠0)=true:=by simp[i]
   simp only[go_sem,aYT,aYN,bD (Om:(p.aXD.length:Int)≠0)];refine aA (L.rate p B) rfl ?_;rw[x];cases O:CP p with
   | false =>simp only[go_sem,aZF,WF];exact bE rfl (by simp only[aYW,aZV])
   | true =>
    have y:((aXD:Nat):Int)*((1:Nat):Int)≤140737488355328:=Om;have A:((aXD:Nat):Int)≤9223372036854775807:=Om;simp only[aYZ];simp only[go_sem,aYT,abW,y,A];refine aN fun o S=>?_;simp only[go_sem,abX];have J:aYR aXD [PV.bool false]=dM (marks aXD (p.aXD.take 0)):=by rw[List.take_zero,Ck]; simp[dM]
    rw[J];generalize K:(fun j=>within (p.aXD.getD j 0) 0 ((aXD:Int)-1)&&!(p.aXD.take j).contains (p.aXD.getD j 0))=q;have E:∀ k (h:k<p.aXD.length),q k=(within p.aXD[k] 0 ((aXD:Int)-1)&&!(p.aXD.take k).contains p.aXD[k]):=by intro k h;rw[← K];simp only[aZG,aZA h,a1L]
    refine wp_loop (α:=Nat) (fun k=>aDL p aXD o k) (fun k=>PH.nil.set o (.rows 1 (dM (marks aXD (p.aXD.take k))))) (fun k=>k≤p.aXD.length∧rI q k) (fun k=>p.aXD.length-k) 0 ⟨aYS _,.zero⟩ ?_ (b_) ?_
    ·unfold aDL
     (repeat' (first|exact c_|refine d_ ?_ ?_))<;>first|(simp only[go_sem,aYN]<;>rfl)|rfl
    rintro k ⟨Q,F⟩;simp only[go_sem,Oi,abY,aDL];have H:=B.aXD;by_cases hlt:k<p.aXD.length
    ·have d:(k:Int)<(p.aXD.length:Nat):=Om;have M:(p.aXD.map fun n=>[PV.int .i64 n])[k]?=some [.int .i64 p.aXD[k]]:=by simp[hlt]
     have N:IntKind.i64.wrap ((aXD:Int)-1)=(aXD:Int)-1:=wrap_i64 Om Om;simp only[go_sem,d,abZ,M,acA,N];refine aA (L.inn p.aXD[k] 0 ((aXD:Int)-1)) rfl ?_;have c:=E k hlt;cases l:within p.aXD[k] 0 ((aXD:Int)-1) with
     | false =>rw[l,aYW] at c;simp only[go_sem,aZF,wn];exact bE (b:=false) rfl (fD hlt c).symm
     | true =>
      rw[l,aYZ] at c;obtain⟨u,U⟩:=within_iff.1 l;have w:p.aXD[k]<(aXD:Nat):=Om;have e:(dM (marks aXD (p.aXD.take k)))[p.aXD[k].toNat]?=some [.bool ((p.aXD.take k).contains p.aXD[k])]:=by unfold dM;rw[aZN,AS u w]; rfl
      cases i:(p.aXD.take k).contains p.aXD[k] with
      | true =>rw[i] at c e;simp only[go_sem,aYT,u,w,aZM,e,wn];exact bE (b:=false) rfl (fD hlt c).symm
      | false =>
       rw[i] at c e;simp only[go_sem,aYT,u,w,aZM,e,acB,kE,SD u w,Oj,wZz k];refine aD (k+1) ⟨hlt,F.step c⟩ Om ?_ ?_
       ·exact Lq
       ·rw[aZW hlt];exact PH.aK a_ Sq
    ·have d:¬ (k:Int)<(p.aXD.length:Nat):=Om;simp only[go_sem,d,Ol];have:k=p.aXD.length:=Om;subst this;exact bE (b:=true) rfl (show rI q p.aXD.length from F).symm
def azM:PV→RF
 | .agg [.bool n,a,b]=>⟨n,jK a,jK b⟩
 | _=>⟨false,[],[]⟩
theorem alI (x:RF):azM (.agg x.cells)=x:=by
 show (⟨x.neg,jK (aJ x.num),jK (aJ x.den)⟩:RF)=x;rw[eO,eO]
def flS:Spec:=fun name vs=>match name,vs with
 | 104,[.int _ n,.int _ lo,.int _ hi]=>some ([],fun _=>aF (.bool (within n lo hi)))
 | 105,[x]=>some ([],fun _=>aF (.bool (cV (azM x))))
 | 97,[x]=>some ([],fun _=>aF (.bool (bK (azM x))))
 | _,_=>none
theorem Mu (n lo hi:Int):flS 104 [.int .i64 n,.int .i64 lo,.int .i64 hi]=some ([],fun _=>aF (.bool (within n lo hi))):=rfl
theorem aIH (x:RF):flS 105 [.agg x.cells]=some ([],fun _=>aF (.bool (cV x))):=by
 show some _=_; rw[alI]
def amI (f:aE) (t:List cE) (k:Nat):PF:=((((PF.nil.set 1 (.bH f.cells)).set 45 (.sl 7 (t.map cE.cells))).set 46 (.int .i64 (t.length:Nat))).set 47 (.int .i64 k))
theorem aIQ {C:Ctx} (L:sR C) (f:aE) (Y:f.Ok):CF.wp C (aR amH.res (cA (.bool (oH f)))) (PF.args [.agg f.cells]) .nil:=by
 obtain⟨aYG,aXJ,aXD,aXF,aXC,aXG,aXE⟩:=f;cases aXF with
 | nil =>rw[show oH ⟨aYG,aXJ,aXD,[],aXC,aXG,aXE⟩=false from rfl];simp only[go_sem,CF,wh,wj,amH,a0X,a1H];have:(((0:Nat):Int)==0)=true:=rfl;simp only[go_sem,this,aaY];exact bE rfl rfl
 | cons r t =>
  generalize hF:(⟨aYG,aXJ,aXD,r::t,aXC,aXG,aXE⟩:aE)=f at *
  have A:f.aXF=r::t:=by rw[← hF]
  have hP:oH f=CB f r t:=by unfold oH; rw[A]
  rw[hP];unfold CB;have e:f.aXF.length=t.length+1:=by rw[A]; rfl
  have Z:=Y.aXF;have H:(f.aXF.map cE.cells)[0]?=some r.cells:=by rw[A]; rfl
  have β:(f.aXF.map cE.cells)[Int.toNat 0]?=some r.cells:=H;have E:=Y.dom;have u:=E r (by rw[A]; exact List.mem_cons_self ..);simp only[go_sem,CF,wh,wj,amH,aYN,e,bD (Om:((t.length+1:Nat):Int)≠0),aaZ,H];refine aN fun o ho=>?_;by_cases w:r.name=[]
  ·rw[decide_eq_true w];by_cases y:r.level=0
   ·rw[decide_eq_true y];by_cases B:r.parent=-1
    ·rw[decide_eq_true B];by_cases J:r.aXW=0
     ·rw[decide_eq_true J];simp only[go_sem,zD,qC w,aYT,bS y,bS B,bS J];refine aA (L.lim r.aXR u.1) rfl ?_;cases c5:cV r.aXR with
      | false =>simp only[go_sem,aZF,uO];exact bE rfl (by simp only[aZV,aYW])
      | true =>
       simp only[go_sem,aYT];refine aA (L.pD r.aXR u.1) rfl ?_;cases c6:bK r.aXR with
       | true =>simp only[go_sem,uO];exact bE rfl (by simp only[aYT,aZV,aYW])
       | false =>
        have S:(0:Int)≤1∧(1:Int)≤((t.length+1:Nat):Int):=Om;have x:((f.aXF.map cE.cells).take (t.length+1)).drop (Int.toNat 1)=t.map cE.cells:=by rw[aZJ (by simp[e]),A]; rfl
        have p:((f.aXF.map cE.cells).take (t.length+1)).drop 1=t.map cE.cells:=x;simp only[go_sem,abA,aYN,e,S,p,a0J];generalize hq:(fun i=>match t[i]? with | some d=>IN f i d | none=>false)=q;have Q:∀ k (h:k<t.length),q k=IN f k t[k]:=by intro k h;rw[← hq];simp only[aZA h]
        refine wp_loop (α:=Nat) (fun k=>amI f t k) (fun k=>.nil) (fun k=>k≤t.length∧rI q k) (fun k=>t.length-k) 0 ⟨aYS _,.zero⟩ ?_ a_ ?_
        ·unfold amI
         (repeat' (first|exact c_|refine d_ ?_ ?_))<;>first|(simp only[go_sem,aYN]<;>rfl)|rfl
        rintro k ⟨hk,X⟩;simp only[go_sem,N4,abB,amI];by_cases hlt:k<t.length
        ·have l:(k:Int)<(t.length:Nat):=Om;have R:(t.map cE.cells)[k]?=some (t[k]).cells:=by simp[hlt]
         have N:=E t[k] (by rw[A]; exact List.mem_cons_of_mem _ (aYQ hlt));have c:=Q k hlt;unfold IN at c;simp only[go_sem,l,abC,R];refine aN fun o2 γ=>?_;simp only[go_sem];refine bO .nil flS a_ ?_;simp only[go_sem,abD];refine bP (Mu _ 0 k) (L.inn (t[k]).parent 0 k) rfl a_ ?_;cases M:within (t[k]).parent 0 k with
         | false =>simp only[M,aYW] at c;simp only[go_sem,aZF,uN];exact bE (b:=false) rfl (fD hlt c).symm
         | true =>
          obtain⟨i1,i2⟩:=within_iff.1 M;have i3:(t[k]).parent.toNat<f.aXF.length:=Om;have F:(f.aXF.map cE.cells)[(t[k]).parent.toNat]?=some (f.aXF[(t[k]).parent.toNat]).cells:=by simp[i3]
          have O:(f.aXF.map cE.level).getD (t[k]).parent.toNat 0=(f.aXF[(t[k]).parent.toNat]).level:=by simp[i3]
          rw[O,M,aYZ] at c;by_cases K:(f.aXF[(t[k]).parent.toNat]).level=IntKind.i64.wrap ((t[k]).level-1)
          ·rw[decide_eq_true K,aYZ] at c;simp only[go_sem,aYT,i1,F,bS K];refine bP (Mu _ 1 4) (L.inn (t[k]).level 1 4) rfl a_ ?_;cases U:within (t[k]).level 1 4 with
           | false =>simp only[U,aYW] at c;simp only[go_sem,aZF,uN];exact bE (b:=false) rfl (fD hlt c).symm
           | true =>
            rw[U,aYZ] at c;simp only[go_sem,aYT];refine bP (Mu _ 1 64) (L.inn (t[k]).aXW 1 64) rfl a_ ?_;cases V:within (t[k]).aXW 1 64 with
            | false =>simp only[V,aYW] at c;simp only[go_sem,aZF,uN];exact bE (b:=false) rfl (fD hlt c).symm
            | true =>
             rw[V,aYZ] at c;simp only[go_sem,aYT];refine bP (aIH (t[k]).aXR) (L.lim _ N.1) rfl a_ ?_;cases W:cV (t[k]).aXR with
             | false =>rw[W] at c;simp only[go_sem,aZF,uN];exact bE (b:=false) rfl (fD hlt c).symm
             | true =>rw[W] at c;simp only[go_sem,aYT,N5,wZz k];refine aD (k+1) ⟨hlt,X.step c⟩ Om ?_ a_;exact Lq
          ·simp only[decide_eq_false K,aYW] at c;simp only[go_sem,aYT,i1,F,cT K,uN];exact bE (b:=false) rfl (fD hlt c).symm
        ·have l:¬ (k:Int)<(t.length:Nat):=Om;simp only[go_sem,l,N6];have:k=t.length:=Om;subst this;exact bE (b:=true) rfl (show rI q t.length from X).symm
     ·simp only[go_sem,zD,qC w,aYT,bS y,bS B,cT J,uO];exact bE rfl (by rw[decide_eq_false J]; simp only[aZV,aYW])
    ·simp only[go_sem,zD,qC w,aYT,bS y,cT B,uO];exact bE rfl (by rw[decide_eq_false B]; simp only[aZV,aYW])
   ·simp only[go_sem,zD,qC w,aYT,cT y,uO];exact bE rfl (by rw[decide_eq_false y]; simp only[aZV,aYW])
  ·simp only[go_sem,zD,ir w,aZF,uO];exact bE rfl (by rw[decide_eq_false w]; simp only[aZV,aYW])
theorem tV (R:List Bool) (i:Nat) (row:List RF):∀ k,(cN R i row k).length=R.length
 | 0=>rfl
 | k+1=>by simp only[cN,a0W,tV R i row k]
theorem Tk (l:cG) (R:List Bool) (i:Nat):(kP l R i).length=R.length:=by
 unfold kP; rw[tV,a0W]
theorem qQ (l:cG) (R:List Bool):∀ i,(cY l R i).length=R.length
 | 0=>rfl
 | i+1=>by simp only[cY,Tk,qQ l R i]
theorem qP (l:cG):∀ r,(cZ l r).length=l.exit.length
 | 0=>by simp[cZ]
 | r+1=>by simp only[cZ,qQ,qP l r]
theorem rR {R:List Bool} {i:Nat} (h:i<R.length):(dM R)[i]?=some [.bool (R.getD i false)]:=by
 unfold dM;rw[aZN,aZA h,aZG,aZA h]; rfl
theorem BT (R:List Bool):(dM R).length=R.length:=by simp[dM]
def VZ (l:cG) (o r:Nat):PF:=(((PF.nil.set 1 (.bH l.cells)).set 3 (.osl o 1 0 l.exit.length)).set 4 (.int .i64 r))
def IR (l:cG) (o r i:Nat):PF:=(((((PF.nil.set 1 (.bH l.cells)).set 3 (.osl o 1 0 l.exit.length)).set 4 (.int .i64 r)).set 19 (.int .i64 (l.exit.length:Nat))).set 20 (.int .i64 i))
def tB (l:cG) (o r i:Nat) (row:List RF) (k:Nat):PF:=(((((((((PF.nil.set 1 (.bH l.cells)).set 3 (.osl o 1 0 l.exit.length)).set 4 (.int .i64 r)).set 19 (.int .i64 (l.exit.length:Nat))).set 20 (.int .i64 i)).set 5 (.int .i64 i)).set 42 (frs row)).set 43 (.int .i64 (row.length:Nat))).set 44 (.int .i64 k))
def iJ (o:Nat) (R:List Bool):PH:=PH.nil.set o (.rows 1 (dM R))
theorem Xz {C:Ctx} (L:sR C) (l:cG) (o r i:Nat) (row:List RF) (E:jR row) (W:row.length=l.exit.length) (hi:i<l.exit.length) (hn:l.exit.length≤4) (d:List Bool) (X:d.length=l.exit.length) (K:bT) (F:PF) (H:PH)
  (N:(tB l o r i row 0).le F) (J:(iJ o d).le H)
  (U:∀ F H,(tB l o r i row row.length).le F→(iJ o (cN d i row row.length)).le H→K .normal F H) :
  aC.wp C (.block 4 (.loop CG)) K F H:=by
 simp only[go_sem];refine wp_loop (α:=Nat) (fun k=>tB l o r i row k) (fun k=>iJ o (cN d i row k)) (fun k=>k≤row.length) (fun k=>row.length-k) 0 (aYS _) N J ?_;intro k Z;simp only[go_sem,CG,Oe,tB,iJ];have Q:=tV d i row k;by_cases hlt:k<row.length
 ·have e:(k:Int)<(row.length:Nat):=Om;have V:(row.map RF.cells)[k]?=some (row[k]).cells:=by simp[hlt]
  simp only[go_sem,e,Bw,V];refine aN fun o7 B=>?_;have M:o≠o7:=by rintro rfl; simp only[aT,if_true] at B; cases B
  have u:(i:Int)<(l.exit.length:Nat):=Om;have y:(k:Int)<(l.exit.length:Nat):=Om;have p:=rR (R:=cN d i row k) (i:=i) Om;have w:=rR (R:=cN d i row k) (i:=k) Om;have x:cN d i row (k+1)=(cN d i row k).set i ((cN d i row k).getD i false||bK row[k]&&(cN d i row k).getD k false):=by simp only[cN,aZG,aZN,aZA hlt,aZZ,a1L]
  have fin:∀ (b:Bool) (F:PF) (H:PH),b=((cN d i row k).getD i false||bK row[k]&&(cN d i row k).getD k false)→(tB l o r i row (k+1)).le F→H o=some (.rows 1 ((dM (cN d i row k)).set i [.bool b])) →
    fR (fun k=>tB l o r i row k) (fun k=>iJ o (cN d i row k)) (fun k=>k≤row.length) (fun k=>row.length-k) (row.length-k) (fF 4 K) .normal F H:=by
   intro b F H O N J;refine aD (k+1) hlt Om N ?_;rw[kE,O,← x] at J;exact PH.aK a_ J
  unfold tB iJ at fin;generalize O:(cN d i row k).getD i false=b at *
  generalize Y:(cN d i row k).getD k false=c at *
  generalize S:bK row[k]=A at *
  cases b with
  | true =>simp only[go_sem,RR,M,u,aZM,p,CI,wZz k];exact fin true _ _ (by simp) Lq Sq
  | false =>
   simp only[go_sem,RR,M,u,aZM,p];refine aA (L.pD _ (E.all _ (aYQ hlt))) rfl ?_;rw[S];cases A with
   | false =>simp only[go_sem,u,y,M,aZM,p,w,CI,wZz k];exact fin false _ _ (by simp) Lq Sq
   | true =>simp only[go_sem,u,y,M,aZM,p,w,CI,wZz k];exact fin c _ _ (by simp) Lq Sq
 ·have e:¬ (k:Int)<(row.length:Nat):=Om;simp only[go_sem,e];have:k=row.length:=Om;subst this;exact U _ _ (by unfold tB; exact Lq) (b_)
structure BP (l:cG):Prop where
 n:l.exit.length≤4
 aXH:l.aXH.length=l.exit.length
 row:∀ r∈l.aXH,r.length=l.exit.length
theorem X0 {C:Ctx} (L:sR C) (l:cG) (Q:l.Ok) (N:BP l) (o r:Nat) (R:List Bool) (hR:R.length=l.exit.length) (K:bT) (F:PF) (H:PH)
  (p:(IR l o r 0).le F) (J:(iJ o R).le H)
  (hK:∀ F H,(VZ l o r).le F→(iJ o (cY l R l.exit.length)).le H→K .normal F H) :
  aC.wp C (.block 2 (.loop CH)) K F H:=by
 simp only[go_sem];refine wp_loop (α:=Nat) (fun i=>IR l o r i) (fun i=>iJ o (cY l R i)) (fun i=>i≤l.exit.length) (fun i=>l.exit.length-i) 0 (aYS _) p J ?_;intro i hi;have S:=qQ l R i;have hn:=N.n;by_cases hlt:i<l.exit.length
 ·have c:(i:Int)<(l.exit.length:Nat):=Om;have e:i<l.aXH.length:=by rw[N.aXH]; exact hlt
  have u:=rR (R:=cY l R i) (i:=i) Om;have hx:(l.exit.map RF.cells)[i]?=some (l.exit[i]).cells:=by simp[hlt]
  have A:(l.aXH.map fun r=>[frs r])[i]?=some [frs l.aXH[i]]:=by simp[e]
  have O:(l.aXH[i]).length=l.exit.length:=N.row _ (aYQ e);generalize d:(cY l R i).set i ((cY l R i).getD i false||bK l.exit[i])=B;have y:B.length=l.exit.length:=by rw[← d,a0W]; omega
  have w:cY l R (i+1)=cN B i l.aXH[i] (l.aXH[i]).length:=by
   simp only[cY,kP];have V:(l.exit.map bK).getD i false=bK l.exit[i]:=by simp[aZG,hlt]
   have W:l.aXH.getD i []=l.aXH[i]:=by simp[aZG,e]
   rw[V,W,d]
  have rest:∀ (F:PF) (H:PH),(((((((PF.nil.set 1 (.bH l.cells)).set 3 (.osl o 1 0 l.exit.length)).set 4 (.int .i64 r)).set 19 (.int .i64 (l.exit.length:Nat))).set 20 (.int .i64 i)).set 5 (.int .i64 i)):PF).le F→H o=some (.rows 1 (dM B)) →
    aC.wp C (.seq (.region bk) (.block 4 (.loop CG))) (fF 3 (gS C (aC.wp C (.region RS)) (fR (fun i=>IR l o r i) (fun i=>iJ o (cY l R i)) (fun i=>i≤l.exit.length) (fun i=>l.exit.length-i) (l.exit.length-i) (fF 2 K)))) F H:=by
   intro F H p J;have f1:F 1=some (.bH l.cells):=p 1 _ rfl;have f3:F 3=some (.osl o 1 0 l.exit.length):=p 3 _ rfl;have f4:F 4=some (.int .i64 r):=p 4 _ rfl;have X:F 19=some (.int .i64 (l.exit.length:Nat)):=p 19 _ rfl;have Y:F 20=some (.int .i64 i):=p 20 _ rfl;have Z:F 5=some (.int .i64 i):=p 5 _ rfl;rw[y9];simp only[go_sem,bk,f1,Z,A,aYN];have inner:=Xz L l o r i l.aXH[i] (Q.row _ (aYQ e)) O hlt hn B y;simp only[aC.wp,go_sem] at inner;refine inner _ _ _ ?_ (PH.aK a_ J) ?_
   ·unfold tB;exact Lq
   ·intro U H' x M;have E:U 20=some (.int .i64 i):=x 20 _ (by unfold tB; simp only[go_sem]);simp only[go_sem,RS,E,wZz i];refine aD (i+1) hlt Om ?_ (by rw[w]; exact M);have g:=fun (q:Nat) v h=>x q v h;unfold IR;unfold tB at g;refine d_ (d_ (d_ (d_ (d_ c_ ?_) ?_) ?_) ?_) ?_
    ·simp only[go_sem]; exact g 1 _ rfl
    ·simp only[go_sem]; exact g 3 _ rfl
    ·simp only[go_sem]; exact g 4 _ rfl
    ·simp only[go_sem]; exact g 19 _ rfl
    ·simp only[go_sem]
  simp only[aC.wp,go_sem] at rest;simp only[go_sem,CH,bi,IR,iJ,c,Od];generalize hb:(cY l R i).getD i false=b at *
  cases b with
  | true =>simp only[go_sem,bj,c,aZM,u];refine rest _ _ Lq ?_;rw[← d];simp only[go_sem,kE,Bool.true_or]
  | false =>simp only[go_sem,bj,c,aZM,u,hx];refine aA (L.pD _ (Q.exit.all _ (aYQ hlt))) rfl ?_;simp only[go_sem,c,aZM,u];refine rest _ _ Lq ?_;rw[← d];simp only[go_sem,kE,Bool.false_or]
 ·have c:¬ (i:Int)<(l.exit.length:Nat):=Om;simp only[go_sem,CH,bi,IR,iJ,c];have:i=l.exit.length:=Om;subst this;exact hK _ _ (by unfold VZ; exact Lq) b_
theorem aAY {C:Ctx} (L:sR C) (l:cG) (E:l.Ok) (y:BP l):JE.wp C (aR amJ.res (cA (.bool (pE l)))) (PF.args [.agg l.cells]) .nil:=by
 have F:=y.n;have u:(l.exit.length:Int)*((1:Nat):Int)≤140737488355328:=Om;have w:(l.exit.length:Int)≤9223372036854775807:=Om;simp only[go_sem,JE,N8,N9,amJ,aYN,u,w];refine aN fun o H=>?_;simp only[go_sem,Oa];refine wp_loop (α:=Nat) (fun r=>VZ l o r) (fun r=>iJ o (cZ l r)) (fun r=>r≤l.exit.length+1) (fun r=>l.exit.length+1-r) 0 (aYS _) ?_ ?_ ?_
 ·unfold VZ;exact Lq
 ·refine PH.aK a_ ?_;simp only[go_sem,cZ];simp[dM]
 intro r J;have d:=qP l r;simp only[go_sem,Bv,Ob,VZ,iJ];by_cases hlt:r≤l.exit.length
 ·have c:(r:Int)≤(l.exit.length:Nat):=Om;simp only[go_sem,c,Oc];have inner:=X0 L l E y o r (cZ l r) d;simp only[aC.wp,go_sem] at inner;refine inner _ _ _ ?_ b_ ?_
  ·unfold IR;exact Lq
  ·intro A H' i p;have g:=fun (q:Nat) v h=>i q v h;unfold VZ at g;have g4:A 4=some (.int .i64 r):=g 4 _ rfl;simp only[go_sem,Bx,g4,wZz r];refine aD (r+1) Om Om ?_ p;refine d_ (d_ (d_ c_ ?_) ?_) ?_
   ·simp only[go_sem]; exact g 1 _ rfl
   ·simp only[go_sem]; exact g 3 _ rfl
   ·simp only[go_sem]
 ·have c:¬ (r:Int)≤(l.exit.length:Nat):=Om;have:r=l.exit.length+1:=Om;subst this;simp only[go_sem,c,By];have e:=L.allb id 103 (cZ l (l.exit.length+1)) (Om:(cZ l (l.exit.length+1)).length≤_) fun x _=>L.ends1 x;have B:(dM (cZ l (l.exit.length+1))).length=l.exit.length:=by rw[BT,d]
  refine rH e (rs:=dM (cZ l (l.exit.length+1))) (o:=o) (s:=1) Sq ?_ ?_
  ·simp only[go_sem,qF (show l.exit.length≤(dM (cZ l (l.exit.length+1))).length by omega),aZJ (show (dM (cZ l (l.exit.length+1))).length≤l.exit.length by omega)]
  ·simp only[go_sem];exact bE rfl rfl
structure ia (C:Ctx):Prop extends Jt C where
 ends:∀ l:cG,l.Ok→BP l→aH C 102 [.agg l.cells] .nil (aF (.bool (pE l)))
def rY (l:cG) (i:Nat):Bool:=decide ((l.aXH.getD i []).length=l.start.length)&&(l.aXH.getD i []).all cV&&!((l.aXH.getD i []).map bK).getD i false
def vG (l:cG):Bool:=match nU (l.start.map RF.v) with
 | .ok (n,a,b)=>decide (oL n a b false 1 1=0)
 | .error _=>false
theorem acJ (l:cG):kG l=(within l.start.length 1 4&&decide (l.exit.length=l.start.length)&&decide (l.aXH.length=l.start.length)&&l.start.all cV&&l.exit.all cV&&(aYO l.aXH.length).all (rY l)&&vG l&&pE l):=rfl
theorem Uo {l:List FV} {e:Int} (h:nU l=.error e):e≠0:=by
 have:∀ (l:List FV) (b:FV) (e:Int),l.foldlM fW b=.error e→e≠0:=by
  intro l
  induction l with
  | nil=>intro b e h; cases h
  | cons x t i =>
   intro b e h;rw[List.foldlM_cons] at h;cases c:fW b x with
   | error d =>
    rw[c] at h;have:d=e:=by injection h
    subst this;obtain⟨p,a1,b1⟩:=b;obtain⟨u,a2,b2⟩:=x;simp only[fW] at c;split at c
    ·split at c
     ·rw[JY c]; decide
     ·split at c
      ·rw[JY c]; decide
      ·rw[JY c]; decide
    ·injection c with c; subst c; decide
   | ok y=>rw[c] at h; exact i y e h
 exact this l _ e h
theorem agC {l:List FV} {r:FV} (h:nU l=.ok r):r.rf.Ok:=by
 have:∀ (l:List FV) (b r:FV),b.rf.Ok→l.foldlM fW b=.ok r→r.rf.Ok:=by
  intro l
  induction l with
  | nil=>intro b r d h; injection h with h; subst h; exact d
  | cons x t e =>
   intro b r d h;rw[List.foldlM_cons] at h;cases c:fW b x with
   | error i=>rw[c] at h; cases h
   | ok y=>rw[c] at h; exact e y r (vm c) h
 refine this l _ r ⟨aV _,aV _,?_,?_⟩ h
 ·show (aI 0).length≤_;rw[dW]; simp
 ·show (aI 1).length≤_;rw[oV (by decide) (by decide)]; simp
theorem JZ {neg:Bool} {a b:Nat} {r:FV} (c:b≠0) (h:gR neg a b=.ok r):cJ r.2.1 r.2.2=true:=by
 unfold gR at h;split at h
 ·cases h
 ·rename_i l;injection h with h
  subst h;have d:aYP a b ∣ b:=Nat.gcd_dvd_right _ _;have e:b/aYP a b≠0:=by have:=Nat.div_pos (Nat.le_of_dvd (a1G c) d) (a1G fun h=>c (Nat.gcd_eq_zero_iff.1 h).2);omega
  have i:=@kD (b/aYP a b);simp only[cJ,aZD,decide_eq_true_eq];omega
theorem akG {x y r:FV} (h:fW x y=.ok r):cJ r.2.1 r.2.2=true:=by
 obtain⟨e,a1,b1⟩:=x;obtain⟨i,a2,b2⟩:=y;simp only[fW] at h;split at h
 ·rename_i d;rw[aZD] at d;have c:b1*b2≠0:=Nat.mul_ne_zero (dZ.1 d.1).1 (dZ.1 d.2).1;split at h
  ·exact JZ c h
  ·split at h
   ·exact JZ c h
   ·exact JZ c h
 ·cases h
theorem apU:cJ 0 1=true:=by
 have:cL 1=1:=by rw[pP (by decide),jT]
 simp[cJ,this,jT]
theorem rv {l:List FV} {r:FV} (h:nU l=.ok r):cJ r.2.1 r.2.2=true:=by
 have:∀ (l:List FV) (b r:FV),cJ b.2.1 b.2.2=true→l.foldlM fW b=.ok r→cJ r.2.1 r.2.2=true:=by
  intro l
  induction l with
  | nil=>intro b r d h; injection h with h; subst h; exact d
  | cons x t e =>
   intro b r d h;rw[List.foldlM_cons] at h;cases c:fW b x with
   | error i=>rw[c] at h; cases h
   | ok y=>rw[c] at h; exact e y r (akG c) h
 exact this l _ r apU h
theorem azZ:(⟨false,[],[]⟩:RF).Ok:=⟨fun _ h=>absurd h (aZI),fun _ h=>absurd h (aZI),show 0≤35184372087808 by decide,show 0≤35184372087808 by decide⟩
def aBR (l:cG) (k:Nat):PF:=(((((PF.nil.set 1 (.bH l.cells)).set 3 (.int .i64 (l.start.length:Nat))).set 45 (aoV l.aXH)).set 46 (.int .i64 (l.aXH.length:Nat))).set 47 (.int .i64 k))
theorem asP {C:Ctx} (L:ia C) (l:cG) (B:l.Ok) (K:BP l) (F:PF) (A:F 1=some (.bH l.cells)) :
  aC.wp C (.seq (.region bn) (.seq (.region JF) (.seq (.region JG) (.seq (.region uP) .ret)))) (aR [.tmp 2] (cA (.bool (vG l&&pE l)))) F .nil:=by
 simp only[go_sem,bn,A];refine aA (L.tot l.start B.start) rfl ?_;obtain⟨E,x,y,e,R⟩:=uL (nU (l.start.map RF.v));have go:∀ (z:RF) (e:Int),z.Ok→(e=0→(xQ z.neg (val z.num) (val z.den) false 1 1=.tup [.int .i64 (oL z.neg (val z.num) (val z.den) false 1 1),.int .i64 0])∧vG l=decide (oL z.neg (val z.num) (val z.den) false 1 1=0))→(e≠0→vG l=false) →
   frV (nU (l.start.map RF.v))=.tup [.agg z.cells,.int .i64 e] →
   wpOps C [⟨(some 69),.mv (.tmp 72),none⟩,⟨(some 73),.extract (.tmp 69) 0,none⟩,⟨(some 74),.extract (.tmp 69) 1,none⟩,⟨(some 6),.alloc [(.bool false),.aB,.aB],none⟩,⟨none,.store 3 (.tmp 6) (.tmp 73),none⟩,⟨(some 7),.mv (.tmp 74),none⟩]
    (aC.wp C (.seq (.region JF) (.seq (.region JG) (.seq (.region uP) .ret))) (aR [.tmp 2] (cA (.bool (vG l&&pE l))))) ((((F.set 70 (.bH [frs l.start,aoV l.aXH,frs l.exit])).set 71 (frs l.start))).set 72 (.tup [.agg z.cells,.int .i64 e])) .nil:=by
  intro z e O H J _;simp only[go_sem];refine aN fun o6 M=>?_;simp only[go_sem,JF];refine aA (L.frac 1 1 (by decide) (by decide)) rfl ?_;rw[P9];simp only[go_sem,frV];refine aN fun o8 p=>?_;have Q:o6≠o8:=by rintro rfl; simp only[aT,if_true] at p; cases p
  simp only[go_sem,JG,Q];refine aA (L.ord z (FV.rf (false,1,1)) O auP) rfl ?_;rw[show val (FV.rf (false,1,1)).num=1 from aS 1,show val (FV.rf (false,1,1)).den=1 from aS 1,show (FV.rf (false,1,1)).neg=false from rfl];by_cases c:e=0
  ·obtain⟨g1,g2⟩:=H c;rw[g1,g2];by_cases d:oL z.neg (val z.num) (val z.den) false 1 1=0
   ·simp only[go_sem,uP,bN c,bN d,A];refine aA (L.ends l B K) rfl ?_;simp only[go_sem];exact bE rfl (by rw[decide_eq_true d,aYZ])
   ·simp only[go_sem,uP,bN c,bD d];exact bE rfl (by rw[decide_eq_false d,aYW])
  ·rw[J c];have:∃ v w,xQ z.neg (val z.num) (val z.den) false 1 1=.tup [.int .i64 v,.int .i64 w]:=by
    unfold xQ;split
    ·exact⟨_,_,rfl⟩
    ·exact⟨_,_,rfl⟩
   obtain⟨v,w,u⟩:=this;rw[u];simp only[go_sem,uP,bD c];exact bE rfl rfl
 cases i:nU (l.start.map RF.v) with
 | error e =>rw[i] at go;exact go ⟨false,[],[]⟩ e azZ (fun h=>absurd h (Uo i)) (fun _=>by rw[vG,i]) rfl
 | ok r =>obtain⟨n,a,b⟩:=r;rw[i] at go;have N:=agC i;refine go (FV.rf (n,a,b)) 0 N (fun _=>?_) (fun h=>absurd rfl h) rfl;rw[show val (FV.rf (n,a,b)).num=a from aS a,show val (FV.rf (n,a,b)).den=b from aS b,show (FV.rf (n,a,b)).neg=n from rfl];refine⟨?_,by rw[vG,i]⟩;have u:cJ a b=true:=rv i;rw[xQ,u,Ha];rfl
theorem aIS {C:Ctx} (L:ia C) (l:cG) (x:l.Ok):RT.wp C (aR aBA.res (cA (.bool (kG l)))) (PF.args [.agg l.cells]) .nil:=by
 rw[acJ];simp only[go_sem,RT,abE,abF,aBA,abG,aYN];refine aA (L.inn l.start.length 1 4) rfl ?_;cases M:within l.start.length 1 4 with
 | false =>simp only[go_sem,aZF,zE];exact bE rfl (by simp only[aYW])
 | true =>
  obtain⟨U,V⟩:=within_iff.1 M;by_cases B:l.exit.length=l.start.length
  ·rw[decide_eq_true B];by_cases E:l.aXH.length=l.start.length
   ·rw[decide_eq_true E];simp only[go_sem,aYT,aYN,bS (Om:(l.exit.length:Int)=(l.start.length:Nat)),bS (Om:(l.aXH.length:Int)=(l.start.length:Nat))];refine aA (L.aBV l.start x.start) rfl ?_;cases Q:l.start.all cV with
    | false =>simp only[go_sem,aZF,zE];exact bE rfl (by simp only[aYW])
    | true =>
     simp only[go_sem,aYT];refine aA (L.aBV l.exit x.exit) rfl ?_;cases R:l.exit.all cV with
     | false =>simp only[go_sem,aZF,zE];exact bE rfl (by simp only[aYW])
     | true =>
      simp only[go_sem,aYT,abH,aYN];have w:∀ k (h:k<l.aXH.length),rY l k=(decide ((l.aXH[k]).length=l.start.length)&&(l.aXH[k]).all cV&&!((l.aXH[k]).map bK).getD k false):=by
       intro k h;have:l.aXH.getD k []=l.aXH[k]:=by simp[aZG,h]
       rw[rY,this]
      refine wp_loop (α:=Nat) (fun k=>aBR l k) (fun _=>.nil) (fun k=>k≤l.aXH.length∧rI (rY l) k) (fun k=>l.aXH.length-k) 0 ⟨aYS _,.zero⟩ ?_ a_ ?_
      ·unfold aBR
       (repeat' (first|exact c_|refine d_ ?_ ?_))<;>first|(simp only[go_sem,aYN]<;>rfl)|rfl
      rintro k ⟨S,K⟩;simp only[go_sem,Of,abI,aBR];by_cases hlt:k<l.aXH.length
      ·have d:(k:Int)<(l.aXH.length:Nat):=Om;have A:(l.aXH.map fun r=>[frs r])[k]?=some [frs l.aXH[k]]:=by simp[hlt]
       have c:=w k hlt;have p:=x.row l.aXH[k] (aYQ hlt);simp only[go_sem,d,abJ,A,abK,aYN];by_cases F:(l.aXH[k]).length=l.start.length
       ·rw[decide_eq_true F,aYZ] at c;simp only[go_sem,bS (show (((l.aXH[k]).length:Nat):Int)=(l.start.length:Nat) by omega)];refine aA (L.aBV _ p) rfl ?_;cases H:(l.aXH[k]).all cV with
        | false =>rw[H,aYW] at c;simp only[go_sem,aZF,WD];refine bE (b:=false) rfl ?_;have:(aYO l.aXH.length).all (rY l)=false:=fD hlt c;rw[this]; simp only[aYW,aZV]
        | true =>
         have u:k<(l.aXH[k]).length:=Om;have O:((l.aXH[k]).map RF.cells)[k]?=some ((l.aXH[k])[k]).cells:=by simp[u]
         have y:((l.aXH[k]).map bK).getD k false=bK (l.aXH[k])[k]:=by simp[aZG,u]
         rw[H,aYZ,y] at c;simp only[go_sem,aYT,O];refine aA (L.pD _ (p.all _ (aYQ u))) rfl ?_;cases J:bK (l.aXH[k])[k] with
         | true =>rw[J] at c;simp only[go_sem,WD];refine bE (b:=false) rfl ?_;have:(aYO l.aXH.length).all (rY l)=false:=fD hlt c;rw[this]; simp only[aYW,aZV]
         | false =>rw[J] at c;simp only[go_sem,abL,wZz k];refine aD (k+1) ⟨hlt,K.step c⟩ Om ?_ a_;exact Lq
       ·simp only[decide_eq_false F,aYW] at c;simp only[go_sem,cT (show (((l.aXH[k]).length:Nat):Int)≠(l.start.length:Nat) by omega),WD];refine bE (b:=false) rfl ?_;have:(aYO l.aXH.length).all (rY l)=false:=fD hlt c;rw[this]; simp only[aYW,aZV]
      ·have d:¬ (k:Int)<(l.aXH.length:Nat):=Om;have:k=l.aXH.length:=Om;subst this;have e:(aYO l.aXH.length).all (rY l)=true:=K;have N:BP l:=⟨by omega,by omega,fun r A=>by obtain⟨i,hi,rfl⟩:=a0C A;have:=aZC.1 e i (aZR.2 hi);rw[w i hi] at this;simp only[aZD,decide_eq_true_eq] at this;omega⟩
       have tail:=asP L l x N;simp only[aC.wp,go_sem] at tail;rw[e];simp only[go_sem,d,aYZ,a0T];exact tail _ rfl
   ·simp only[go_sem,aYT,aYN,bS (Om:(l.exit.length:Int)=(l.start.length:Nat)),cT (Om:(l.aXH.length:Int)≠(l.start.length:Nat)),zE];exact bE rfl (by rw[decide_eq_false E]; simp only[aYW,aZV])
  ·simp only[go_sem,aYT,aYN,cT (Om:(l.exit.length:Int)≠(l.start.length:Nat)),zE];exact bE rfl (by rw[decide_eq_false B]; simp only[aYW,aZV])
structure kU (C:Ctx):Prop extends ia C where
 law:∀ l:cG,l.Ok→aH C 95 [.agg l.cells] .nil (aF (.bool (kG l)))
 pol:∀ (p:bV) (n:Nat),p.Ok→n≤4→aH C 112 [.agg p.cells,.int .i64 n] .nil (aF (.bool (jO n p)))
 aXL:∀ f:aE,f.Ok→aH C 111 [.agg f.cells] .nil (aF (.bool (oH f)))
abbrev fI (l:List (List UInt8)):List (List PV):=l.map fun s=>[PV.str s]
theorem wP (l:List (List UInt8)) {k:Nat} (h:k<l.length):fI (l.take k)++[[.str l[k]]]=fI (l.take (k+1)):=by
 unfold fI;rw[aZW h,aZO]; rfl
theorem sN {l:List (List UInt8)} (h:l.length≤1000):roomFor (fI l).length 1 16:=by
 unfold roomFor fI;simp only[aYN,maxLen]; omega
def jE {α:Type} (l:List α) (p:α→Bool) (k:Nat):Bool:=(l.take k).all p
theorem sW {α:Type} (l:List α) (p:α→Bool):jE l p 0=true:=rfl
theorem sV {α:Type} (l:List α) (p:α→Bool) {k:Nat} (h:k<l.length):jE l p (k+1)=(jE l p k&&p l[k]):=by
 unfold jE;rw[aZW h,a1X]; simp
theorem wF {α:Type} (l:List α) (p:α→Bool):jE l p l.length=l.all p:=by unfold jE; rw[aZK]
def jI (f:aE) (c d e i l:PV) (ok:Bool):PF:=(((((((PF.nil.set 1 (.bH f.cells)).set 3 (c)).set 4 (d)).set 5 (e)).set 6 (i)).set 7 (l)).set 8 (.bool ok))
structure kY (F:PF) (f:aE) (w3 w4 w5 w6 w7:PV) (ok:Bool):Prop where
 a1:F 1=some (.bH f.cells)
 a3:F 3=some w3
 a4:F 4=some w4
 a5:F 5=some w5
 a6:F 6=some w6
 a7:F 7=some w7
 a8:F 8=some (.bool ok)
theorem amP {C:Ctx} (L:kU C) (f:aE) (Q:f.Ok) (W:f.aXJ.length≤4) (A B E J:PV) (K:bT) (F:PF) (H:PH) (i:kY F f .aB A B E J true)
  (w:F 67=some (.sl 4 (f.aXJ.map cG.cells))) (x:F 68=some (.int .i64 (f.aXJ.length:Nat))) (y:F 69=some (.int .i64 0))
  (O:∀ v M H',kY M f v A B E J (f.aXJ.all kG)→bU H' 1 v (fI (f.aXJ.map cG.name))→K (.exit 0) M H') :
  aC.wp C (.loop JK) K F H:=by
 refine wp_loop (α:=Nat × PV × PH) (fun t=>(((jI f t.2.1 A B E J (jE f.aXJ kG t.1)).set 67 (.sl 4 (f.aXJ.map cG.cells))).set 68 (.int .i64 (f.aXJ.length:Nat))).set 69 (.int .i64 t.1)) (fun t=>t.2.2)
  (fun t=>t.1≤f.aXJ.length∧bU t.2.2 1 t.2.1 (fI ((f.aXJ.map cG.name).take t.1))) (fun t=>f.aXJ.length-t.1) (0,.aB,.nil) ⟨aYS _,.nil⟩ ?_ a_ ?_
 ·unfold jI
  (repeat' (first|exact c_|refine d_ ?_ ?_))<;>first|(simp only[go_sem,i.a1,i.a3,i.a4,i.a5,i.a6,i.a7,i.a8,w,x,y,sW]<;>rfl)|rfl
 rintro⟨k,v,V⟩ ⟨R,u⟩;simp only at R u ⊢;simp only[go_sem,JK,acG,jI];by_cases hlt:k<f.aXJ.length
 ·have d:(k:Int)<(f.aXJ.length:Nat):=Om;have U:(f.aXJ.map cG.cells)[k]?=some (f.aXJ[k]).cells:=by simp[hlt]
  have p:=wP (f.aXJ.map cG.name) (k:=k) (by simpa using hlt);rw[a0K] at p;simp only[go_sem,d,acH,U];refine aN fun o S=>?_;simp only[go_sem,acI];refine nI u S (sN (by simp; omega)) fun v' H' e l=>?_;rw[p] at e;have c:=sV f.aXJ kG hlt;cases N:jE f.aXJ kG k with
  | false =>rw[N,aYW] at c;simp only[go_sem,wr,l,bw,wZz k];refine aD (k+1,v',H') ⟨hlt,e⟩ (by simp only; omega) ?_ b_;simp only[c];exact Lq
  | true =>rw[N,aYZ] at c;simp only[go_sem,wr,l];refine aA (L.law _ (Q.law _ (aYQ hlt))) Ev ?_;simp only[go_sem,bw,wZz k];refine aD (k+1,v',H') ⟨hlt,e⟩ (by simp only; omega) ?_ b_;simp only[c];exact Lq
 ·have d:¬ (k:Int)<(f.aXJ.length:Nat):=Om;have:k=f.aXJ.length:=Om;subst this;rw[aZJ (by simp)] at u;rw[wF];simp only[go_sem,d];exact O v _ _ ⟨by simp only[go_sem],by simp only[go_sem],by simp only[go_sem],by simp only[go_sem],by simp only[go_sem],by simp only[go_sem],by simp only[go_sem]⟩ u
theorem DB {n:Nat} (h:n≤1000):IntKind.i64.wrap ((n:Int)-1)=(n:Int)-1:=wrap_i64 Om Om
theorem amQ {C:Ctx} (L:kU C) (f:aE) (hs:f.aXD.length≤4) (hl:f.aXJ.length≤4) (u:Bool) (A B E J:PV) (K:bT) (F:PF) (H:PH) (l:kY F f A .aB B E J u)
  (O:F 85=some (.sl 4 (f.aXD.map cW.cells))) (Q:F 86=some (.int .i64 (f.aXD.length:Nat))) (R:F 87=some (.int .i64 0))
  (W:∀ v p H',kY p f A v B E J (u&&f.aXD.all (kJ f))→bU H' 1 v (fI (f.aXD.map cW.name))→K (.exit 2) p H') :
  aC.wp C (.loop JL) K F H:=by
 refine wp_loop (α:=Nat × PV × PH) (fun t=>(((jI f A t.2.1 B E J (u&&jE f.aXD (kJ f) t.1)).set 85 (.sl 4 (f.aXD.map cW.cells))).set 86 (.int .i64 (f.aXD.length:Nat))).set 87 (.int .i64 t.1)) (fun t=>t.2.2)
  (fun t=>t.1≤f.aXD.length∧bU t.2.2 1 t.2.1 (fI ((f.aXD.map cW.name).take t.1))) (fun t=>f.aXD.length-t.1) (0,.aB,.nil) ⟨aYS _,.nil⟩ ?_ a_ ?_
 ·unfold jI
  (repeat' (first|exact c_|refine d_ ?_ ?_))<;>first|(simp only[go_sem,l.a1,l.a3,l.a4,l.a5,l.a6,l.a7,l.a8,O,Q,R,sW,a0T]<;>rfl)|rfl
 rintro⟨k,v,H0⟩ ⟨Y,M⟩;simp only at Y M ⊢;simp only[go_sem,JL,O5,jI];by_cases hlt:k<f.aXD.length
 ·have d:(k:Int)<(f.aXD.length:Nat):=Om;have hr:(f.aXD.map cW.cells)[k]?=some (f.aXD[k]).cells:=by simp[hlt]
  have y:=wP (f.aXD.map cW.name) (k:=k) (by simpa using hlt);rw[a0K] at y;simp only[go_sem,d,O6,hr];refine aN fun o Z=>?_;simp only[go_sem,O7];refine nI M Z (sN (by simp; omega)) fun v' H' w e=>?_;rw[y] at w;have i:=sV f.aXD (kJ f) hlt;have fin:∀ (c:Bool) (p:PF),c=(u&&jE f.aXD (kJ f) (k+1))→((((jI f A v' B E J c).set 85 (.sl 4 (f.aXD.map cW.cells))).set 86 (.int .i64 (f.aXD.length:Nat))).set 87 (.int .i64 (k+1:Nat))).le p →
    fR (fun (t:Nat × PV × PH)=>(((jI f A t.2.1 B E J (u&&jE f.aXD (kJ f) t.1)).set 85 (.sl 4 (f.aXD.map cW.cells))).set 86 (.int .i64 (f.aXD.length:Nat))).set 87 (.int .i64 t.1)) (fun (t:Nat × PV × PH)=>t.2.2)  (fun (t:Nat × PV × PH)=>t.1≤f.aXD.length∧bU t.2.2 1 t.2.1 (fI ((f.aXD.map cW.name).take t.1))) (fun (t:Nat × PV × PH)=>f.aXD.length-t.1) (f.aXD.length-k) K .normal p H':=by
   intro c p X x;refine aD (α:=Nat × PV × PH) (k+1,v',H') ⟨hlt,w⟩ (by simp only; omega) ?_ b_;rw[X] at x;exact x
  unfold jI at fin;rw[i,← a1R] at fin;have S:kJ f f.aXD[k]=(within (f.aXD[k]).aXS 1 16&&within (f.aXD[k]).port 1 64&&within (f.aXD[k]).law 0 ((f.aXJ.length:Int)-1)):=rfl;cases V:(u&&jE f.aXD (kJ f) k) with
  | false =>rw[V,aYW] at fin;simp only[go_sem,bz,e,AO,wZz k];refine fin false _ rfl ?_;exact Lq
  | true =>
   rw[V,aYZ] at fin;simp only[go_sem,bz,e];refine aA (L.inn _ 1 16) Ev ?_;cases N:within (f.aXD[k]).aXS 1 16 with
   | false =>simp only[go_sem,AO,wZz k];refine fin false _ (by rw[S,N]; simp only[aYW]) ?_;exact Lq
   | true =>
    simp only[go_sem,e];refine aA (L.inn _ 1 64) Ev ?_;cases U:within (f.aXD[k]).port 1 64 with
    | false =>simp only[go_sem,AO,wZz k];refine fin false _ (by rw[S,N,U]; simp only[aYW,aZV]) ?_;exact Lq
    | true =>simp only[go_sem,e,aYN,DB (Om:f.aXJ.length≤1000)];refine aA (L.inn _ 0 _) Ev ?_;simp only[go_sem,AO,wZz k];refine fin (within (f.aXD[k]).law 0 ((f.aXJ.length:Int)-1)) _ (by rw[S,N,U]; simp only[aYZ]) ?_;exact Lq
 ·have d:¬ (k:Int)<(f.aXD.length:Nat):=Om;have:k=f.aXD.length:=Om;subst this;rw[aZJ (by simp)] at M;rw[wF];simp only[go_sem,d];exact W v _ _ ⟨by simp only[go_sem],by simp only[go_sem],by simp only[go_sem],by simp only[go_sem],by simp only[go_sem],by simp only[go_sem],by simp only[go_sem]⟩ M
theorem amR {C:Ctx} (L:kU C) (f:aE) (t:List cE) (U:t.length≤40) (p:Bool) (y A B E:PV) (K:bT) (F:PF) (H:PH) (d:kY F f y A .aB B E p)
  (u:F 119=some (.sl 7 (t.map cE.cells))) (w:F 120=some (.int .i64 (t.length:Nat))) (x:F 121=some (.int .i64 0))
  (M:∀ v J H',kY J f y A v B E p→bU H' 1 v (fI (t.map cE.name))→K (.exit 4) J H') :
  aC.wp C (.loop JM) K F H:=by
 refine wp_loop (α:=Nat × PV × PH) (fun a=>(((jI f y A a.2.1 B E p).set 119 (.sl 7 (t.map cE.cells))).set 120 (.int .i64 (t.length:Nat))).set 121 (.int .i64 a.1)) (fun a=>a.2.2)
  (fun a=>a.1≤t.length∧bU a.2.2 1 a.2.1 (fI ((t.map cE.name).take a.1))) (fun a=>t.length-a.1) (0,.aB,.nil) ⟨aYS _,.nil⟩ ?_ a_ ?_
 ·unfold jI
  (repeat' (first|exact c_|refine d_ ?_ ?_))<;>first|(simp only[go_sem,d.a1,d.a3,d.a4,d.a5,d.a6,d.a7,d.a8,u,w,x]<;>rfl)|rfl
 rintro⟨k,v,S⟩ ⟨N,l⟩;simp only at N l ⊢;simp only[go_sem,JM,O8,jI];by_cases hlt:k<t.length
 ·have c:(k:Int)<(t.length:Nat):=Om;have R:(t.map cE.cells)[k]?=some (t[k]).cells:=by simp[hlt]
  have i:=wP (t.map cE.name) (k:=k) (by simpa using hlt);rw[a0K] at i;simp only[go_sem,c,O9,R];refine aN fun o O=>?_;simp only[go_sem,Pa];refine nI l O (sN (by simp; omega)) fun v' H' e Q=>?_;rw[i] at e;simp only[go_sem,Pb,wZz k];refine aD (k+1,v',H') ⟨hlt,e⟩ (by simp only; omega) ?_ b_;exact Lq
 ·have c:¬ (k:Int)<(t.length:Nat):=Om;have:k=t.length:=Om;subst this;rw[aZJ (by simp)] at l;simp only[go_sem,c];exact M v _ _ ⟨by simp only[go_sem],by simp only[go_sem],by simp only[go_sem],by simp only[go_sem],by simp only[go_sem],by simp only[go_sem],by simp only[go_sem]⟩ l
theorem amS {C:Ctx} (L:kU C) (f:aE) (d:List (List UInt8)) (hn:d.length≤40) (hs:f.aXC.length≤24) (hm:f.aXD.length≤4) (hd:f.aXF.length≤40) (x:Bool) (E J Z M N:PV) (K:bT) (F:PF) (H:PH) (u:kY F f E J Z M N x)
  (h0:bU H 1 Z (fI d))
  (U:F 132=some (.sl 3 (f.aXC.map dL.cells))) (V:F 133=some (.int .i64 (f.aXC.length:Nat))) (W:F 134=some (.int .i64 0))
  (hK:∀ v w H',kY w f E J v M N (x&&f.aXC.all (jC f))→bU H' 1 v (fI (d++f.aXC.map dL.name))→K (.exit 6) w H') :
  aC.wp C (.loop JN) K F H:=by
 refine wp_loop (α:=Nat × PV × PH) (fun t=>(((jI f E J t.2.1 M N (x&&jE f.aXC (jC f) t.1)).set 132 (.sl 3 (f.aXC.map dL.cells))).set 133 (.int .i64 (f.aXC.length:Nat))).set 134 (.int .i64 t.1)) (fun t=>t.2.2)
  (fun t=>t.1≤f.aXC.length∧bU t.2.2 1 t.2.1 (fI (d++(f.aXC.map dL.name).take t.1))) (fun t=>f.aXC.length-t.1) (0,Z,H) ⟨aYS _,by rw[List.take_zero,a0M]; exact h0⟩ ?_ b_ ?_
 ·unfold jI
  (repeat' (first|exact c_|refine d_ ?_ ?_))<;>first|(simp only[go_sem,u.a1,u.a3,u.a4,u.a5,u.a6,u.a7,u.a8,U,V,W,sW,a0T]<;>rfl)|rfl
 rintro⟨k,v,H0⟩ ⟨hk,S⟩;simp only at hk S ⊢;simp only[go_sem,JN,Pc,jI];by_cases hlt:k<f.aXC.length
 ·have e:(k:Int)<(f.aXC.length:Nat):=Om;have hr:(f.aXC.map dL.cells)[k]?=some (f.aXC[k]).cells:=by simp[hlt]
  have Y:fI (d++(f.aXC.map dL.name).take k)++[[.str (f.aXC[k]).name]]=fI (d++(f.aXC.map dL.name).take (k+1)):=by rw[aZW (by simpa using hlt),← a0A,a0K];unfold fI;simp only[aZO,a0D,a0X]
  simp only[go_sem,e,Pd,hr];refine aN fun o ho=>?_;simp only[go_sem,Pe];refine nI S ho (sN (by simp; omega)) fun v' H' y l=>?_;rw[Y] at y;have p:=sV f.aXC (jC f) hlt;have fin:∀ (c:Bool) (w:PF),c=(x&&jE f.aXC (jC f) (k+1))→((((jI f E J v' M N c).set 132 (.sl 3 (f.aXC.map dL.cells))).set 133 (.int .i64 (f.aXC.length:Nat))).set 134 (.int .i64 (k+1:Nat))).le w →
    fR (fun (t:Nat × PV × PH)=>(((jI f E J t.2.1 M N (x&&jE f.aXC (jC f) t.1)).set 132 (.sl 3 (f.aXC.map dL.cells))).set 133 (.int .i64 (f.aXC.length:Nat))).set 134 (.int .i64 t.1)) (fun (t:Nat × PV × PH)=>t.2.2)  (fun (t:Nat × PV × PH)=>t.1≤f.aXC.length∧bU t.2.2 1 t.2.1 (fI (d++(f.aXC.map dL.name).take t.1))) (fun (t:Nat × PV × PH)=>f.aXC.length-t.1) (f.aXC.length-k) K .normal w H':=by
   intro c w hc A;refine aD (α:=Nat × PV × PH) (k+1,v',H') ⟨hlt,y⟩ (by simp only; omega) ?_ b_;rw[hc] at A;exact A
  unfold jI at fin;rw[p,← a1R] at fin;have i:jC f f.aXC[k]=(within (f.aXC[k]).model 0 ((f.aXD.length:Int)-1)&&within (f.aXC[k]).machine 0 ((f.aXF.length:Int)-1)&&decide ((f.aXF.map cE.level).getD (f.aXC[k]).machine.toNat 0=4)):=rfl;cases hb:(x&&jE f.aXC (jC f) k) with
  | false =>rw[hb,aYW] at fin;simp only[go_sem,ca,l,uQ,wZz k];refine fin false _ rfl ?_;exact Lq
  | true =>
   rw[hb,aYZ] at fin;simp only[go_sem,ca,l,aYN,DB (Om:f.aXD.length≤1000)];refine aA (L.inn _ 0 _) Ev ?_;cases O:within (f.aXC[k]).model 0 ((f.aXD.length:Int)-1) with
   | false =>simp only[go_sem,uQ,wZz k];refine fin false _ (by rw[i,O]; simp only[aYW]) ?_;exact Lq
   | true =>
    simp only[go_sem,l,aYN,DB (Om:f.aXF.length≤1000)];refine aA (L.inn _ 0 _) Ev ?_;cases Q:within (f.aXC[k]).machine 0 ((f.aXF.length:Int)-1) with
    | false =>simp only[go_sem,uQ,wZz k];refine fin false _ (by rw[i,O,Q]; simp only[aYW,aZV]) ?_;exact Lq
    | true =>
     obtain⟨i1,i2⟩:=within_iff.1 Q;have i3:(f.aXC[k]).machine.toNat<f.aXF.length:=Om;have B:(f.aXF.map cE.cells)[(f.aXC[k]).machine.toNat]?=some (f.aXF[(f.aXC[k]).machine.toNat]).cells:=by simp[i3]
     have X:(f.aXF.map cE.level).getD (f.aXC[k]).machine.toNat 0=(f.aXF[(f.aXC[k]).machine.toNat]).level:=by simp[i3]
     rw[X] at i;by_cases R:(f.aXF[(f.aXC[k]).machine.toNat]).level=4
     ·simp only[go_sem,l,i1,B,bN R,uQ,wZz k];refine fin true _ (by rw[i,O,Q,decide_eq_true R]; rfl) ?_;exact Lq
     ·simp only[go_sem,l,i1,B,bD R,uQ,wZz k];refine fin false _ (by rw[i,O,Q,decide_eq_false R]; rfl) ?_;exact Lq
 ·have e:¬ (k:Int)<(f.aXC.length:Nat):=Om;have:k=f.aXC.length:=Om;subst this;rw[aZJ (by simp)] at S;rw[wF];simp only[go_sem,e];exact hK v _ _ ⟨by simp only[go_sem],by simp only[go_sem],by simp only[go_sem],by simp only[go_sem],by simp only[go_sem],by simp only[go_sem],by simp only[go_sem]⟩ S
theorem amT {C:Ctx} (L:kU C) (f:aE) (V:f.Ok) (hs:f.aXG.length≤4) (X:f.aXD.length≤4) (p:Bool) (A B E J:PV) (K:bT) (F:PF) (H:PH) (i:kY F f A B E .aB J p)
  (N:F 174=some (.sl 17 (f.aXG.map bV.cells))) (O:F 175=some (.int .i64 (f.aXG.length:Nat))) (Q:F 176=some (.int .i64 0))
  (S:∀ v l H',kY l f A B E v J (p&&f.aXG.all (jO f.aXD.length))→bU H' 1 v (fI (f.aXG.map bV.name))→K (.exit 8) l H') :
  aC.wp C (.loop JO) K F H:=by
 refine wp_loop (α:=Nat × PV × PH) (fun t=>(((jI f A B E t.2.1 J (p&&jE f.aXG (jO f.aXD.length) t.1)).set 174 (.sl 17 (f.aXG.map bV.cells))).set 175 (.int .i64 (f.aXG.length:Nat))).set 176 (.int .i64 t.1)) (fun t=>t.2.2)
  (fun t=>t.1≤f.aXG.length∧bU t.2.2 1 t.2.1 (fI ((f.aXG.map bV.name).take t.1))) (fun t=>f.aXG.length-t.1) (0,.aB,.nil) ⟨aYS _,.nil⟩ ?_ a_ ?_
 ·unfold jI
  (repeat' (first|exact c_|refine d_ ?_ ?_))<;>first|(simp only[go_sem,i.a1,i.a3,i.a4,i.a5,i.a6,i.a7,i.a8,N,O,Q,sW,a0T]<;>rfl)|rfl
 rintro⟨k,v,H0⟩ ⟨W,M⟩;simp only at W M ⊢;simp only[go_sem,JO,Pf,jI];by_cases hlt:k<f.aXG.length
 ·have d:(k:Int)<(f.aXG.length:Nat):=Om;have Z:(f.aXG.map bV.cells)[k]?=some (f.aXG[k]).cells:=by simp[hlt]
  have y:=wP (f.aXG.map bV.name) (k:=k) (by simpa using hlt);rw[a0K] at y;simp only[go_sem,d,Pg,Z];refine aN fun o Y=>?_;simp only[go_sem,Ph];refine nI M Y (sN (by simp; omega)) fun v' H' u x=>?_;rw[y] at u;have e:=sV f.aXG (jO f.aXD.length) hlt;have fin:∀ (c:Bool) (l:PF),c=(p&&jE f.aXG (jO f.aXD.length) (k+1))→((((jI f A B E v' J c).set 174 (.sl 17 (f.aXG.map bV.cells))).set 175 (.int .i64 (f.aXG.length:Nat))).set 176 (.int .i64 (k+1:Nat))).le l →
    fR (fun (t:Nat × PV × PH)=>(((jI f A B E t.2.1 J (p&&jE f.aXG (jO f.aXD.length) t.1)).set 174 (.sl 17 (f.aXG.map bV.cells))).set 175 (.int .i64 (f.aXG.length:Nat))).set 176 (.int .i64 t.1)) (fun (t:Nat × PV × PH)=>t.2.2)  (fun (t:Nat × PV × PH)=>t.1≤f.aXG.length∧bU t.2.2 1 t.2.1 (fI ((f.aXG.map bV.name).take t.1))) (fun (t:Nat × PV × PH)=>f.aXG.length-t.1) (f.aXG.length-k) K .normal l H':=by
   intro c l U w;refine aD (α:=Nat × PV × PH) (k+1,v',H') ⟨hlt,u⟩ (by simp only; omega) ?_ b_;rw[U] at w;exact w
  unfold jI at fin;rw[e,← a1R] at fin;cases R:(p&&jE f.aXG (jO f.aXD.length) k) with
  | false =>rw[R,aYW] at fin;simp only[go_sem,cd,x,ce,wZz k];refine fin false _ rfl ?_;exact Lq
  | true =>rw[R,aYZ] at fin;simp only[go_sem,cd,x,aYN];refine aA (L.pol _ _ (V.aXO _ (aYQ hlt)) X) Ev ?_;simp only[go_sem,ce,wZz k];refine fin _ _ rfl ?_;exact Lq
 ·have d:¬ (k:Int)<(f.aXG.length:Nat):=Om;have:k=f.aXG.length:=Om;subst this;rw[aZJ (by simp)] at M;rw[wF];simp only[go_sem,d];exact S v _ _ ⟨by simp only[go_sem],by simp only[go_sem],by simp only[go_sem],by simp only[go_sem],by simp only[go_sem],by simp only[go_sem],by simp only[go_sem]⟩ M
theorem amU {C:Ctx} (L:kU C) (f:aE) (hs:f.aXE.length≤12) (hl:f.aXG.length≤4) (p:Bool) (A B E J:PV) (K:bT) (F:PF) (H:PH) (i:kY F f A B E J .aB p)
  (N:F 195=some (.sl 2 (f.aXE.map fE.cells))) (O:F 196=some (.int .i64 (f.aXE.length:Nat))) (Q:F 197=some (.int .i64 0))
  (S:∀ v l H',kY l f A B E J v (p&&f.aXE.all (oO f))→bU H' 1 v (fI (f.aXE.map fE.name))→K (.exit 10) l H') :
  aC.wp C (.loop JP) K F H:=by
 refine wp_loop (α:=Nat × PV × PH) (fun t=>(((jI f A B E J t.2.1 (p&&jE f.aXE (oO f) t.1)).set 195 (.sl 2 (f.aXE.map fE.cells))).set 196 (.int .i64 (f.aXE.length:Nat))).set 197 (.int .i64 t.1)) (fun t=>t.2.2)
  (fun t=>t.1≤f.aXE.length∧bU t.2.2 1 t.2.1 (fI ((f.aXE.map fE.name).take t.1))) (fun t=>f.aXE.length-t.1) (0,.aB,.nil) ⟨aYS _,.nil⟩ ?_ a_ ?_
 ·unfold jI
  (repeat' (first|exact c_|refine d_ ?_ ?_))<;>first|(simp only[go_sem,i.a1,i.a3,i.a4,i.a5,i.a6,i.a7,i.a8,N,O,Q,sW,a0T]<;>rfl)|rfl
 rintro⟨k,v,Z⟩ ⟨V,M⟩;simp only at V M ⊢;simp only[go_sem,JP,Pi,jI];by_cases hlt:k<f.aXE.length
 ·have d:(k:Int)<(f.aXE.length:Nat):=Om;have Y:(f.aXE.map fE.cells)[k]?=some (f.aXE[k]).cells:=by simp[hlt]
  have y:=wP (f.aXE.map fE.name) (k:=k) (by simpa using hlt);rw[a0K] at y;simp only[go_sem,d,Pj,Y];refine aN fun o X=>?_;simp only[go_sem,Pk];refine nI M X (sN (by simp; omega)) fun v' H' u x=>?_;rw[y] at u;have e:=sV f.aXE (oO f) hlt;have fin:∀ (c:Bool) (l:PF),c=(p&&jE f.aXE (oO f) (k+1))→((((jI f A B E J v' c).set 195 (.sl 2 (f.aXE.map fE.cells))).set 196 (.int .i64 (f.aXE.length:Nat))).set 197 (.int .i64 (k+1:Nat))).le l →
    fR (fun (t:Nat × PV × PH)=>(((jI f A B E J t.2.1 (p&&jE f.aXE (oO f) t.1)).set 195 (.sl 2 (f.aXE.map fE.cells))).set 196 (.int .i64 (f.aXE.length:Nat))).set 197 (.int .i64 t.1)) (fun (t:Nat × PV × PH)=>t.2.2)  (fun (t:Nat × PV × PH)=>t.1≤f.aXE.length∧bU t.2.2 1 t.2.1 (fI ((f.aXE.map fE.name).take t.1))) (fun (t:Nat × PV × PH)=>f.aXE.length-t.1) (f.aXE.length-k) K .normal l H':=by
   intro c l U w;refine aD (α:=Nat × PV × PH) (k+1,v',H') ⟨hlt,u⟩ (by simp only; omega) ?_ b_;rw[U] at w;exact w
  unfold jI at fin;rw[e,← a1R] at fin;have W:oO f f.aXE[k]=within (f.aXE[k]).aXO 0 ((f.aXG.length:Int)-1):=rfl;cases R:(p&&jE f.aXE (oO f) k) with
  | false =>rw[R,aYW] at fin;simp only[go_sem,cg,x,ch,wZz k];refine fin false _ rfl ?_;exact Lq
  | true =>rw[R,aYZ,W] at fin;simp only[go_sem,cg,x,aYN,DB (Om:f.aXG.length≤1000)];refine aA (L.inn _ 0 _) Ev ?_;simp only[go_sem,ch,wZz k];refine fin _ _ rfl ?_;exact Lq
 ·have d:¬ (k:Int)<(f.aXE.length:Nat):=Om;have:k=f.aXE.length:=Om;subst this;rw[aZJ (by simp)] at M;rw[wF];simp only[go_sem,d];exact S v _ _ ⟨by simp only[go_sem],by simp only[go_sem],by simp only[go_sem],by simp only[go_sem],by simp only[go_sem],by simp only[go_sem],by simp only[go_sem]⟩ M
theorem nT {f:aE} (h:¬ (f.aXJ.length≤4∧f.aXD.length≤4∧f.aXF.length≤40∧f.aXC.length≤24∧f.aXG.length≤4∧f.aXE.length≤12)):nS f=false:=by
 rw[← Bool.not_eq_true];intro c;simp only[nS,aZD,decide_eq_true_eq] at c;omega
theorem Yo {f:aE} (h:f.aXJ.length≤4∧f.aXD.length≤4∧f.aXF.length≤40∧f.aXC.length≤24∧f.aXG.length≤4∧f.aXE.length≤12):nS f=within f.aYG 1 4:=by
 obtain⟨c,d,e,i,h5,l⟩:=h;simp[nS,c,d,e,i,h5,l]
theorem pV {t:Nat} {n m:Int} {F:PF} {H:PH} (h:F t=some (.int .i64 n)) (e:n=m):aR [.tmp t] (cA (.int .i64 m)) .ret F H:=by
 subst e;exact aZ (.inr rfl) .nil (vs:=[.int .i64 n]) (by rw[kS,nP,h,oX]) a_ ⟨.refl _,rfl⟩
def BG (f:aE):Int:=if eC f then 0 else 1
theorem apT {f:aE} (h:eC f=false):BG f=1:=by rw[BG,h]; rfl
theorem uD {C:Ctx} {F:PF} {H:PH} {name t s:Nat} {v r:PV} {rows:List (List PV)} {d:Option Nat} {K:PF→PH→Prop} (h:aH C name [.sl s rows] .nil (aF r)) (w:bU H s v rows) (l:F t=some v)
  (e:∀ (c:PF) (p:PH),(∀ i u,F i=some u→Pure u→c i=some u)→K (c.put d r) p):iV C name [.tmp t] [] d K F H:=by
 rcases w with ⟨rfl,rfl⟩ | ⟨q,rs,rfl,h1,h2,h3⟩
 ·refine aA (h.aoZ (.inl ⟨rfl,rfl⟩)) (by rw[rT,GK,l,GL]) ?_;exact e F H fun i u hi _=>hi
 ·rw[← h3] at h;refine qU (k:=rows.length) h l h1 h2 (e _ _ fun i u hi x=>?_);rw[nK,hi,aZZ,x q s rs]
theorem Seen.pure {s:Nat} {v:PV} {rows:List (List PV)} (h:Seen s v rows):Pure v:=by
 rcases h with ⟨_,rfl⟩ | rfl
 ·exact fun _ _ _=>rfl
 ·exact fun _ _ _=>rfl
def bI (b:Bool):Int:=if b then 0 else 1
abbrev WO (f:aE):List (List UInt8):=(f.aXF.drop 1).map cE.name++f.aXC.map dL.name
def wC (f:aE):Bool:=distinct (f.aXJ.map cG.name)&&distinct (f.aXD.map cW.name)&&distinct (WO f)&&distinct (f.aXG.map bV.name)&&distinct (f.aXE.map fE.name)
structure Small (f:aE):Prop where
 aXJ:f.aXJ.length≤4
 aXD:f.aXD.length≤4
 aXF:f.aXF.length≤40
 aXC:f.aXC.length≤24
 aXG:f.aXG.length≤4
 aXE:f.aXE.length≤12
theorem CU {C:Ctx} (L:kU C) {v:PV} {l:List (List UInt8)} (h:Seen 1 v (fI l)) (c:l.length≤1000):aH C 110 [v] .nil (aF (.bool (distinct l))) :=
 (L.uniq l (Om:l.length≤9223372036854775807)).aoZ h
theorem aBM {C:Ctx} (L:kU C) (f:aE) (B:Small f) (d e i l p:PV) (ok:Bool) (F:PF) (H:PH) (c:kY F f d e i l p ok)
  (w:Seen 1 d (fI (f.aXJ.map cG.name))) (x:Seen 1 e (fI (f.aXD.map cW.name))) (h5:Seen 1 i (fI (WO f))) (y:Seen 1 l (fI (f.aXG.map bV.name))) (h7:bU H 1 p (fI (f.aXE.map fE.name))) :
  aC.wp C (.seq (.seq (.region AP) (.cond (.tmp 243) (.seq (.region oJ) .ret) .skip)) (.seq (.region JQ) .ret)) (aR [.tmp 2] (cA (.int .i64 (bI (ok&&wC f))))) F H:=by
 obtain⟨s1,s2,s3,s4,W,X⟩:=B;have E:(f.aXJ.map cG.name).length≤1000:=by simp; omega
 have J:(f.aXD.map cW.name).length≤1000:=by simp; omega
 have K:(WO f).length≤1000:=by simp; omega
 have M:(f.aXG.map bV.name).length≤1000:=by simp; omega
 have N:(f.aXE.map fE.name).length≤9223372036854775807:=by simp; omega
 cases ok with
 | false =>simp only[go_sem,AP,c.a8,oJ];exact pV rfl rfl
 | true =>
  simp only[go_sem,AP,c.a8,c.a3];refine aA (CU L w E) rfl ?_;unfold wC;cases Q:distinct (f.aXJ.map cG.name) with
  | false =>simp only[go_sem,oJ,aZF];exact pV rfl rfl
  | true =>
   simp only[go_sem,c.a4,aYT];refine aA (CU L x J) rfl ?_;cases R:distinct (f.aXD.map cW.name) with
   | false =>simp only[go_sem,oJ,aZF];exact pV rfl rfl
   | true =>
    simp only[go_sem,c.a5,aYT];refine aA (CU L h5 K) rfl ?_;cases S:distinct (WO f) with
    | false =>simp only[go_sem,oJ,aZF];exact pV rfl rfl
    | true =>
     simp only[go_sem,c.a6,aYT];refine aA (CU L y M) rfl ?_;cases U:distinct (f.aXG.map bV.name) with
     | false =>simp only[go_sem,oJ,aZF];exact pV rfl rfl
     | true =>
      simp only[go_sem,c.a7,aYT];refine uD (L.uniq _ N) h7 rfl fun u O A=>?_;have g:u 239=some (.bool false):=A 239 _ rfl fun _ _ _=>rfl;cases V:distinct (f.aXE.map fE.name) with
      | false =>simp only[go_sem,oJ,aZF,g];exact pV rfl rfl
      | true =>simp only[go_sem,JQ,aYT,g];exact pV rfl rfl
abbrev yr (b:Bool):bT:=aR [.tmp 2] (cA (.int .i64 (bI b)))
def Ji:aC:=.seq (.seq (.region cf) (.block 10 (.loop JP))) (.seq (.seq (.region AP) (.cond (.tmp 243) (.seq (.region oJ) .ret) .skip)) (.seq (.region JQ) .ret))
def Jh:aC:=.seq (.seq (.region cb) (.block 8 (.loop JO))) Ji
def Jg:aC:=.seq (.seq (.region b9) (.block 6 (.loop JN))) Jh
def Jf:aC:=.seq (.seq (.region b8) (.block 4 (.loop JM))) Jg
def Je:aC:=.seq (.seq (.region bx) (.block 2 (.loop JL))) Jf
def apS:aC:=.seq (.seq (.region wq) (.block 0 (.loop JK))) Je
theorem aJK {C:Ctx} (L:kU C) (f:aE) (u:Small f) (i l p E:PV) (ok:Bool) (F:PF) (H:PH) (d:kY F f i l p E .aB ok)
  (y:Seen 1 i (fI (f.aXJ.map cG.name))) (A:Seen 1 l (fI (f.aXD.map cW.name))) (h5:Seen 1 p (fI (WO f))) (N:bU H 1 E (fI (f.aXG.map bV.name))) :
  aC.wp C Ji (yr (ok&&f.aXE.all (oO f)&&wC f)) F H:=by
 unfold Ji;simp only[go_sem,cf,d.a1,aYN];refine qV N fun B x K M Q c=>?_;refine amU L f u.aXE u.aXG ok i l p B _ K M ⟨c 1 _ (by simp only[go_sem,d.a1]) fun _ _ _=>rfl,c 3 _ (by simp only[go_sem,d.a3]) y.pure,c 4 _ (by simp only[go_sem,d.a4]) A.pure,c 5 _ (by simp only[go_sem,d.a5]) h5.pure,Q 6 (by simp only[go_sem,d.a6]),c 7 _ (by simp only[go_sem,d.a7]) fun _ _ _=>rfl,c 8 _ (by simp only[go_sem,d.a8]) fun _ _ _=>rfl⟩
  (c 195 _ rfl fun _ _ _=>rfl) (c 196 _ rfl fun _ _ _=>rfl) (c 197 _ rfl fun _ _ _=>rfl) fun v J H' w O=>?_
 have e:=aBM L f u i l p B v _ J H' w y A h5 x O;simp only[aC.wp,go_sem] at e;simp only[go_sem];exact e
theorem aJJ {C:Ctx} (L:kU C) (f:aE) (M:f.Ok) (l:Small f) (e i A:PV) (ok:Bool) (F:PF) (H:PH) (d:kY F f e i A .aB .aB ok)
  (w:Seen 1 e (fI (f.aXJ.map cG.name))) (x:Seen 1 i (fI (f.aXD.map cW.name))) (h5:bU H 1 A (fI (WO f))) :
  aC.wp C Jh (yr (ok&&f.aXG.all (jO f.aXD.length)&&f.aXE.all (oO f)&&wC f)) F H:=by
 unfold Jh;simp only[go_sem,cb,d.a1,aYN];refine qV h5 fun y u E J N c=>?_;refine amT L f M l.aXG l.aXD ok e i y .aB _ E J ⟨c 1 _ (by simp only[go_sem,d.a1]) fun _ _ _=>rfl,c 3 _ (by simp only[go_sem,d.a3]) w.pure,c 4 _ (by simp only[go_sem,d.a4]) x.pure,N 5 (by simp only[go_sem,d.a5]),c 6 _ (by simp only[go_sem,d.a6]) fun _ _ _=>rfl,c 7 _ (by simp only[go_sem,d.a7]) fun _ _ _=>rfl,c 8 _ (by simp only[go_sem,d.a8]) fun _ _ _=>rfl⟩
  (c 174 _ rfl fun _ _ _=>rfl) (c 175 _ rfl fun _ _ _=>rfl) (c 176 _ rfl fun _ _ _=>rfl) fun v B H' p K=>?_
 simp only[go_sem];exact aJK L f l e i y v _ B H' p w x u K
theorem aJI {C:Ctx} (L:kU C) (f:aE) (A:f.Ok) (d:Small f) (e i p:PV) (ok:Bool) (F:PF) (H:PH) (c:kY F f e i p .aB .aB ok)
  (w:Seen 1 e (fI (f.aXJ.map cG.name))) (x:Seen 1 i (fI (f.aXD.map cW.name))) (h5:bU H 1 p (fI ((f.aXF.drop 1).map cE.name))) :
  aC.wp C Jg (yr (ok&&f.aXC.all (jC f)&&f.aXG.all (jO f.aXD.length)&&f.aXE.all (oO f)&&wC f)) F H:=by
 unfold Jg;simp only[go_sem,b9,c.a1,aYN];refine amS L f ((f.aXF.drop 1).map cE.name) (by have:=d.aXF; simp; omega) d.aXC d.aXD d.aXF ok e i p .aB .aB _ _ H ⟨by simp only[go_sem,c.a1],by simp only[go_sem,c.a3],by simp only[go_sem,c.a4],by simp only[go_sem,c.a5],by simp only[go_sem,c.a6],by simp only[go_sem,c.a7],by simp only[go_sem,c.a8]⟩ h5
  rfl rfl rfl fun v u H' l y=>?_
 simp only[go_sem];exact aJJ L f A d e i v _ u H' l w x y
theorem aJH {C:Ctx} (L:kU C) (f:aE) (N:f.Ok) (x:Small f) (R:0<f.aXF.length) (i A:PV) (ok:Bool) (F:PF) (H:PH) (d:kY F f i A .aB .aB .aB ok)
  (w:Seen 1 i (fI (f.aXJ.map cG.name))) (K:bU H 1 A (fI (f.aXD.map cW.name))) :
  aC.wp C Jf (yr (ok&&f.aXC.all (jC f)&&f.aXG.all (jO f.aXD.length)&&f.aXE.all (oO f)&&wC f)) F H:=by
 unfold Jf;have l:(1:Int)≤(f.aXF.length:Nat):=Om;have O:=x.aXF;have e:((f.aXF.map cE.cells).take f.aXF.length).drop 1=(f.aXF.drop 1).map cE.cells:=by rw[aZJ (by simp),List.map_drop]
 simp only[go_sem,b8,d.a1,aYN,l,a0J,e];refine qV K fun y u E J Q c=>?_;refine amR L f (f.aXF.drop 1) (by simp; omega) ok i y .aB .aB _ E J ⟨c 1 _ (by simp only[go_sem,d.a1]) fun _ _ _=>rfl,c 3 _ (by simp only[go_sem,d.a3]) w.pure,Q 4 (by simp only[go_sem,d.a4]),c 5 _ (by simp only[go_sem,d.a5]) fun _ _ _=>rfl,c 6 _ (by simp only[go_sem,d.a6]) fun _ _ _=>rfl,c 7 _ (by simp only[go_sem,d.a7]) fun _ _ _=>rfl,c 8 _ (by simp only[go_sem,d.a8]) fun _ _ _=>rfl⟩
  (c 119 _ rfl fun _ _ _=>rfl) (c 120 _ rfl fun _ _ _=>rfl) (c 121 _ rfl fun _ _ _=>rfl) fun v B H' p M=>?_
 simp only[go_sem];exact aJI L f N x i y v _ B H' p w u M
theorem aJG {C:Ctx} (L:kU C) (f:aE) (J:f.Ok) (e:Small f) (E:0<f.aXF.length) (u:PV) (ok:Bool) (F:PF) (H:PH) (d:kY F f u .aB .aB .aB .aB ok)
  (A:bU H 1 u (fI (f.aXJ.map cG.name))) :
  aC.wp C Je (yr (ok&&f.aXD.all (kJ f)&&f.aXC.all (jC f)&&f.aXG.all (jO f.aXD.length)&&f.aXE.all (oO f)&&wC f)) F H:=by
 unfold Je;simp only[go_sem,bx,d.a1,aYN];refine qV A fun p l x y K c=>?_;refine amQ L f e.aXD e.aXJ ok p .aB .aB .aB _ x y ⟨c 1 _ (by simp only[go_sem,d.a1]) fun _ _ _=>rfl,K 3 (by simp only[go_sem,d.a3]),c 4 _ (by simp only[go_sem,d.a4]) fun _ _ _=>rfl,c 5 _ (by simp only[go_sem,d.a5]) fun _ _ _=>rfl,c 6 _ (by simp only[go_sem,d.a6]) fun _ _ _=>rfl,c 7 _ (by simp only[go_sem,d.a7]) fun _ _ _=>rfl,c 8 _ (by simp only[go_sem,d.a8]) fun _ _ _=>rfl⟩
  (c 85 _ rfl fun _ _ _=>rfl) (c 86 _ rfl fun _ _ _=>rfl) (c 87 _ rfl fun _ _ _=>rfl) fun v w H' i B=>?_
 simp only[go_sem];exact aJH L f J e E p v _ w H' i l B
theorem aJF {C:Ctx} (L:kU C) (f:aE) (e:f.Ok) (i:Small f) (u:0<f.aXF.length) (F:PF) (H:PH) (c:kY F f .aB .aB .aB .aB .aB true) :
  aC.wp C apS (yr (f.aXJ.all kG&&f.aXD.all (kJ f)&&f.aXC.all (jC f)&&f.aXG.all (jO f.aXD.length)&&f.aXE.all (oO f)&&wC f)) F H:=by
 unfold apS;simp only[go_sem,wq,c.a1,aYN];refine amP L f e i.aXJ .aB .aB .aB .aB _ _ H ⟨by simp only[go_sem,c.a1],by simp only[go_sem,c.a3],by simp only[go_sem,c.a4],by simp only[go_sem,c.a5],by simp only[go_sem,c.a6],by simp only[go_sem,c.a7],by simp only[go_sem,c.a8]⟩ rfl rfl rfl fun v l H' d p=>?_;simp only[go_sem];exact aJG L f e i u v _ l H' d p
theorem aJD {C:Ctx} (L:kU C) (f:aE) (E:f.Ok):RY.wp C (aR aBL.res (cA (.int .i64 (BG f)))) (PF.args [.agg f.cells]) .nil:=by
 have u:eC f=(nS f&&oH f&&(f.aXJ.all kG&&f.aXD.all (kJ f)&&f.aXC.all (jC f)&&f.aXG.all (jO f.aXD.length)&&f.aXE.all (oO f))&&wC f):=rfl;simp only[go_sem,RY,acC,acD,aBL];refine aA (L.inn f.aYG 1 4) rfl ?_;have c:∀ (F:PF) (H:PH),eC f=false→F 2=some (.int .i64 1)→aR [.tmp 2] (cA (.int .i64 (BG f))) .ret F H:=fun F H M N=>pV N (apT M).symm;cases B:within f.aYG 1 4 with
 | false =>
  have:nS f=false:=by simp[nS,B]
  simp only[go_sem,aZF,qH];exact c _ _ (by rw[u,this]; simp only[aYW]) rfl
 | true =>
  by_cases s1:f.aXJ.length≤4
  ·have d:¬ (f.aXJ.length:Int)>4:=Om;by_cases s2:f.aXD.length≤4
   ·have i:¬ (f.aXD.length:Int)>4:=Om;by_cases s3:f.aXF.length≤40
    ·have l:¬ (f.aXF.length:Int)>40:=Om;by_cases s4:f.aXC.length≤24
     ·have p:¬ (f.aXC.length:Int)>24:=Om;by_cases J:f.aXG.length≤4
      ·have w:¬ (f.aXG.length:Int)>4:=Om;by_cases K:f.aXE.length≤12
       ·have x:¬ (f.aXE.length:Int)>12:=Om;have y:=Yo ⟨s1,s2,s3,s4,J,K⟩;rw[B] at y;simp only[go_sem,aYT,aYN,d,i,l,p,w,x];refine aA (L.aXL f E) rfl ?_;cases A:oH f with
        | false =>simp only[go_sem,aZF,qH];exact c _ _ (by rw[u,A]; simp only[aZV,aYW]) rfl
        | true =>
         have O:0<f.aXF.length:=by
          rcases a1B f.aXF.length with h | h
          ·have:f.aXF=[]:=List.eq_nil_of_length_eq_zero h;rw[oH,this] at A;cases A
          ·exact h
         have R:BG f=bI (f.aXJ.all kG&&f.aXD.all (kJ f)&&f.aXC.all (jC f)&&f.aXG.all (jO f.aXD.length)&&f.aXE.all (oO f)&&wC f):=by rw[BG,u,y,A]; rfl
         rw[R];simp only[go_sem,aYT,acE,acF];have e:=fun F H Q=>aJF L f E ⟨s1,s2,s3,s4,J,K⟩ O F H Q;simp only[apS,Je,Jf,Jg,Jh,Ji,aC.wp,go_sem] at e;exact e _ _ ⟨by simp only[go_sem],by simp only[go_sem],by simp only[go_sem],by simp only[go_sem],by simp only[go_sem],by simp only[go_sem],by simp only[go_sem]⟩
       ·have x:(f.aXE.length:Int)>12:=Om;simp only[go_sem,aYT,aYN,d,i,l,p,w,x,qH];exact c _ _ (by rw[u,nT Om]; simp only[aYW]) rfl
      ·have w:(f.aXG.length:Int)>4:=Om;simp only[go_sem,aYT,aYN,d,i,l,p,w,qH];exact c _ _ (by rw[u,nT Om]; simp only[aYW]) rfl
     ·have p:(f.aXC.length:Int)>24:=Om;simp only[go_sem,aYT,aYN,d,i,l,p,qH];exact c _ _ (by rw[u,nT Om]; simp only[aYW]) rfl
    ·have l:(f.aXF.length:Int)>40:=Om;simp only[go_sem,aYT,aYN,d,i,l,qH];exact c _ _ (by rw[u,nT Om]; simp only[aYW]) rfl
   ·have i:(f.aXD.length:Int)>4:=Om;simp only[go_sem,aYT,aYN,d,i,qH];exact c _ _ (by rw[u,nT Om]; simp only[aYW]) rfl
  ·have d:(f.aXJ.length:Int)>4:=Om;simp only[go_sem,aYT,aYN,d,qH];exact c _ _ (by rw[u,nT Om]; simp only[aYW]) rfl
def lvl (f:aE) (i:Nat):Int:=(f.aXF.map cE.level).getD i 0
def par (f:aE) (i:Nat):Int:=(f.aXF.map cE.parent).getD i 0
def MB (f:aE) (i:Nat):Nat:=(par f i).toNat
def dN (f:aE) (d:Nat):Nat:=((f.aXC.map dL.machine).getD d 0).toNat
def mdl (f:aE) (d:Nat):Nat:=((f.aXC.map dL.model).getD d 0).toNat
def ext (f:aE) (d:Nat):Int:=(f.aXD.map cW.aXS).getD (mdl f d) 0
def ER (f:aE) (v:Nat):Nat:=((f.aXE.map fE.aXO).getD v 0).toNat
def aGQ:bV:=⟨[],0,0,0,0,0,0,0,0,[],[],⟨false,[],[]⟩,⟨false,[],[]⟩⟩
def MG (f:aE) (v:Nat):bV:=f.aXG.getD (ER f v) aGQ
def upN (f:aE):Nat→Nat→Nat
 | 0,i=>i
 | k+1,i=>MB f (upN f k i)
theorem getD_at {α β:Type} {l:List α} {g:α→β} {i:Nat} {b:β} (h:i<l.length):(l.map g).getD i b=g l[i]:=by
 simp[aZG,h]
structure VF (f:aE):Prop where
 small:Small f
 root:0<f.aXF.length∧lvl f 0=0∧par f 0=-1
 dom:∀ i,0<i→i<f.aXF.length→0≤par f i∧MB f i<i∧lvl f (MB f i)=lvl f i-1∧1≤lvl f i∧lvl f i≤4
 drive:∀ d (h:d<f.aXC.length),0≤(f.aXC[d]).model∧mdl f d<f.aXD.length∧0≤(f.aXC[d]).machine∧dN f d<f.aXF.length∧lvl f (dN f d)=4
 aXO:∀ p∈f.aXG,1≤p.k∧p.k≤6∧0≤p.m∧p.m≤4∧p.k+p.m≤8∧p.s0=0∧(∀ l,0≤p.spread l∧p.spread l≤8)∧∀ m∈p.aXD,0≤m∧m<f.aXD.length
 volume:∀ v (h:v<f.aXE.length),0≤(f.aXE[v]).aXO∧ER f v<f.aXG.length
 model:∀ m∈f.aXD,1≤m.aXS∧m.aXS≤16
theorem aKX {p:bV} {n:Nat} (h:jO n p=true):∀ m∈p.aXD,0≤m∧m<n:=by
 intro m d;simp only[jO,aZD] at h;obtain⟨i,hi,rfl⟩:=a0C d;have:=aZC.1 h.2 i (aZR.2 hi);rw[aZD] at this;have c:=within_iff.1 this.1;simp only[aZG,aZA hi,a1L] at c;omega
theorem tz {x:Int} (c:1≤x) (d:x≤4):IntKind.i64.wrap (x-1)=x-1:=wrap_i64 Om Om
theorem VF.of {f:aE} (h:eC f=true):VF f:=by
 simp only[eC,aZD] at h;obtain⟨⟨⟨Q,e⟩,⟨⟨⟨N,A⟩,y⟩,B⟩,E⟩,-⟩:=h;simp only[nS,aZD,decide_eq_true_eq] at Q;obtain⟨⟨⟨⟨⟨⟨s0,s1⟩,s2⟩,s3⟩,s4⟩,s5⟩,s6⟩:=Q;cases c:f.aXF with
 | nil=>rw[oH,c] at e; cases e
 | cons r t =>
  rw[oH,c] at e;simp only[CB,aZD,decide_eq_true_eq] at e;obtain⟨⟨⟨⟨⟨⟨r1,r2⟩,r3⟩,r4⟩,r5⟩,r6⟩,x⟩:=e;have O:f.aXF.length=t.length+1:=by rw[c]; rfl
  refine⟨⟨s1,s2,s3,s4,s5,s6⟩,⟨by omega,by rw[lvl,c]; exact r2,by rw[par,c]; exact r3⟩,?_,?_,?_,?_,?_⟩
  ·intro i h0 hi;obtain⟨k,rfl⟩:∃ k,i=k+1:=⟨i-1,by omega⟩;have H:k<t.length:=Om;have:=aZC.1 x k (aZR.2 H);rw[aZA H] at this;simp only[IN,aZD,decide_eq_true_eq] at this;obtain⟨⟨⟨⟨J,F⟩,K⟩,d4⟩,d5⟩:=this;obtain⟨p0,p1⟩:=within_iff.1 J;obtain⟨S,U⟩:=within_iff.1 K;have u:par f (k+1)=(t[k]).parent:=by rw[par,c]; simp[aZG,H]
   have w:lvl f (k+1)=(t[k]).level:=by rw[lvl,c]; simp[aZG,H]
   rw[tz S U] at F;have V:lvl f (t[k]).parent.toNat=(t[k]).level-1:=F;refine⟨by rw[u]; exact p0,?_,?_,by rw[w]; exact S,by rw[w]; exact U⟩
   ·rw[MB,u]; omega
   ·rw[MB,u,w]; exact V
  ·intro d e;have:=aZC.1 y _ (aYQ e);simp only[jC,aZD,decide_eq_true_eq] at this;obtain⟨⟨J,F⟩,K⟩:=this;have a1:=within_iff.1 J;have a2:=within_iff.1 F;have u:mdl f d=(f.aXC[d]).model.toNat:=by rw[mdl,getD_at e]
   have w:dN f d=(f.aXC[d]).machine.toNat:=by rw[dN,getD_at e]
   refine⟨a1.1,by rw[u]; omega,a2.1,by rw[w]; omega,by rw[w]; exact K⟩
  ·intro p Y;have M:=aZC.1 B p Y;have W:=aKX M;simp only[jO,LX,aZD,decide_eq_true_eq,List.all_cons,List.all_nil,a0T] at M;obtain⟨⟨⟨⟨⟨⟨⟨⟨k1,Z⟩,km⟩,q1⟩,z0⟩,sp⟩,-⟩,-⟩,-⟩:=M;obtain⟨g0,g1,g2,g3,g4⟩:=sp;have b1:=within_iff.1 k1;have b2:=within_iff.1 Z;have b3:=within_iff.1 g0;have b4:=within_iff.1 g1;have b5:=within_iff.1 g2;have b6:=within_iff.1 g3;have b7:=within_iff.1 g4;refine⟨b1.1,b1.2,b2.1,b2.2,km,z0,fun l=>?_,W⟩;unfold bV.spread;split<;>omega
  ·intro v R;have:=aZC.1 E _ (aYQ R);have a1:=within_iff.1 this;have u:ER f v=(f.aXE[v]).aXO.toNat:=by rw[ER,getD_at R]
   exact⟨a1.1,by rw[u]; omega⟩
  ·intro m X;have:=aZC.1 A m X;simp only[kJ,aZD] at this;exact within_iff.1 this.1.1
theorem HC {f:aE} (h:VF f) {d:Nat} (c:d<f.aXC.length):∀ {k:Nat},k≤4→upN f k (dN f d)<f.aXF.length∧lvl f (upN f k (dN f d))=4-(k:Int)
 | 0,_=>⟨(h.drive d c).2.2.2.1,by rw[upN,(h.drive d c).2.2.2.2]; rfl⟩
 | k+1,w=>by
  obtain⟨p,l⟩:=HC h c (k:=k) Om;have i:0<upN f k (dN f d):=by
   rcases a1B (upN f k (dN f d)) with e | e
   ·rw[e,h.root.2.1] at l; omega
   ·exact e
  obtain⟨g1,g2,g3,g4,u⟩:=h.dom _ i p;refine⟨by rw[upN]; omega,?_⟩;rw[upN,g3,l]; omega
def cQ (f:aE) (d:Nat) (level:Int):Nat:=upN f (4-level.toNat) (dN f d)
def alW (f:aE) (v:Nat):Int:=(MG f v).k+(MG f v).m

theorem pS {f:aE} {d:Nat} (h:d<f.aXC.length):(f.aXC.map dL.cells)[d]?=some (f.aXC[d]).cells:=by simp[h]
theorem fM {f:aE} {d:Nat} (h:d<f.aXF.length):(f.aXF.map cE.cells)[d]?=some (f.aXF[d]).cells:=by simp[h]
theorem Ye {f:aE} {d:Nat} (h:d<f.aXG.length):(f.aXG.map bV.cells)[d]?=some (f.aXG[d]).cells:=by simp[h]
theorem tI {f:aE} {d:Nat} (h:d<f.aXF.length):(f.aXF[d]).level=lvl f d:=by rw[lvl,getD_at h]
theorem ou {f:aE} {d:Nat} (h:d<f.aXF.length):(f.aXF[d]).parent=par f d:=by rw[par,getD_at h]
theorem VF.wx {f:aE} (h:VF f) {d:Nat} (c:d<f.aXC.length):(f.aXC[d]).machine=((dN f d:Nat):Int):=by
 have:=(h.drive d c).2.2.1;rw[dN,getD_at c]; omega
theorem VF.mg {f:aE} (h:VF f) {d:Nat} (c:d<f.aXC.length):(f.aXC[d]).model=((mdl f d:Nat):Int):=by
 have:=(h.drive d c).1;rw[mdl,getD_at c]; omega
theorem VF.xy {f:aE} (h:VF f) {i:Nat} (c:0<i) (hi:i<f.aXF.length):par f i=((MB f i:Nat):Int):=by
 have:=(h.dom i c hi).1;rw[MB]; omega
theorem aDM {f:aE} (h:VF f) {v:Nat} (d:v<f.aXE.length):∃ c:ER f v<f.aXG.length,f.aXG[ER f v]=MG f v:=by
 have c:=(h.volume v d).2;exact⟨c,by simp[MG,aZG,c]⟩
def pick (n:Nat) (p:Nat→Bool):List Int:=((aYO n).filter p).map fun (i:Nat)=>(i:Int)
theorem auS (n:Nat) (p:Nat→Bool):pick (n+1) p=if p n then pick n p++[(n:Int)] else pick n p:=by
 unfold pick;rw[a1Z,List.filter_append,aZO];by_cases h:p n
 ·rw[if_pos h]; simp[h]
 ·rw[if_neg h]; simp[h]
theorem aDK (n:Nat) (p:Nat→Bool):(pick n p).length≤n:=by
 unfold pick;rw[aYN];exact aZS (a2O _ _) (by simp)
theorem anA (l:List Int) (x:Int):aY l++[[.int .i64 x]]=aY (l++[x]):=by unfold aY; rw[aZO]; rfl
theorem dE (l:List Int):(aY l).length=l.length:=by unfold aY; rw[aYN]
theorem ya {t:Nat} {H:PH} {v:PV} {l:List Int} {F:PF} (h:bU H 1 v (aY l)) (c:F t=some v):aR [.tmp t] (cA (ints l)) .ret F H:=qR (.inr rfl) h c
theorem AZ {t:Nat} {H:PH} {F:PF} (c:F t=some .aB):aR [.tmp t] (cA (ints [])) .ret F H:=qR (rows:=[]) (.inr rfl) .nil c
def GJ (f:aE) (dom:Int):List Int :=
 if eC f∧0≤dom∧dom<f.aXF.length then pick f.aXC.length fun d=>decide ((cQ f d (lvl f dom.toNat):Nat)=dom.toNat) else []
section
variable (o s:Nat) (rs:List (List PV))
@[go_sem] theorem aUK (k:IntKind) (n:Int):PV.frz o s rs (.int k n)=.int k n:=(rfl)
@[go_sem] theorem aST (b:Bool):PV.frz o s rs (.bool b)=.bool b:=(rfl)
@[go_sem] theorem aUO (l:List UInt8):PV.frz o s rs (.str l)=.str l:=(rfl)
@[go_sem] theorem aSU:PV.frz o s rs .aB=.aB:=(rfl)
@[go_sem] theorem aVM (n:Nat) (r:List (List PV)):PV.frz o s rs (.sl n r)=.sl n r:=(rfl)
@[go_sem] theorem aSV (c:List PV):PV.frz o s rs (.bH c)=.bH c:=(rfl)
@[go_sem] theorem aUN (q z i c:Nat):PV.frz o s rs (.ptr q z i c)=.ptr q z i c:=(rfl)
@[go_sem] theorem aVL (n:Nat) (c:List PV):PV.frz o s rs (.fn n c)=.fn n c:=(rfl)
@[go_sem] theorem aUL (q:Nat):PV.frz o s rs (.map q)=.map q:=(rfl)
@[go_sem] theorem aUM (q z c len:Nat):PV.frz o s rs (.osl q z c len)=if q=o then (if z=s∧c+len≤rs.length then .sl s ((rs.drop c).take len) else .junk) else .osl q z c len:=(rfl)
end
def pB (s:Nat) (rows:List (List PV)) (r:PV) (H:PH):Prop :=
 (rows=[]∧r=.aB∧H=PH.nil)∨∃ q rs,r=.osl q s 0 rows.length∧H=PH.nil.set q (.rows s rs)∧rows.length≤rs.length∧rs.take rows.length=rows
theorem aaL (q s:Nat) (rs:List (List PV)):(PH.nil.set q (.rows s rs)).frz q s rs=PH.nil:=PH.ext fun o=>by
 rw[uR];by_cases e:o=q
 ·rw[if_pos e]; rfl
 ·rw[if_neg e,aT,if_neg e]; rfl
section
variable {C:Ctx} {K:bT} {F:PF} {H:PH} {s:Nat} {v:PV} {rows:List (List PV)}
theorem pB.over {r:PV} {H':PH} (h:pB s rows r H') (i:mH H .nil H'):bU (H.over .nil H') s r rows∧∀ o x,H o=some x→(H.over .nil H') o=some x:=by
 rcases h with ⟨c,e,rfl⟩ | ⟨q,rs,c,rfl,h3,h4⟩
 ·rw[PH.uW]; exact⟨.inl ⟨c,e⟩,fun o x h=>h⟩
 ·rw[PH.pU];have l:H q=none:=i q (.rows s rs) (by simp only[aT,if_true]) rfl;refine⟨.inr ⟨q,rs,c,by simp only[aT,if_true],h3,h4⟩,fun o x d=>?_⟩;have:o≠q:=by rintro rfl; rw[l] at d; cases d
  simp only[aT,if_neg this,d]
theorem p7 {t:Nat} {e:kW} (c:e=.normal∨e=.ret) (h:bU H s v rows) (d:F t=some v):aR [.tmp t] (pB s rows) e F H:=by
 rcases h with ⟨rfl,rfl⟩ | ⟨q,rs,rfl,h1,h2,h3⟩
 ·exact aZ (vs:=[.aB]) c .nil (by rw[kS,nP,d,oX]) a_ (.inl ⟨rfl,rfl,rfl⟩)
 ·exact aZ (vs:=[.osl q s 0 rows.length]) c (PH.nil.set q (.rows s rs)) (by rw[kS,nP,d,oX]) (PH.aK a_ h1) (.inr ⟨q,rs,rfl,rfl,h2,h3⟩)
theorem x9 {t:Nat} {e:kW} (c:e=.normal∨e=.ret) (d:F t=some .aB):aR [.tmp t] (pB s []) e F H:=p7 c .nil d
theorem avA {t:Nat} {e:kW} {r:PV} {H':PH} (c:e=.normal∨e=.ret) (h:pB s rows r H') (i:F t=some r):aR [.tmp t] (pB s rows) e F (H.over .nil H'):=by
 refine aZ (vs:=[r]) c H' (by rw[kS,nP,i,oX]) (fun o x d=>?_) h;rw[hZ,d]
theorem aH.freeze {name:Nat} {args:List PV} (h:aH C name args H (pB s rows)):aH C name args H (aF (.sl s rows)) :=
 ⟨h.1,fun E w vs J hW l=>(h.2 E w vs J hW l).mono fun e R M=>by
  obtain⟨u,pv,A,H',rfl,c,y,x,N⟩:=M;rcases N with ⟨rfl,rfl,rfl⟩ | ⟨q,rs,rfl,rfl,h3,h4⟩
  ·exact⟨u,_,A,_,rfl,c,(Co.nil s).sound y,x,rfl,rfl⟩
  ·have O:jJ (PF.nil.set 0 (.osl q s 0 rows.length)) (PH.nil.set q (.rows s rs)) _ _:=.step q (s:=s) (rs:=rs) (by simp only[aT,if_true]) (.refl _ _);obtain⟨B,k1,k2,Q⟩:=O.sound c;have d:=Q (fun _=>u) (fun i p hi=>by
    rw[kM] at hi;split at hi
    ·cases hi; exact y
    ·cases hi) 0 (.sl s rows) (by rw[nK,kM,if_pos rfl,aZZ,qF h3,h4])
   rw[aaL] at k1 k2;exact⟨u,_,B,_,rfl,k1,d,x.trans k2,rfl,rfl⟩⟩
theorem eQ.of:∀ {E:Env} (ps:List PV) (vs:List Value),vs.length=ps.length→(∀ (i:Nat) p v,ps[i]?=some p→vs[i]?=some v→bA E p v)→eQ E ps vs
 | _,[],[],_,_=>.nil
 | _,[],_::_,h,_=>by simp at h
 | _,_::_,[],h,_=>by simp at h
 | _,p::ps,v::vs,h,k=>.cons (k 0 p v rfl rfl) (eQ.of ps vs (by simpa using h) fun i q u a b=>k (i+1) q u (by simpa using a) (by simpa using b))
theorem bQ.same {E:Env} {w l:World} (hW:bQ E H w) (A:w.heap.size≤l.heap.size) (y:∀ b,b<w.heap.size→H b=none→l.heap[b]?=w.heap[b]?) (u:∀ o x,H o=some x→l.heap[o]?=w.heap[o]?):bQ E H l:=by
 have d:∀ b,b<w.heap.size→l.heap[b]?=w.heap[b]?:=fun b hlt=>by
  cases e:H b with
  | none=>exact y b hlt e
  | some x=>exact u b x e
 refine⟨fun b cs h=>?_,fun o x h=>?_,fun o n h=>?_⟩
 ·obtain⟨c,ty,fr,i⟩:=hW.g b cs h;exact⟨c,ty,fr,(d b (a2A.1 i).1).trans i⟩
 ·obtain⟨c,i⟩:=hW.h o x h;exact⟨Nat.lt_of_lt_of_le c A,i.mono (.refl E) (d o c)⟩
 ·obtain⟨p,ty,fr,c,i⟩:=hW.s o n h;exact⟨p,ty,fr,(d o (a2A.1 c).1).trans c,i⟩
inductive Plain:PV→Prop
 | int (k:IntKind) (n:Int):Plain (.int k n)
 | bool (b:Bool):Plain (.bool b)
 | str (l:List UInt8):Plain (.str l)
theorem Plain.rep {v:PV} (h:Plain v) {E c:Env} {u:Value} (r:bA E v u):bA c v u:=by
 cases h<;>cases r
 ·exact .int _ _
 ·exact .bool _
 ·exact .str _
theorem aH.aBT {name o:Nat} {rs:List (List PV)} {args:List PV} (Y:Plain v) (h:aH C name (args.map (PV.frz o s rs)) .nil (aF v)) :
  aH C name args (PH.nil.set o (.rows s rs)) (fun r H'=>r=v∧H'=PH.nil.set o (.rows s rs)):=by
 refine⟨h.1,fun E w vs Q hW B=>?_⟩;have Z:jJ (PF.args args) (PH.nil.set o (.rows s rs)) _ _:=.step o (s:=s) (rs:=rs) (by simp only[aT,if_true]) (.refl _ _);obtain⟨N,k1,k2,k3⟩:=Z.sound hW;rw[aaL] at k1 k2;have A:=B.len;have J:eQ N (args.map (PV.frz o s rs)) vs.toList:=by
  refine eQ.of _ _ (by rw[aYN]; exact A) fun i p u V X=>?_;have:=k3 (fun i=>(vs.toList[i]?).getD undef) (fun j q O=>by have U:=(aZU.1 O).1;have y:j<vs.toList.length:=Om;simp only[aZA y,a1L];exact B.at_ j q _ O (aZA y)) i p (by rw[nK,args_at,← aZN]; exact V)
  simp only[X,a1L] at this;exact this
 refine (h.2 N w vs (k2.env.num.trans Q) k1 J).mono fun e w' S=>?_;obtain⟨u,pv,E2,H2,rfl,R,W,l,rfl,rfl⟩:=S;have c:∀ b,b<w.heap.size→w'.heap[b]?=w.heap[b]?:=fun b d=>l.block b d rfl;refine⟨u,pv,E,_,rfl,hW.same l.size (fun b d _=>c b d) (fun q x M=>c q (hW.h q x M).1),Y.rep W,⟨.refl E,l.os,l.tape,l.output,l.size,fun b d _=>c b d,fun q x M=>.inl ⟨x,M⟩,fun b cs d=>.inl d⟩,rfl,rfl⟩
theorem Yw {name o:Nat} {rs:List (List PV)} {args:List aQ} {vs:List PV} {d:Option Nat} {K:PF→PH→Prop} (l:Plain v) (h:aH C name (vs.map (PV.frz o s rs)) .nil (aF v)) (c:H o=some (.rows s rs)) (e:aQ.evs F args=some vs)
  (i:K (F.put d v) H):iV C name args [] d K F H:=by
 refine lF (h.aBT l) e (PH.aK a_ c) ?_;rintro r H' ⟨rfl,rfl⟩ -;rw[PH.over_self _ (PH.aK a_ c)];exact i
theorem azK {Hs:PH} {S:Spec} {name o:Nat} {rs:List (List PV)} {vs:List PV} {R:PH→PV→PH→Prop} {args:List aQ} {st:Bool} {d:Option Nat} {K:PF→PH→Prop} (l:S name vs=some ([o],R)) (x:Plain v) (w:H o=some (.rows s rs))
  (h:aH C name (vs.map (PV.frz o s rs)) .nil (aF v)) (c:R (PH.nil.set o (.rows s rs)) v (PH.nil.set o (.rows s rs))) (e:∀ r H',R (PH.nil.set o (.rows s rs)) r H'→r=v∧H'=PH.nil.set o (.rows s rs)) (p:aQ.evs F args=some vs) (i:Hs.le H) (u:K (F.put d v) H) :
  dOp C Hs S st (.call name args) d K F H:=ba l w (h.aBT x) c e p i u
theorem I3 {name t:Nat} {R:PV→PH→Prop} {d:Option Nat} {K:PF→PH→Prop} (h:aH C name [.sl s rows] .nil R) (w:bU H s v rows) (p:F t=some v)
  (l:∀ (c:PF) (e:PH),(∀ i u,F i=some u→Pure u→c i=some u)→∀ r H',R r H'→mH e .nil H'→K (c.put d r) (e.over .nil H')):iV C name [.tmp t] [] d K F H:=by
 rcases w with ⟨rfl,rfl⟩ | ⟨q,rs,rfl,h1,h2,h3⟩
 ·exact .inl ⟨[.aB],.nil,R,by rw[rT,GK,p,GL]; rfl,a_,h.aoZ (.inl ⟨rfl,rfl⟩),l F H fun i u hi _=>hi⟩
 ·refine .inr ⟨_,_,.step q h1 (.refl _ _),[.sl s rows],.nil,R,?_,a_,h,l _ _ fun i u hi x=>?_⟩
  ·simp only[rT,GL,GK,nK,p,aZZ,qF h2,h3,a0M]
  ·rw[nK,hi,aZZ,x q s rs]
end
theorem B7 (l:List Int) (i:Nat) (x:Int):(aY l).set i [.int .i64 x]=aY (l.set i x):=by unfold aY; rw[List.map_set]
theorem XL (n:Nat):aYR n [PV.int .i64 0]=aY (aYR n 0):=by simp[aY]
def aOV (f:aE) (c:List Int) (d:Nat):Int:=if c.length=f.aXC.length then min (max (c.getD d 0) 0) (ext f d) else ext f d
def aRU (f:aE) (c:List Int):List Int:=(aYO f.aXC.length).map (aOV f c)
abbrev lay (l:List (List Int)):PV:=.sl 1 (l.map fun r=>[ints r])
def aTY (n:Nat) (xs:List Int):List Int:=(aYO n).map fun (d:Nat)=>((xs.count (d:Int):Nat):Int)
def aOF (f:aE) (l:List (List Int)):List Int:=aTY f.aXC.length l.flatten
structure aQJ (l:List (List Int)):Prop where
 rows:l.length≤16777216
 all:l.flatten.length≤16777216
theorem asE (l:List (List Int)) {i:Nat} (h:i<l.length):(l.take (i+1)).flatten=(l.take i).flatten++l[i]:=by
 rw[aZW h,List.flatten_append];simp only[List.flatten_cons,List.flatten_nil,a0M]
structure aNN where
 kind:Int
 vol:Int
 wher:Int
abbrev aNN.cells (x:aNN):List PV:=[.int .i64 x.kind,.int .i64 x.vol,.int .i64 x.wher]
section
variable {C:Ctx} {F:PF} {H:PH}
theorem aqK {name:Nat} {vs cs:List PV} {r:PV} {e:PH} {args:List aQ} {d:Option Nat} {K:PF→PH→Prop} (h:aH C name (vs++cs) e (fun i H'=>i=r∧H'=e)) (l:aQ.evs F args=some vs) (c:e.le H)
  (p:K (F.put d r) H):iV C name args cs d K F H:=by
 refine .inl ⟨vs++cs,e,_,by rw[l]; rfl,c,h,?_⟩;rintro i H' ⟨rfl,rfl⟩ -;rw[PH.over_self _ c];exact p
theorem bU.ne {s s':Nat} {v:PV} {rows:List (List PV)} {o:Nat} {y:List (List PV)} (h:bU H s v rows) (i:H o=some (.rows s' y)) (p:s≠s'):∀ l,v≠.osl o s 0 l:=by
 intro l e;rcases h with ⟨_,c⟩ | ⟨q,rs,h1,c,_⟩
 ·rw[c] at e; cases e
 ·rw[h1] at e;injection e with d
  subst d;rw[i] at c;injection c with c
  injection c with c
  exact p c.symm
theorem bU.set {s s':Nat} {v:PV} {rows:List (List PV)} {o:Nat} {y:List (List PV)} {x:cF} (h:bU H s v rows) (i:H o=some (.rows s' y)) (l:s≠s'):bU (H.set o x) s v rows:=by
 have e:=h.ne i l;rcases h with ⟨c,d⟩ | ⟨q,rs,c,d,h3,h4⟩
 ·exact .inl ⟨c,d⟩
 ·refine .inr ⟨q,rs,c,?_,h3,h4⟩;have:q≠o:=by rintro rfl; exact e _ c
  simp only[aT,if_neg this,d]
def Dis (s:Nat) (v u:PV):Prop:=∀ q l c d,v=.osl q s 0 l→u=.osl c s 0 d→q≠c
theorem Dis.nil {s:Nat}:Dis s .aB .aB:=fun _ _ _ _ h=>by cases h
theorem Dis.symm {s:Nat} {v u:PV} (h:Dis s v u):Dis s u v:=fun q l i e c d=>(h i e q l d c).symm
end
def lY (f:aE) (i:Nat) (d:Int):Bool:=decide (0≤d)&&decide (cQ f d.toNat (lvl f i)=i)
def fK (f:aE) (xs:List Int) (i:Nat):Int:=if i=0 then 0 else ((xs.countP (lY f i):Nat):Int)
def mL (f:aE) (xs:List Int):List Int:=(aYO f.aXF.length).map (fK f xs)
def mW (f:aE) (xs:List Int) (d:Nat) (k:Nat):List Int:=(aYO f.aXF.length).map fun i=>if 4-(k:Int)<lvl f i then fK f (xs++[(d:Int)]) i else fK f xs i
theorem azP (f:aE) (xs:List Int) (d k:Nat):(mW f xs d k).length=f.aXF.length:=by simp[mW]
theorem VF.kI {f:aE} (h:VF f) {i:Nat} (hi:i<f.aXF.length):0≤lvl f i∧lvl f i≤4∧(lvl f i=0↔i=0):=by
 rcases a1B i with e | e
 ·subst e; rw[h.root.2.1]; simp
 ·have:=h.dom i e hi;omega
theorem arT {f:aE} (h:VF f) (xs:List Int) (d:Nat):mW f xs d 0=mL f xs:=by
 refine a1Y (by simp[mW,mL]) fun i e c=>?_;simp only[mW,mL,a0K,List.getElem_range];have hi:i<f.aXF.length:=by simpa [mL] using c
 have:=h.kI hi;rw[if_neg Om]
theorem arS {f:aE} (h:VF f) (xs:List Int) (d:Nat):mW f xs d 4=mL f (xs++[(d:Int)]):=by
 refine a1Y (by simp[mW,mL]) fun i l c=>?_;simp only[mW,mL,a0K,List.getElem_range];have hi:i<f.aXF.length:=by simpa [mL] using c
 have:=h.kI hi;by_cases e:i=0
 ·subst e;rw[if_neg Om];simp[fK]
 ·rw[if_pos Om]
theorem BZ (f:aE) (xs:List Int) (d:Nat) {i:Nat} (hi:i≠0):fK f (xs++[(d:Int)]) i=fK f xs i+if cQ f d (lvl f i)=i then 1 else 0:=by
 unfold fK;rw[if_neg hi,if_neg hi,List.countP_append];by_cases h:cQ f d (lvl f i)=i
 ·rw[if_pos h]; simp[lY,h]
 ·rw[if_neg h]; simp[lY,h]
theorem aHR {f:aE} (h:VF f) (xs:List Int) {d:Nat} (y:d<f.aXC.length) {k:Nat} (E:k<4) :
  (mW f xs d k)[upN f k (dN f d)]?=some (fK f xs (upN f k (dN f d))) ∧
  (mW f xs d k).set (upN f k (dN f d)) (fK f xs (upN f k (dN f d))+1)=mW f xs d (k+1):=by
 obtain⟨A,w⟩:=HC h y (k:=k) Om;constructor
 ·simp only[mW,aZN,List.getElem?_range A,aZZ];rw[if_neg Om]
 ·refine a1Y (by simp[mW]) fun i B x=>?_;have hi:i<f.aXF.length:=by simpa [mW] using x
  simp only[mW,List.getElem_set,a0K,List.getElem_range];have J:=h.kI hi;by_cases e:upN f k (dN f d)=i
  ·rw[if_pos e];subst e;rw[if_pos Om];have l:upN f k (dN f d)≠0:=by intro e; rw[e,h.root.2.1] at w; omega
   rw[BZ f xs d l,cQ,w];have:4-(4-(k:Int)).toNat=k:=Om;rw[this,if_pos rfl]
  ·rw[if_neg e];by_cases c:4-(k:Int)<lvl f i
   ·rw[if_pos c,if_pos Om]
   ·rw[if_neg c];by_cases p:4-((k+1:Nat):Int)<lvl f i
    ·rw[if_pos p];have u:lvl f i=4-(k:Int):=Om;have l:i≠0:=by intro e; subst e; rw[h.root.2.1] at u; omega
     rw[BZ f xs d l,cQ,u];have:4-(4-(k:Int)).toNat=k:=Om;rw[this,if_neg e]; simp
    ·rw[if_neg p]
theorem aHQ (f:aE) (xs:List Int) (i:Nat):0≤fK f xs i∧fK f xs i≤xs.length:=by
 unfold fK;have:=a2N (p:=lY f i) (l:=xs);split<;>omega
structure Obs where
 o5:Nat
 o7:Nat
 o8:Nat
 oD:Nat
 oB:Nat
structure Obs.Ne (o:Obs):Prop where
 a1:o.o5≠o.oD
 a2:o.o5≠o.oB
 a3:o.o7≠o.oD
 a4:o.o7≠o.oB
 a5:o.o8≠o.oD
 a6:o.o8≠o.oB
 a7:o.oD≠o.oB
structure ayG (H:PH) (o:Obs) (v:Nat) (p:bV) (A:List Bool) (D B:List Int):Prop where
 h5:H o.o5=some (.rows 1 [[.int .i64 v]])
 h7:H o.o7=some (.rows 17 [p.cells])
 h8:H o.o8=some (.rows 1 (dM A))
 hD:H o.oD=some (.rows 1 (aY D))
 hB:H o.oB=some (.rows 1 (aY B))
theorem ayG.keep {H H':PH} {o:Obs} {v:Nat} {p:bV} {A:List Bool} {D B:List Int} (h:ayG H o v p A D B) (c:∀ q s' z,3≠s'→H q=some (.rows s' z)→H' q=some (.rows s' z)):ayG H' o v p A D B :=
 ⟨c _ _ _ (by decide) h.h5,c _ _ _ (by decide) h.h7,c _ _ _ (by decide) h.h8,c _ _ _ (by decide) h.hD,c _ _ _ (by decide) h.hB⟩
structure I8 (f:aE) (row:List Int):Prop where
 len:row.length≤16777216
 at_:∀ x∈row,-1≤x∧x<(f.aXC.length:Nat)
def home (row:List Int) (i:Nat):Bool:=decide (row.getD i 0<0)
def eM (f:aE) (p:bV) (i:Nat):Int:=p.spread (lvl f i).toNat
theorem QE (n:Nat):aYR n [PV.bool false]=dM (marks n []):=by rw[Ck]; simp[dM]
theorem axO (f:aE):aYR f.aXF.length [PV.int .i64 0]=aY (mL f []):=by
 have:mL f []=aYR f.aXF.length 0:=by refine a1Y (by simp[mL]) fun i c d=>?_;simp[mL,fK]
 rw[this,XL]
def over (f:aE) (l:List (List Int)) (c:List Int) (d:Nat):Bool:=decide ((aOF f l).getD d 0>(aRU f c).getD d 0)
def acW:Rg:=[iA 2 (.mv (.const (.lit (.pointer none))))]
def acX:Rg:=[iM 3 0,iN 4 3,iC 5 .gtr 4 400]
def acY:Rg:=[iM 6 0,iA 7 (.slice 1 (Tm 6) none (some (Ci 400)) none),iM 0 7]
def xb:Rg:=[iM 8 0,iA 9 (.append 1 1 (.const .aB) (Tm 8)),iA 10 (.build [.aB,zI] [(0,1,(Tm 9))]),iA 11 (.box false (Tm 10)),iM 2 11]
def SJ:aC:=(sq acW (.seq (sq acX (.cond (Tm 5) (.region acY) .skip)) (sq xb .ret)))
def aJW:List Nat:=[]
def aCN:aX:=⟨1,12,SJ,[.tmp 2]⟩
def dd:Rg:=[iI 4 0]
def KU:Rd:=[(iM 5 0,false),(iA 6 (.aXP (Tm 5)),false),(iF 7 1 6,false),(iL 8 7,false),(iM 9 0,false),(iA 10 (.aXP (Tm 9)),false),(iF 11 0 10,false),(iL 12 11,false),(iN 13 12,false),(iB 14 .geq 8 13,false),(iM 15 14,false),(gM 16 1 15 false,false),(gC 17 .lss 16 2 15 false,false),(iQ 18 15 17,false)]
def de:Rg:=[iI 4 0]
def Q7:Rg:=[iM 19 0,iA 20 (.aXP (Tm 19)),iF 21 1 20,iL 22 21,iC 23 .add 22 1,iA 24 (.aXP (Tm 19)),iF 25 1 24,iS 1 25 23]
def Q8:Rd:=[(iM 26 0,false),(iA 27 (.aXP (Tm 26)),false),(iF 28 0 27,false),(iL 29 28,false),(iM 30 0,false),(iA 31 (.aXP (Tm 30)),false),(iF 32 1 31,false),(iL 33 32,false),(iC 34 .sub 33 1,false),(iX 35 1 29 34,false),(iL 36 35,false),(iA 37 (.conv .i64 (Tm 36)),false),(iM 38 1,false),(iB 39 .rem 37 38,false),(iM 4 39,false)]
def yB:aC:=(sq dd (.seq (dq KU (.cond (Tm 18) (sq de .ret) .skip)) (sq Q7 (dq Q8 .ret))))
def aCP:List Nat:=[]
def Jd:aX:=⟨2,40,yB,[.tmp 4]⟩
def Qi:Rg:=[iA 2 (.alloc [zB,.aB,.aB])]
def Qj:Rg:=[iM 6 0,iA 7 (.call 4 [(Tm 6),(Ci 6)]),iA 8 (.bin .add (Ci 1) (Tm 7)),iM 9 0,iA 10 (.call 4 [(Tm 9),(Ci 8)]),iA 11 (.bin .add (Ci 1) (Tm 10)),iK2 12 50 8 11,iM 5 12,iE 13 5 0,iE 14 5 1,iA 3 (.alloc [zB,.aB,.aB]),iS 3 3 13,iM 4 14]
def Qk:Rg:=[iO 15 3 3,iS 3 2 15]
def KO:aC:=(sq Qi (sq Qj (sq Qk .ret)))
def aCF:List Nat:=[]
def anI:aX:=⟨1,16,KO,[.cell 2 (some 3)]⟩
def acQ:Rg:=[iA 4 (.alloc [(.str []),.aB,.aB,.aB])]
def acR:Rg:=[iM 16 0,iM 17 1,iK2 18 4 16 17,iA 19 (.bin .add (Ci 1) (Tm 18)),iM 5 19]
def acS:Rg:=[iA 6 (.alloc [(.str []),.aB,.aB,.aB])]
def acT:Rg:=[iI 7 8]
def acU:Rg:=[iI 8 0]
def acV:Rg:=[iM 20 8,iM 21 5,iB 22 .lss 20 21]
def w8:Rg:=[iM 25 7,iM 9 25]
def w9:Rg:=[iM 26 8,iC 27 .add 26 1,iM 28 5,iB 29 .lss 27 28]
def xa:Rg:=[iM 30 0,iM 31 7,iC 32 .add 31 1,iK2 33 4 30 32,iM 9 33]
def WN:Rg:=[iM 34 7,iM 35 9,iB 36 .sub 34 35,iM 7 36]
def cu:Rg:=[iM 38 9,iA 39 (.call 50 [(Tm 38),(Ci 8)]),iM 37 39,iE 40 37 0,iE 41 37 1,iA 10 (.alloc [zB,.aB,.aB]),iS 3 10 40,iM 11 41]
def cv:Rg:=[iF 42 1 6,iL 43 42,iO 44 3 10,iA 45 (.aXI true 3 1 [zB,.aB,.aB] [(0,(Tm 44))]),iA 46 (.append 3 56 (Tm 43) (Tm 45)),iF 47 1 6,iS 1 47 46]
def cw:Rg:=[iM 48 0,iK 49 1 48,iA 12 (.alloc [zB,.aB,.aB]),iS 3 12 49]
def cx:Rg:=[iM 50 8,iC 51 .add 50 1,iM 52 5,iB 53 .lss 51 52,iM 54 53,gM 55 0 54 true,iG 56 (.call 4 [(Tm 55),(Ci 3)]) 54 true,gC 57 .eql 56 0 54 true,iP 58 54 57]
def cy:Rg:=[iA 59 (.call 47 [(Ci 0)]),iS 3 12 59]
def KR:Rg:=[iF 60 3 6,iL 61 60,iO 62 3 12,iA 63 (.aXI true 3 1 [zB,.aB,.aB] [(0,(Tm 62))]),iA 64 (.append 3 56 (Tm 61) (Tm 63)),iF 65 3 6,iS 1 65 64]
def cz:Rg:=[iZ 13]
def c7:Rg:=[iI 14 0]
def Qz:Rg:=[iM 66 14,iM 67 5,iB 68 .lss 66 67]
def Q1:Rg:=[iA 71 (.call 47 [(Ci 0)]),iA 15 (.alloc [zB,.aB,.aB]),iS 3 15 71]
def Q2:Rg:=[iM 72 14,iM 73 8,iC 74 .add 73 1,iB 75 .eql 72 74,iM 76 75,gM 77 14 76 false,gM 78 8 76 false,gB 79 .neq 77 78 76 false,gM 80 79 76 false,gM 81 0 80 true,iG 82 (.call 4 [(Tm 81),(Ci 3)]) 80 true,gC 83 .eql 82 0 80 true,iG 84 (.pick (Tm 80) (Tm 83) (.const zB)) 76 false,iQ 85 76 84]
def c8:Rg:=[iM 86 0,iK 87 1 86,iS 3 15 87]
def c9:Rg:=[iM 88 13,iO 89 3 15,iA 90 (.aXI true 3 1 [zB,.aB,.aB] [(0,(Tm 89))]),iA 91 (.append 3 56 (Tm 88) (Tm 90)),iM 13 91]
def da:Rg:=[iM 69 14,iC 70 .add 69 1,iM 14 70]
def KQ:aC:=(.seq (sq Qz (.cond (Tm 68) .skip (.exit 2))) (.seq (.block 3 (sq Q1 (.seq (sq Q2 (.cond (Tm 85) (.region c8) .skip)) (.region c9)))) (.region da)))
def db:Rg:=[iF 92 2 6,iL 93 92,iM 94 13,iA 95 (.aXI true 1 1 [.aB] [(0,(Tm 94))]),iA 96 (.append 1 24 (Tm 93) (Tm 95)),iF 97 2 6,iS 1 97 96]
def Q3:Rg:=[iM 23 8,iC 24 .add 23 1,iM 8 24]
def Qy:aC:=(.seq (sq acV (.cond (Tm 22) .skip (.exit 0))) (.seq (.block 1 (sq w8 (.seq (sq w9 (.cond (Tm 29) (.region xa) .skip)) (sq WN (sq cu (sq cv (sq cw (.seq (sq cx (.cond (Tm 58) (.region cy) .skip)) (sq KR (sq cz (.seq (sq c7 (.block 2 (.loop KQ))) (.region db)))))))))))) (.region Q3)))
def Q4:Rg:=[iO 98 4 6,iS 4 4 98]
def SI:aC:=(sq acQ (sq acR (sq acS (sq acT (.seq (sq acU (.block 0 (.loop Qy))) (sq Q4 .ret))))))
def aJU:List Nat:=[45,63,90,95]
def aCJ:aX:=⟨2,99,SI,[.cell 4 (some 4)]⟩
def adA:Rg:=[iZ 4]
def adB:Rg:=[iZ 5]
def adC:Rg:=[iI 6 0]
def adD:Rg:=[iM 7 6,iM 8 1,iA 9 (.aXX true (Tm 8) (Ci 1)),iB 10 .lss 7 9]
def adE:Rg:=[iM 13 5,iM 14 0,iK 15 1 14,iA 16 (.aXI true 3 1 [zB,.aB,.aB] [(0,(Tm 15))]),iA 17 (.append 3 56 (Tm 13) (Tm 16)),iM 5 17]
def adF:Rg:=[iM 11 6,iC 12 .add 11 1,iM 6 12]
def acZ:aC:=(.seq (sq adD (.cond (Tm 10) .skip (.exit 0))) (.seq (.block 1 (.region adE)) (.region adF)))
def adG:Rg:=[iM 18 5,iM 4 18]
def SL:aC:=(sq adA (sq adB (.seq (sq adC (.block 0 (.loop acZ))) (sq adG .ret))))
def aJZ:List Nat:=[16]
def aCQ:aX:=⟨2,19,SL,[.tmp 4]⟩
def Q5:Rg:=[iA 4 (.mv (.const (.str [])))]
def Q6:Rg:=[iM 5 0,iM 6 1,iK 7 195 6,iB 8 .add 5 7,iM 4 8]
def KT:aC:=(sq Q5 (sq Q6 .ret))
def aCM:List Nat:=[]
def anL:aX:=⟨2,9,KT,[.tmp 4]⟩
def Qn:Rg:=[iM 12 1,iA 13 (.aXP (Tm 12)),iF 14 3 13,iL 15 14,iM 16 2,iX 17 7 15 16,iF 18 1 17,iL 19 18,iC 20 .add 19 1,iM 8 20]
def Qo:Rg:=[iM 21 0,iA 22 (.call 4 [(Tm 21),(Ci 2)]),iA 23 (.bin .add (Ci 1) (Tm 22)),iM 9 23]
def Qp:Rg:=[iM 24 8,iC 25 .eql 24 2]
def Qq:Rg:=[iI 9 1]
def KP:Rg:=[iI 10 0]
def cp:Rg:=[iM 26 10,iM 27 9,iB 28 .lss 26 27]
def cq:Rg:=[iM 31 8,iC 32 .eql 31 5]
def Qr:Rg:=[iM 33 1,iA 34 (.aXP (Tm 33)),iF 35 4 34,iL 36 35,iN 37 36,iM 38 3,iB 39 .lss 37 38]
def Qs:Rd:=[(iM 40 1,true),(iM 41 1,true),(iA 42 (.aXP (Tm 41)),true),(iF 43 4 42,true),(iL 44 43,true),(iM 45 1,false),(iA 46 (.aXP (Tm 45)),false),(iF 47 4 46,false),(iL 48 47,false),(iN 49 48,false),(iA 50 (.call 29 [(.const (.str [100])),(Tm 49)]),true),(iM 51 0,true),(iM 52 1,true),(iA 53 (.aXP (Tm 52)),true),(iF 54 2 53,true),(iL 55 54,true),(iN 56 55,true),(iK2 57 4 51 56,true),(iM 58 2,true),(iA 59 (.build [(.str []),zI,zI] [(0,1,(Tm 50)),(1,1,(Tm 57)),(2,1,(Tm 58))]),false),(iA 60 (.aXI true 3 1 [(.str []),zI,zI] [(0,(Tm 59))]),false),(iA 61 (.append 3 32 (Tm 44) (Tm 60)),true),(iA 62 (.aXP (Tm 40)),false),(iF 63 4 62,false)]
def Qt:Rd:=[(iS 1 63 61,true)]
def Cw:Rg:=[iM 64 1,iA 65 (.aXP (Tm 64)),iF 66 4 65,iL 67 66,iN 68 67,iM 69 3,iB 70 .geq 68 69,iM 71 70,gM 72 1 71 false,iG 73 (.aXP (Tm 72)) 71 false,gF 74 3 73 71 false,gL 75 74 71 false,gN 76 75 71 false,gC 77 .geq 76 35 71 false,iQ 78 71 77]
def Cx:Rd:=[(iM 79 8,false),(iA 80 (.aYD (.const (.str [45,115,114,107,109])) (Tm 79)),false),(iA 81 (.aXI true 1 1 [(.int .u8 0)] [(0,(Tm 80))]),false),(iA 82 (.aXQ (Tm 81)),false),(iM 83 1,false),(iA 84 (.aXP (Tm 83)),false),(iF 85 3 84,false),(iL 86 85,false),(iN 87 86,false),(iK2 88 29 82 87,true),(iM 89 8,true),(iM 90 2,true),(iM 91 0,true),(iA 92 (.call 4 [(Tm 91),(Ci 16)]),true),(iA 93 (.bin .add (Ci 1) (Tm 92)),true),(iA 94 (.call 47 [(Ci 0)]),true),(iA 95 (.build [(.str []),zI,zI,zI,zB,.aB,.aB] [(0,1,(Tm 88)),(1,1,(Tm 89)),(2,1,(Tm 90)),(3,1,(Tm 93)),(4,3,(Tm 94))]),false),(iA 11 (.alloc [(.str []),zI,zI,zI,zB,.aB,.aB]),true),(iS 7 11 95,true)]
def Cy:Rg:=[iM 96 0,iA 97 (.call 4 [(Tm 96),(Ci 3)]),iC 98 .eql 97 0]
def Cz:Rg:=[iM 100 0,iA 101 (.call 4 [(Tm 100),(Ci 6)]),iA 102 (.bin .add (Ci 2) (Tm 101)),iA 103 (.call 50 [(Ci 1),(Tm 102)]),iM 99 103,iE 104 99 0,iE 105 99 1,iF 106 4 11,iS 3 106 104]
def SG:Rd:=[(iM 107 1,true),(iM 108 1,false),(iA 109 (.aXP (Tm 108)),false),(iF 110 3 109,false),(iL 111 110,false),(iO 112 7 11,false),(iA 113 (.aXI true 7 1 [(.str []),zI,zI,zI,zB,.aB,.aB] [(0,(Tm 112))]),false),(iA 114 (.append 7 96 (Tm 111) (Tm 113)),true),(iA 115 (.aXP (Tm 107)),false),(iF 116 3 115,false),(iS 1 116 114,true)]
def SH:Rg:=[iM 117 0,iM 118 1,iM 119 1,iA 120 (.aXP (Tm 119)),iF 121 3 120,iL 122 121,iN 123 122,iC 124 .sub 123 1,iM 125 3,iA 126 (.call 7 [(Tm 117),(Tm 118),(Tm 124),(Tm 125)])]
def wN:Rg:=[iM 29 10,iC 30 .add 29 1,iM 10 30]
def wM:aC:=(.seq (sq cp (.cond (Tm 28) .skip (.exit 0))) (.seq (.block 1 (.seq (sq cq (.cond (Tm 32) (.seq (sq Qr (.cond (Tm 39) (dq Qs (.draw Qt)) .skip)) (.exit 1)) .skip)) (.seq (sq Cw (.cond (Tm 78) .ret .skip)) (dq Cx (.seq (sq Cy (.cond (Tm 98) (.region Cz) .skip)) (dq SG (.region SH))))))) (.region wN)))
def yA:aC:=(sq Qn (sq Qo (.seq (sq Qp (.cond (Tm 25) (.region Qq) .skip)) (sq KP (.block 0 (.loop wM))))))
def aCG:List Nat:=[60,81,113]
def Jc:aX:=⟨4,127,yA,[]⟩
def Cm:Rg:=[iA 6 (.alloc [zI,.aB,.aB,.aB,.aB,.aB,.aB])]
def Cn:Rg:=[iM 20 0,iA 21 (.call 4 [(Tm 20),(Ci 2)]),iA 22 (.bin .add (Ci 1) (Tm 21)),iA 23 (.build [zI,.aB,.aB,.aB,.aB,.aB,.aB] [(0,1,(Tm 22))]),iA 7 (.alloc [zI,.aB,.aB,.aB,.aB,.aB,.aB]),iS 7 7 23]
def Cp:Rg:=[iM 24 0,iA 25 (.call 4 [(Tm 24),(Ci 2)]),iA 26 (.bin .add (Ci 1) (Tm 25)),iM 8 26]
def Cq:Rg:=[iI 9 0]
def Cr:Rg:=[iM 27 9,iM 28 8,iB 29 .lss 27 28]
def Cs:Rg:=[iM 32 0,iA 33 (.call 2 [(Tm 32),(Ci 2)]),iA 10 (.alloc [(.str []),.aB,.aB,.aB]),iS 4 10 33]
def Ct:Rg:=[iM 34 9,iA 35 (.call 29 [(.const (.str [108,97,119])),(Tm 34)]),iF 36 0 10,iS 1 36 35]
def Cu:Rg:=[iF 37 1 7,iL 38 37,iO 39 4 10,iA 40 (.aXI true 4 1 [(.str []),.aB,.aB,.aB] [(0,(Tm 39))]),iA 41 (.append 4 88 (Tm 38) (Tm 40)),iF 42 1 7,iS 1 42 41]
def Cv:Rg:=[iM 30 9,iC 31 .add 30 1,iM 9 31]
def SF:aC:=(.seq (sq Cr (.cond (Tm 29) .skip (.exit 0))) (.seq (.block 1 (sq Cs (sq Ct (.region Cu)))) (.region Cv)))
def mh:Rg:=[iM 43 0,iA 44 (.call 4 [(Tm 43),(Ci 2)]),iA 45 (.bin .add (Ci 1) (Tm 44)),iM 11 45]
def mi:Rg:=[iI 12 0]
def mj:Rg:=[iM 46 12,iM 47 11,iB 48 .lss 46 47]
def ml:Rd:=[(iF 51 2 7,true),(iL 52 51,true),(iM 53 12,false),(iA 54 (.call 29 [(.const (.str [109])),(Tm 53)]),true),(iM 55 0,true),(iA 56 (.call 4 [(Tm 55),(Ci 4)]),true),(iA 57 (.bin .add (Ci 1) (Tm 56)),true),(iM 58 0,true),(iA 59 (.call 4 [(Tm 58),(Ci 8)]),true),(iA 60 (.bin .add (Ci 1) (Tm 59)),true),(iM 61 0,true),(iF 62 1 7,true),(iL 63 62,true),(iN 64 63,true),(iK2 65 4 61 64,true),(iA 66 (.build [(.str []),zI,zI,zI] [(0,1,(Tm 54)),(1,1,(Tm 57)),(2,1,(Tm 60)),(3,1,(Tm 65))]),false),(iA 67 (.aXI true 4 1 [(.str []),zI,zI,zI] [(0,(Tm 66))]),false),(iA 68 (.append 4 40 (Tm 52) (Tm 67)),true),(iF 69 2 7,false)]
def mm:Rd:=[(iS 1 69 68,true)]
def mo:Rg:=[iM 49 12,iC 50 .add 49 1,iM 12 50]
def KD:aC:=(.seq (sq mj (.cond (Tm 48) .skip (.exit 2))) (.seq (.block 3 (dq ml (.draw mm))) (.region mo)))
def mp:Rg:=[iA 70 (.call 47 [(Ci 0)]),iA 71 (.build [(.str []),zI,zI,zI,zB,.aB,.aB] [(2,1,(Ci (-1))),(4,3,(Tm 70))]),iA 72 (.aXI false 7 1 [(.str []),zI,zI,zI,zB,.aB,.aB] [(0,(Tm 71))]),iF 73 3 7,iS 1 73 72]
def mq:Rg:=[iM 74 0,iM 75 1,iA 76 (.call 7 [(Tm 74),(Tm 7),(Ci 0),(Tm 75)])]
def mr:Rg:=[iM 77 0,iA 78 (.call 4 [(Tm 77),(Ci 2)]),iA 79 (.bin .add (Ci 1) (Tm 78)),iM 13 79]
def mu:Rg:=[iI 14 0]
def mw:Rg:=[iM 80 14,iM 81 13,iB 82 .lss 80 81]
def KG:Rg:=[iM 85 14,iA 86 (.call 29 [(.const (.str [112])),(Tm 85)]),iM 87 0,iA 88 (.call 4 [(Tm 87),(Ci 2)]),iA 89 (.bin .add (Ci 1) (Tm 88)),iM 90 0,iA 91 (.call 4 [(Tm 90),(Ci 3)]),iM 92 0,iA 93 (.call 4 [(Tm 92),(Ci 4)]),iA 94 (.bin .add (Ci 1) (Tm 93)),iK 95 47 94,iA 96 (.build [(.str []),zI,zI,zI,zI,zI,zI,zI,zI,.aB,.aB,zB,.aB,.aB,zB,.aB,.aB] [(0,1,(Tm 86)),(1,1,(Tm 89)),(2,1,(Tm 91)),(14,3,(Tm 95))]),iA 15 (.alloc [(.str []),zI,zI,zI,zI,zI,zI,zI,zI,.aB,.aB,zB,.aB,.aB,zB,.aB,.aB]),iS 17 15 96]
def xV:Rd:=[(iF 97 1 15,true),(iL 98 97,true),(iM 99 0,false),(iF 100 2 15,false),(iL 101 100,false),(iC 102 .add 101 1,false),(iK2 103 4 99 102,true),(iB 104 .add 98 103,false),(iF 105 3 15,false)]
def xW:Rd:=[(iS 1 105 104,true)]
def xX:Rg:=[iM 106 0,iF 107 2 15,iL 108 107,iK2 109 5 106 108,iF 110 10 15,iS 1 110 109]
def xY:Rg:=[iM 112 0,iA 113 (.call 4 [(Tm 112),(Ci 9)]),iA 114 (.call 50 [(Tm 113),(Ci 8)]),iM 111 114,iE 115 111 0,iE 116 111 1,iF 117 11 15,iS 3 117 115]
def KI:Rg:=[iI 16 1]
def my:Rg:=[iM 118 16,iC 119 .lss 118 5]
def mz:Rg:=[iM 122 0,iA 123 (.call 4 [(Tm 122),(Ci 3)]),iC 124 .eql 123 0]
def m5:Rg:=[iM 125 16,iM 126 0,iA 127 (.call 4 [(Tm 126),(Ci 3)]),iA 128 (.bin .add (Ci 1) (Tm 127)),iF 129 4 15,iA 130 (.idxA 5 1 (Tm 129) (Tm 125)),iS 1 130 128]
def KJ:Rg:=[iM 120 16,iC 121 .add 120 1,iM 16 121]
def xU:aC:=(.seq (sq my (.cond (Tm 119) .skip (.exit 6))) (.seq (.block 7 (sq mz (.cond (Tm 124) (.region m5) .skip))) (.region KJ)))
def KK:Rg:=[iM 131 0,iM 132 11,iK2 133 4 131 132,iM 17 133]
def KL:Rg:=[iM 134 17,iA 135 (.aXI false 1 1 [zI] [(0,(Tm 134))]),iF 136 9 15,iS 1 136 135]
def KM:Rg:=[iM 137 11,iC 138 .gtr 137 1,iM 139 138,gM 140 0 139 true,iG 141 (.call 4 [(Tm 140),(Ci 2)]) 139 true,gC 142 .eql 141 0 139 true,iP 143 139 142]
def KN:Rg:=[iF 144 9 15,iL 145 144,iM 146 17,iA 147 (.bin .sub (Ci 1) (Tm 146)),iA 148 (.aXI true 1 1 [zI] [(0,(Tm 147))]),iA 149 (.append 1 8 (Tm 145) (Tm 148)),iF 150 9 15,iS 1 150 149]
def xZ:Rg:=[iF 151 5 7,iL 152 151,iO 153 17 15,iA 154 (.aXI true 17 1 [(.str []),zI,zI,zI,zI,zI,zI,zI,zI,.aB,.aB,zB,.aB,.aB,zB,.aB,.aB] [(0,(Tm 153))]),iA 155 (.append 17 240 (Tm 152) (Tm 154)),iF 156 5 7,iS 1 156 155]
def m6:Rg:=[iM 83 14,iC 84 .add 83 1,iM 14 84]
def KE:aC:=(.seq (sq mw (.cond (Tm 82) .skip (.exit 4))) (.seq (.block 5 (sq KG (.seq (dq xV (.draw xW)) (sq xX (sq xY (.seq (sq KI (.block 6 (.loop xU))) (sq KK (sq KL (.seq (sq KM (.cond (Tm 143) (.region KN) .skip)) (.region xZ)))))))))) (.region m6)))
def m7:Rg:=[iM 157 0,iM 158 2,iC 159 .add 158 1,iK2 160 4 157 159,iM 18 160]
def m8:Rg:=[iI 19 0]
def m9:Rg:=[iM 161 19,iM 162 18,iB 163 .lss 161 162]
def na:Rd:=[(iF 166 6 7,true),(iL 167 166,true),(iM 168 19,false),(iA 169 (.call 29 [(.const (.str [118])),(Tm 168)]),true),(iM 170 0,true),(iF 171 5 7,true),(iL 172 171,true),(iN 173 172,true),(iK2 174 4 170 173,true),(iA 175 (.build [(.str []),zI] [(0,1,(Tm 169)),(1,1,(Tm 174))]),false),(iA 176 (.aXI true 2 1 [(.str []),zI] [(0,(Tm 175))]),false),(iA 177 (.append 2 24 (Tm 167) (Tm 176)),true),(iF 178 6 7,false)]
def nb:Rd:=[(iS 1 178 177,true)]
def nc:Rg:=[iM 164 19,iC 165 .add 164 1,iM 19 165]
def KF:aC:=(.seq (sq m9 (.cond (Tm 163) .skip (.exit 8))) (.seq (.block 9 (dq na (.draw nb))) (.region nc)))
def ni:Rg:=[iO 179 7 7,iS 7 6 179]
def DY:aC:=(sq Cm (sq Cn (sq Cp (.seq (sq Cq (.block 0 (.loop SF))) (sq mh (.seq (sq mi (.block 2 (.loop KD))) (sq mp (sq mq (sq mr (.seq (sq mu (.block 4 (.loop KE))) (sq m7 (.seq (sq m8 (.block 8 (.loop KF))) (sq ni .ret)))))))))))))
def atH:List Nat:=[40,67,148,154,176]
def Qh:aX:=⟨3,180,DY,[.cell 6 (some 7)]⟩
def Cg:Rg:=[iA 6 (.alloc [zI,.aB,.aB,.aB,.aB,.aB,.aB])]
def Ch:Rg:=[iM 7 0,iK 8 28 7,iM 9 1,iM 10 2,iA 11 (.call 0 [(Tm 8),(Tm 9),(Tm 10)]),iS 7 6 11]
def DW:aC:=(sq Cg (sq Ch .ret))
def atE:List Nat:=[]
def P8:aX:=⟨3,12,DW,[.cell 6 (some 7)]⟩
def V0:Rg:=[iZ 2]
def V1:Rg:=[iM 4 0,iN 5 4,iM 3 5]
def V2:Rg:=[iM 6 3,iC 7 .gtr 6 0,iM 8 7,gM 9 0 8 true,gM 10 3 8 true,gC 11 .sub 10 1 8 true,iG 12 (.aXT 1 (Tm 9) (Tm 11)) 8 true,gL 13 12 8 true,iG 14 (.bin .eql (Tm 13) (.const (.int .u32 0))) 8 true,iP 15 8 14]
def V3:Rg:=[iM 16 3,iC 17 .sub 16 1,iM 3 17]
def Vz:aC:=(.seq (sq V2 (.cond (Tm 15) .skip (.exit 0))) (.block 1 (.region V3)))
def gg:Rg:=[iM 18 0,iM 19 3,iA 20 (.slice 1 (Tm 18) none (some (Tm 19)) none),iA 21 (.append 1 4 (.const .aB) (Tm 20)),iM 2 21]
def NY:aC:=(sq V0 (sq V1 (.seq (.block 0 (.loop Vz)) (sq gg .ret))))
def aFJ:List Nat:=[]
def apQ:aX:=⟨1,22,NY,[.tmp 2]⟩
def Vn:Rg:=[iZ 2]
def Vo:Rg:=[iM 3 0,iA 4 (.conv .u32 (Tm 3)),iM 5 0,iA 6 (.bin .shr (Tm 5) (.const (.int .u64 32))),iA 7 (.conv .u32 (Tm 6)),iA 8 (.aXI true 1 2 [(.int .u32 0)] [(0,(Tm 4)),(1,(Tm 7))]),iK 9 38 8,iM 2 9]
def NP:aC:=(sq Vn (sq Vo .ret))
def aEX:List Nat:=[8]
def apL:aX:=⟨1,10,NP,[.tmp 2]⟩
def Gm:Rg:=[iT 2 false]
def Gn:Rg:=[iM 3 0,iK 4 38 3,iN 5 4,iC 6 .gtr 5 512,iM 2 6]
def FL:aC:=(sq Gm (sq Gn .ret))
def awC:List Nat:=[]
def Vm:aX:=⟨1,7,FL,[.tmp 2]⟩
def agK:Rg:=[iI 4 0]
def agL:Rg:=[iM 6 0,iK 7 38 6,iM 8 1,iK 9 38 8,iM 0 7,iM 1 9]
def agM:Rg:=[iM 10 0,iN 11 10,iM 12 1,iN 13 12,iB 14 .neq 11 13]
def agN:Rg:=[iM 15 0,iN 16 15,iM 17 1,iN 18 17,iB 19 .lss 16 18]
def agO:Rg:=[iI 4 (-1)]
def agP:Rg:=[iI 4 1]
def agQ:Rg:=[iM 20 0,iN 21 20,iC 22 .sub 21 1,iM 5 22]
def agR:Rg:=[iM 23 5,iC 24 .geq 23 0]
def agS:Rd:=[(iM 27 0,false),(iM 28 5,false),(iX 29 1 27 28,false),(iL 30 29,false),(iM 31 1,false),(iM 32 5,false),(iX 33 1 31 32,false),(iL 34 33,false),(iB 35 .lss 30 34,false)]
def agT:Rg:=[iI 4 (-1)]
def U9:Rd:=[(iM 36 0,false),(iM 37 5,false),(iX 38 1 36 37,false),(iL 39 38,false),(iM 40 1,false),(iM 41 5,false),(iX 42 1 40 41,false),(iL 43 42,false),(iB 44 .gtr 39 43,false)]
def Va:Rg:=[iI 4 1]
def Vb:Rg:=[iM 25 5,iC 26 .sub 25 1,iM 5 26]
def U8:aC:=(.seq (sq agR (.cond (Tm 24) .skip (.exit 0))) (.seq (.block 1 (.seq (dq agS (.cond (Tm 35) (sq agT .ret) .skip)) (dq U9 (.cond (Tm 44) (sq Va .ret) .skip)))) (.region Vb)))
def Vc:Rg:=[iI 4 0]
def UR:aC:=(sq agK (sq agL (.seq (sq agM (.cond (Tm 14) (.seq (sq agN (.cond (Tm 19) (sq agO .ret) .skip)) (sq agP .ret)) .skip)) (.seq (sq agQ (.block 0 (.loop U8))) (sq Vc .ret)))))
def aLU:List Nat:=[]
def aEQ:aX:=⟨2,45,UR,[.tmp 4]⟩
def ry:Rg:=[iZ 4,iZ 5]
def rz:Rg:=[iM 20 0,iM 21 1,iK2 22 32 20 21,iC 23 .lss 22 0]
def r8:Rg:=[iM 24 0,iK 25 38 24,iZ 4,iM 5 25]
def r9:Rg:=[iM 26 1,iN 27 26,iC 28 .eql 27 1]
def NL:Rg:=[iM 29 0,iN 30 29,iA 31 (.aXK 1 4 [(.int .u32 0)] (Tm 30) (Tm 30)),iM 6 31]
def NM:Rg:=[iA 7 (.mv (.const (.int .u64 0)))]
def NN:Rg:=[iM 32 0,iN 33 32,iC 34 .sub 33 1,iM 8 34]
def sa:Rg:=[iM 35 8,iC 36 .geq 35 0]
def sb:Rg:=[iM 39 7,iA 40 (.bin .shl (Tm 39) (.const (.int .u64 32))),iM 41 0,iM 42 8,iX 43 1 41 42,iL 44 43,iA 45 (.conv .u64 (Tm 44)),iB 46 .or 40 45,iM 9 46]
def sd:Rg:=[iM 47 6,iM 48 8,iM 49 9,iM 50 1,iA 51 (.aXT 1 (Tm 50) (Ci 0)),iL 52 51,iA 53 (.conv .u64 (Tm 52)),iB 54 .quo 49 53,iA 55 (.conv .u32 (Tm 54)),iX 56 1 47 48,iS 1 56 55]
def ZF:Rg:=[iM 57 9,iM 58 1,iA 59 (.aXT 1 (Tm 58) (Ci 0)),iL 60 59,iA 61 (.conv .u64 (Tm 60)),iB 62 .rem 57 61,iM 7 62]
def ZG:Rg:=[iM 37 8,iC 38 .sub 37 1,iM 8 38]
def EY:aC:=(.seq (sq sa (.cond (Tm 36) .skip (.exit 0))) (.seq (.block 1 (sq sb (sq sd (.region ZF)))) (.region ZG)))
def EZ:Rg:=[iM 63 6,iK 64 38 63,iM 65 7,iK 66 35 65,iM 4 64,iM 5 66]
def ZH:Rg:=[iM 67 1,iN 68 67,iA 69 (.bin .mul (Ci 32) (Tm 68)),iM 70 1,iK 71 31 70,iB 72 .sub 69 71,iM 10 72]
def ZI:Rg:=[iM 73 0,iM 74 10,iK2 75 45 73 74,iA 76 (.aXI true 1 2 [(.int .u32 0)] [(0,(.const (.int .u32 0))),(1,(.const (.int .u32 0)))]),iA 77 (.append 1 4 (Tm 75) (Tm 76)),iM 78 1,iM 79 10,iK2 80 45 78 79,iM 11 77,iM 12 80]
def FA:Rg:=[iM 81 11,iM 82 0,iM 83 10,iK2 84 45 82 83,iN 85 84,iC 86 .add 85 1,iA 87 (.slice 1 (Tm 81) none (some (Tm 86)) none),iM 11 87]
def FB:Rg:=[iM 88 12,iM 89 12,iN 90 89,iC 91 .sub 90 1,iX 92 1 88 91,iL 93 92,iA 94 (.conv .u64 (Tm 93)),iM 13 94]
def FC:Rg:=[iM 95 11,iN 96 95,iM 97 12,iN 98 97,iB 99 .sub 96 98,iA 100 (.aXK 1 4 [(.int .u32 0)] (Tm 99) (Tm 99)),iM 14 100]
def FD:Rg:=[iM 101 14,iN 102 101,iC 103 .sub 102 1,iM 15 103]
def ZJ:Rg:=[iM 104 15,iC 105 .geq 104 0]
def ZK:Rd:=[(iM 108 11,false),(iM 109 15,false),(iM 110 12,false),(iN 111 110,false),(iB 112 .add 109 111,false),(iX 113 1 108 112,false),(iL 114 113,false),(iA 115 (.conv .u64 (Tm 114)),false),(iA 116 (.bin .shl (Tm 115) (.const (.int .u64 32))),false),(iM 117 11,false),(iM 118 15,false),(iM 119 12,false),(iN 120 119,false),(iB 121 .add 118 120,false),(iC 122 .sub 121 1,false),(iX 123 1 117 122,false),(iL 124 123,false),(iA 125 (.conv .u64 (Tm 124)),false),(iB 126 .or 116 125,false),(iM 16 126,false)]
def ZL:Rg:=[iM 127 16,iM 128 13,iB 129 .quo 127 128,iM 17 129]
def ZM:Rg:=[iM 130 17,iA 131 (.bin .gtr (Tm 130) (.const (.int .u64 4294967295)))]
def ZN:Rg:=[iA 17 (.mv (.const (.int .u64 4294967295)))]
def ZO:Rd:=[(iM 132 12,true),(iM 133 17,false),(iK 134 35 133,true),(iK2 135 44 132 134,true),(iM 136 11,true),(iM 137 15,true),(iM 138 15,true),(iM 139 12,true),(iN 140 139,true),(iB 141 .add 138 140,true),(iC 142 .add 141 1,true),(iA 143 (.slice 1 (Tm 136) (some (Tm 137)) (some (Tm 142)) none),true),(iA 144 (.append 1 4 (.const .aB) (Tm 143)),true),(iK2 145 32 135 144,true),(iC 146 .gtr 145 0,false)]
def ZP:Rg:=[iM 147 17,iA 148 (.bin .sub (Tm 147) (.const (.int .u64 1))),iM 17 148]
def vZ:aC:=(.seq (dq ZO (.cond (Tm 146) .skip (.exit 4))) (.block 5 (.region ZP)))
def FF:Rg:=[iM 149 11,iM 150 15,iM 151 15,iM 152 12,iN 153 152,iB 154 .add 151 153,iC 155 .add 154 1,iA 156 (.slice 1 (Tm 149) (some (Tm 150)) (some (Tm 155)) none),iA 157 (.append 1 4 (.const .aB) (Tm 156)),iM 158 12,iM 159 17,iK 160 35 159,iK2 161 44 158 160,iK2 162 42 157 161,iM 18 162]
def FG:Rg:=[iI 19 0]
def ZQ:Rg:=[iM 163 19,iM 164 12,iN 165 164,iB 166 .leq 163 165]
def ZR:Rg:=[iM 169 11,iM 170 15,iM 171 19,iB 172 .add 170 171,iX 173 1 169 172,⟨none,.store 1 (Tm 173) (.const (.int .u32 0)),none⟩]
def ZS:Rg:=[iM 174 19,iM 175 18,iN 176 175,iB 177 .lss 174 176]
def ZT:Rg:=[iM 178 11,iM 179 15,iM 180 19,iB 181 .add 179 180,iM 182 18,iM 183 19,iX 184 1 182 183,iL 185 184,iX 186 1 178 181,iS 1 186 185]
def FH:Rg:=[iM 167 19,iC 168 .add 167 1,iM 19 168]
def wA:aC:=(.seq (sq ZQ (.cond (Tm 166) .skip (.exit 6))) (.seq (.block 7 (sq ZR (sq ZS (.cond (Tm 177) (.region ZT) .skip)))) (.region FH)))
def FI:Rg:=[iM 187 14,iM 188 15,iM 189 17,iA 190 (.conv .u32 (Tm 189)),iX 191 1 187 188,iS 1 191 190]
def FJ:Rg:=[iM 106 15,iC 107 .sub 106 1,iM 15 107]
def wB:aC:=(.seq (sq ZJ (.cond (Tm 105) .skip (.exit 2))) (.seq (.block 3 (dq ZK (sq ZL (.seq (sq ZM (.cond (Tm 131) (.region ZN) .skip)) (.seq (.block 4 (.loop vZ)) (sq FF (.seq (sq FG (.block 6 (.loop wA))) (.region FI)))))))) (.region FJ)))
def FK:Rg:=[iM 192 14,iK 193 38 192,iM 194 11,iK 195 38 194,iM 196 10,iK2 197 40 195 196,iM 4 193,iM 5 197]
def BF:aC:=(sq ry (.seq (sq rz (.cond (Tm 23) (sq r8 .ret) .skip)) (.seq (sq r9 (.cond (Tm 28) (sq NL (sq NM (.seq (sq NN (.block 0 (.loop EY))) (sq EZ .ret)))) .skip)) (sq ZH (sq ZI (sq FA (sq FB (sq FC (.seq (sq FD (.block 2 (.loop wB))) (sq FK .ret))))))))))
def apI:List Nat:=[76]
def yl:aX:=⟨2,198,BF,[.tmp 4,.tmp 5]⟩
def agU:Rg:=[iZ 4,iZ 5,iI 6 0]
def agV:Rg:=[iM 9 0,iK 10 41 9,iM 11 10,gM 12 1 11 false,gK 13 41 12 11 false,iQ 14 11 13]
def yk:Rg:=[iZ 4,iZ 5,iI 6 2]
def agW:Rg:=[iM 15 1,iK 16 38 15,iN 17 16,iC 18 .eql 17 0]
def agX:Rg:=[iZ 4,iZ 5,iI 6 3]
def agY:Rg:=[iM 20 0,iK 21 38 20,iM 22 1,iK 23 38 22,iK2 24 39 21 23,iM 19 24,iE 25 19 0,iE 26 19 1,iM 7 25,iM 8 26]
def agZ:Rg:=[iM 27 7,iM 28 8,iM 4 27,iM 5 28,iI 6 0]
def US:aC:=(sq agU (.seq (sq agV (.cond (Tm 14) (sq yk .ret) .skip)) (.seq (sq agW (.cond (Tm 18) (sq agX .ret) .skip)) (sq agY (sq agZ .ret)))))
def aLW:List Nat:=[]
def udiv:aX:=⟨2,29,US,[.tmp 4,.tmp 5,.tmp 6]⟩
def ahB:Rg:=[iZ 4,iI 5 0]
def ahC:Rg:=[iM 10 0,iK 11 41 10,iM 12 11,gM 13 1 12 false,gK 14 41 13 12 false,iQ 15 12 14]
def ym:Rg:=[iZ 4,iI 5 2]
def ahD:Rg:=[iM 16 0,iK 17 38 16,iM 18 1,iK 19 38 18,iM 6 17,iM 7 19]
def ahE:Rg:=[iM 20 7,iN 21 20,iC 22 .gtr 21 0]
def ahF:Rg:=[iM 24 6,iM 25 7,iK2 26 39 24 25,iM 23 26,iE 27 23 0,iE 28 23 1,iM 8 27,iM 9 28]
def ahG:Rg:=[iM 29 7,iM 30 9,iM 6 29,iM 7 30]
def ahA:aC:=(.seq (sq ahE (.cond (Tm 22) .skip (.exit 0))) (.block 1 (sq ahF (.region ahG))))
def ahH:Rg:=[iM 31 6,iM 4 31,iI 5 0]
def UV:aC:=(sq ahB (.seq (sq ahC (.cond (Tm 15) (sq ym .ret) .skip)) (sq ahD (.seq (.block 0 (.loop ahA)) (sq ahH .ret)))))
def aLY:List Nat:=[]
def aEV:aX:=⟨2,32,UV,[.tmp 4,.tmp 5]⟩
def su:Rg:=[iA 6 (.alloc [zB,.aB,.aB])]
def sv:Rg:=[iM 9 1,iK 10 38 9,iM 11 2,iK 12 38 11,iM 1 10,iM 2 12]
def sw:Rg:=[iM 13 1,iN 14 13,iC 15 .eql 14 0]
def sx:Rg:=[iA 16 (.aXI true 1 1 [(.int .u32 0)] [(0,(.const (.int .u32 1)))]),iA 17 (.build [zB,.aB,.aB] [(2,1,(Tm 16))]),iS 3 6 17]
def s7:Rg:=[iM 19 1,iM 20 2,iK2 21 34 19 20,iM 18 21,iE 22 18 0,iE 23 18 1,iM 7 22,iM 8 23]
def s8:Rg:=[iM 24 7,iN 25 24,iC 26 .gtr 25 1,iM 27 26,gM 28 7 27 false,iG 29 (.aXT 1 (Tm 28) (Ci 0)) 27 false,gL 30 29 27 false,iG 31 (.bin .gtr (Tm 30) (.const (.int .u32 1))) 27 false,iQ 32 27 31]
def OB:Rg:=[iM 34 1,iM 35 7,iK2 36 33 34 35,iM 33 36,iE 37 33 0,iE 38 33 1,iE 39 33 2,iM 1 37]
def OC:Rg:=[iM 41 2,iM 42 7,iK2 43 33 41 42,iM 40 43,iE 44 40 0,iE 45 40 1,iE 46 40 2,iM 2 44]
def yN:Rg:=[iM 47 0,iM 48 1,iM 49 2,iA 50 (.build [zB,.aB,.aB] [(0,1,(Tm 47)),(1,1,(Tm 48)),(2,1,(Tm 49))]),iS 3 6 50]
def BI:aC:=(sq su (sq sv (.seq (sq sw (.cond (Tm 15) (sq sx .ret) .skip)) (.seq (sq s7 (sq s8 (.cond (Tm 32) (sq OB (.region OC)) .skip))) (sq yN .ret)))))
def apY:List Nat:=[16]
def yv:aX:=⟨3,51,BI,[.cell 6 (some 3)]⟩
def Ws:Rg:=[iA 2 (.mv (.const (.int .u64 0)))]
def Wt:Rg:=[iM 3 0,iC 4 .lss 3 0]
def Wu:Rg:=[iM 5 0,iC 6 .add 5 1,iA 7 (.un .neg (Tm 6)),iA 8 (.conv .u64 (Tm 7)),iA 9 (.bin .add (Tm 8) (.const (.int .u64 1))),iM 2 9]
def Wv:Rg:=[iM 10 0,iA 11 (.conv .u64 (Tm 10)),iM 2 11]
def OG:aC:=(sq Ws (.seq (sq Wt (.cond (Tm 4) (sq Wu .ret) .skip)) (sq Wv .ret)))
def aFY:List Nat:=[]
def aqD:aX:=⟨1,12,OG,[.tmp 2]⟩
def Wh:Rg:=[iA 4 (.alloc [zB,.aB,.aB]),iI 5 0]
def Wi:Rg:=[iM 6 1,iC 7 .eql 6 0]
def Wj:Rg:=[iA 8 (.build [zB,.aB,.aB] []),iS 3 4 8,iI 5 3]
def Wk:Rg:=[iM 9 0,iC 10 .lss 9 0,iM 11 1,iC 12 .lss 11 0,iA 13 (.eqb true (Tm 10) (Tm 12)),iM 14 0,iK 15 59 14,iK 16 35 15,iM 17 1,iK 18 59 17,iK 19 35 18,iA 20 (.call 58 [(Tm 13),(Tm 16),(Tm 19)]),iS 3 4 20,iI 5 0]
def OD:aC:=(sq Wh (.seq (sq Wi (.cond (Tm 7) (sq Wj .ret) .skip)) (sq Wk .ret)))
def aFR:List Nat:=[]
def Jj:aX:=⟨2,21,OD,[.cell 4 (some 3),.tmp 5]⟩
def aiG:Rg:=[iA 2 (.alloc [zB,.aB,.aB])]
def aiH:Rg:=[iM 6 0,iA 7 (.call 50 [(Tm 6),(Ci 1)]),iM 5 7,iE 8 5 0,iE 9 5 1,iA 3 (.alloc [zB,.aB,.aB]),iS 3 3 8,iM 4 9]
def aiI:Rg:=[iO 10 3 3,iS 3 2 10]
def VH:aC:=(sq aiG (sq aiH (sq aiI .ret)))
def aMH:List Nat:=[]
def aFO:aX:=⟨1,11,VH,[.cell 2 (some 3)]⟩
def utF (xs:List Nat) (n:Nat):PF:=((PF.nil.set 0 (aJ xs)).set 3 (.int .i64 n))
theorem aFI {C:Ctx} (xs:List Nat) (M:Lim xs) (N:xs.length≤35184372087808):NY.wp C (aR apQ.res (pB 1 (aL (aI (val xs))))) (PF.args [aJ xs]) .nil:=by
 simp only[go_sem,NY,V0,V1,apQ,aYN];refine wp_loop (α:=Nat) (fun n=>utF xs n) (fun _=>.nil) (fun n=>n≤xs.length∧∀ j x,n≤j→xs[j]?=some x→x=0) (fun n=>n) xs.length ⟨aYV _,fun j x w d=>?_⟩ ?_ a_ ?_
 ·rw[a0H w] at d; cases d
 ·unfold utF;exact Lq
 rintro n ⟨J,B⟩;have done:(0<n→∀ h:n-1<xs.length,xs[n-1]≠0)→∀ F:PF,(utF xs n).le F→aC.wp C (.seq (.region gg) .ret) (aR [.tmp 2] (pB 1 (aL (aI (val xs))))) F .nil:=by
  intro h F u;have f0:F 0=some (aJ xs):=u 0 _ (by unfold utF; simp only[go_sem]);have E:F 3=some (.int .i64 n):=u 3 _ (by unfold utF; simp only[go_sem]);have y:xs.take n=aI (val xs):=NI M J B fun x l d=>by
   rw[aZA Om] at d;injection d with d
   subst d;exact h l Om
  have H:((n:Nat):Int)≤(xs.length:Nat):=Om;simp only[go_sem,gg,f0,E,aYN,H,or_true,a0B];refine fP (rows:=[]) (src:=aL (aI (val xs))) .nil ?_ ?_ fun v H' K _=>?_
  ·simp only[go_sem];rw[← y,← List.map_take]
  ·unfold roomFor;rw[cC,← y,aZH];simp only[a1H,maxLen];omega
  ·exact p7 (.inr rfl) (by simpa using K) rfl
 simp only[aC.wp,go_sem] at done;simp only[go_sem,Vz,V2,utF];by_cases l:0<n
 ·have i:((n:Nat):Int)>0:=Om;have hlt:n-1<xs.length:=Om;have p:=bX xs hlt;have A:IntKind.i64.wrap ((n:Int)-1)=((n-1:Nat):Int):=wS Om l;simp only[go_sem,i,A,p];by_cases c:xs[n-1]=0
  ·simp only[go_sem,bN (Om:((xs[n-1]:Nat):Int)=0),V3,A];refine aD (n-1) ⟨by omega,fun j x w d=>?_⟩ Om ?_ a_
   ·by_cases e:j=n-1
    ·subst e;rw[aZA hlt] at d;injection d with d
     omega
    ·exact B j x Om d
   ·exact Lq
  ·simp only[go_sem,bD (Om:((xs[n-1]:Nat):Int)≠0)];exact done (fun _ _=>c) _ (by unfold utF; exact Lq)
 ·have i:¬ ((n:Nat):Int)>0:=Om;simp only[go_sem,i];exact done (fun h=>absurd h l) _ (by unfold utF; exact Lq)
structure pC (C:Ctx):Prop where
 trimM:∀ xs,Lim xs→xs.length≤35184372087808→aH C 38 [aJ xs] .nil (pB 1 (aL (aI (val xs))))
theorem pC.trim {C:Ctx} (L:pC C) (xs:List Nat) (d:Lim xs) (c:xs.length≤35184372087808):aH C 38 [aJ xs] .nil (aF (aJ (aI (val xs)))):=(L.trimM xs d c).freeze
theorem aEW {C:Ctx} (L:pC C) (v:Nat) (A:v<18446744073709551616):NP.wp C (aR apL.res (cA (aJ (aI v)))) (PF.args [.int .u64 v]) .nil:=by
 have p:IntKind.u32.wrap ((v:Nat):Int)=((v%4294967296:Nat):Int):=cO v;have e:v/4294967296<4294967296:=Om;have u:IntKind.u32.wrap ((v/4294967296:Nat):Int)=((v/4294967296:Nat):Int):=by rw[cO,a0E e]
 have w:Lim [v%4294967296,v/4294967296]:=by
  intro x l;simp only[aYY,List.mem_nil_iff,or_false] at l;rcases l with rfl | rfl
  ·exact a0I _ (by decide)
  ·exact e
 have c:val [v%4294967296,v/4294967296]=v:=by simp only[val,Nat.mul_zero,a0S]; exact Nat.mod_add_div v 4294967296
 have d:shift .shr .u64 (v:Int) 32=some (.int .u64 ((v/4294967296:Nat):Int)):=yJ;have y:(2:Nat)*1≤16777216:=by decide
 simp only[go_sem,NP,Vn,Vo,apL,p,d,u,y];have i:=L.trim [v%4294967296,v/4294967296] w (by simp);rw[c] at i;refine aA i rfl ?_;simp only[go_sem];exact aZ (.inr rfl) .nil rfl a_ ⟨.refl _,rfl⟩
theorem awB {C:Ctx} (L:pC C) (xs:List Nat) (d:Lim xs) (c:xs.length≤35184372087808):FL.wp C (aR Vm.res (cA (.bool (decide (nl (val xs)>512))))) (PF.args [aJ xs]) .nil:=by
 simp only[go_sem,FL,Gm,Gn,Vm];refine aA (L.trim xs d c) rfl ?_;simp only[go_sem,aYN,aW];refine bE rfl ?_;rw[decide_eq_decide];omega
theorem alB {a b:Nat} (h:nl a<nl b):dJ a b=-1:=by
 have:a<b:=by
  rcases aZL a b with h' | h'
  ·exact h'
  ·have:=fQ h'; omega
 simp[dJ,this]
theorem alA {a b:Nat} (h:nl b<nl a):dJ a b=1:=by
 have:b<a:=by
  rcases aZL b a with h' | h'
  ·exact h'
  ·have:=fQ h'; omega
 have c:¬ a<b:=Om;simp[dJ,this,c]
def apF (X Y:List Nat) (i:Int):PF:=(((PF.nil.set 0 (aJ X)).set 1 (aJ Y)).set 5 (.int .i64 i))
theorem aLT {C:Ctx} (L:pC C) (xs ys:List Nat) (w:Lim xs) (x:Lim ys) (Q:xs.length≤35184372087808) (R:ys.length≤35184372087808) :
  UR.wp C (aR aEQ.res (aF (.int .i64 (dJ (val xs) (val ys))))) (PF.args [aJ xs,aJ ys]) .nil:=by
 simp only[go_sem,UR,agK,agL,aEQ];refine aA (L.trim xs w Q) Ev ?_;simp only[go_sem];refine aA (L.trim ys x R) Ev ?_;have S:=fU w;have B:=fU x;simp only[go_sem,agM,aYN,aW];by_cases i:nl (val xs)≠nl (val ys)
 ·simp only[go_sem,cT (show ((nl (val xs):Nat):Int)≠(nl (val ys):Nat) by omega),agN];by_cases E:nl (val xs)<nl (val ys)
  ·simp only[go_sem,aYN,aW,show ((nl (val xs):Nat):Int)<(nl (val ys):Nat) by omega,agO];refine aO (.inr rfl) Ev ?_;rw[alB E]; rfl
  ·simp only[go_sem,aYN,aW,show ¬ ((nl (val xs):Nat):Int)<(nl (val ys):Nat) by omega,agP];refine aO (.inr rfl) Ev ?_;rw[alA Om]; rfl
 replace i:=Decidable.of_not_not i;simp only[go_sem,bS (show ((nl (val xs):Nat):Int)=(nl (val ys):Nat) by omega),agQ,aYN,aW];have ex:=aS (val xs);have l:=aS (val ys);have y:=aV (val xs);have A:=aV (val ys);generalize K:aI (val xs)=X at *
 generalize M:aI (val ys)=Y at *
 have N:X.length=nl (val xs):=by rw[← K]; rfl
 have O:Y.length=nl (val xs):=by rw[i,← M]; rfl
 refine wp_loop (α:=Nat) (fun k=>apF X Y ((k:Int)-1)) (fun _=>.nil) (fun k=>k≤nl (val xs)∧X.drop k=Y.drop k) (fun k=>k) (nl (val xs)) ⟨aYV _,?_⟩ ?_ a_ ?_
 ·rw[a2L Om,a2L Om]
 ·unfold apF
  (repeat' (first|exact c_|refine d_ ?_ ?_))<;>first|(simp only[go_sem,wrap_i64 (show -9223372036854775808≤((nl (val xs):Nat):Int)-1 by omega) (show ((nl (val xs):Nat):Int)-1≤9223372036854775807 by omega)]<;>rfl)|rfl
 rintro k ⟨V,c⟩;simp only[go_sem,U8,agR,apF];by_cases U:0<k
 ·obtain⟨m,rfl⟩:∃ m,k=m+1:=⟨k-1,by omega⟩;have u:((m+1:Nat):Int)-1=(m:Int):=Om;have p:(m:Int)≥0:=Om;have d:m<X.length:=Om;have e:m<Y.length:=Om;simp only[go_sem,u,p];refine bO .nil dT a_ ?_;simp only[go_sem,agS,bX X d,bX Y e];by_cases F:X[m]<Y[m]
  ·simp only[go_sem,show ((X[m]:Nat):Int)<(Y[m]:Nat) by omega,agT];refine aO (.inr rfl) Ev ?_;have:=jf y d e c F;rw[ex,l] at this;simp[bL,dJ,this]
  ·simp only[go_sem,show ¬ ((X[m]:Nat):Int)<(Y[m]:Nat) by omega];refine bO .nil dT a_ ?_;simp only[go_sem,U9,bX X d,bX Y e];by_cases H:X[m]>Y[m]
   ·simp only[go_sem,show ((X[m]:Nat):Int)>(Y[m]:Nat) by omega,Va];refine aO (.inr rfl) Ev ?_;have:=jf A e d c.symm H;rw[ex,l] at this;have J:¬ val xs<val ys:=Om;simp[bL,dJ,this,J]
   ·simp only[go_sem,show ¬ ((X[m]:Nat):Int)>(Y[m]:Nat) by omega,Vb];refine aD m ⟨by omega,Bd d e c Om⟩ Om ?_ a_
    (repeat' (first|exact c_|refine d_ ?_ ?_))<;>first|(simp only[go_sem,wrap_i64 (Om:-9223372036854775808≤(m:Int)-1) (Om:(m:Int)-1≤9223372036854775807)]<;>rfl)|rfl
 ·have:k=0:=Om;subst this;have u:¬ ((0:Nat):Int)-1≥0:=by decide
  simp only[go_sem,u,Vc];refine aO (.inr rfl) Ev ?_;rw[a0B,a0B] at c;have:val xs=val ys:=by rw[← ex,← l,c]
  simp[bL,dJ,this]
theorem CW (n:Nat):(((n:Nat):Int)==0)=decide (n=0):=by
 by_cases h:n=0
 ·subst h; rfl
 ·rw[bD Om,decide_eq_false h]
structure J0 (C:Ctx):Prop extends pC C where
 make:∀ v:Nat,v<18446744073709551616→aH C 35 [.int .u64 v] .nil (aF (aJ (aI v)))
 large:∀ xs,Lim xs→xs.length≤35184372087808→aH C 41 [aJ xs] .nil (aF (.bool (decide (nl (val xs)>512))))
 cmp:∀ xs ys,Lim xs→Lim ys→xs.length≤35184372087808→ys.length≤35184372087808→aH C 32 [aJ xs,aJ ys] .nil (aF (.int .i64 (dJ (val xs) (val ys))))
def apK (a b:Nat):PF:=((PF.nil.set 6 (aJ (aI a))).set 7 (aJ (aI b)))
structure ii (C:Ctx):Prop extends J0 C where
 divide:∀ A B:Nat,B≠0→nl A≤512→nl B≤512→aH C 39 [aJ (aI A),aJ (aI B)] .nil (aF (qX A B))
def amG (a b:Nat):PV:=if eG a b then .tup [aJ [],.int .i64 2] else .tup [aJ (aI (aYP a b)),.int .i64 0]
theorem aLX {C:Ctx} (L:ii C) (a b:List Nat) (l:Lim a) (p:Lim b) (w:a.length≤35184372087808) (A:b.length≤35184372087808) :
  UV.wp C (aR aEV.res (cA (amG (val a) (val b)))) (PF.args [aJ a,aJ b]) .nil:=by
 unfold amG;simp only[go_sem,UV,ahB,ahC,aEV];refine aA (L.large a l w) rfl ?_;by_cases c:nl (val a)>512
 ·simp only[go_sem,c,ym];rw[if_pos (by simp[eG,c])];exact eZ rfl
 simp only[go_sem,c];refine aA (L.large b p A) rfl ?_;by_cases d:nl (val b)>512
 ·simp only[go_sem,d,ym];rw[if_pos (by simp[eG,d])];exact eZ rfl
 rw[if_neg (by simp[eG,c,d])];simp only[go_sem,d,ahD];refine aA (L.trim a l w) rfl ?_;simp only[go_sem];refine aA (L.trim b p A) rfl ?_;simp only[go_sem];refine wp_loop (α:=Nat × Nat) (fun t=>apK t.1 t.2) (fun _=>.nil) (fun t=>aYP t.1 t.2=aYP (val a) (val b)∧nl t.1≤512∧nl t.2≤512) (fun t=>t.2) (val a,val b) ⟨rfl,by simp only; omega,by simp only; omega⟩ ?_ a_ ?_
 ·unfold apK;exact Lq
 rintro⟨x,y⟩ ⟨i,B,u⟩;simp only at i B u;simp only[go_sem,ahA,ahE,apK,aW];by_cases e:y=0
 ·subst e;have:¬ ((nl 0:Nat):Int)>0:=by rw[zM]; decide
  simp only[go_sem,this,ahH];refine aZ (vs:=[aJ (aI x),.int .i64 0]) (.inr rfl) .nil rfl a_ ⟨?_,rfl⟩;rw[← i,Nat.gcd_zero_right];exact .refl _
 ·have E:nl y≠0:=fun h=>e (gU.1 h);have:((nl y:Nat):Int)>0:=Om;simp only[go_sem,this,ahF];refine aA (L.divide x y e Om Om) rfl ?_;simp only[go_sem,qX,ahG];have hlt:x%y<y:=a0I _ (a1G e);refine aD (y,x%y) ⟨?_,u,?_⟩ hlt ?_ a_
  ·simp only;rw[← i,Nat.gcd_comm y,← Nat.gcd_rec y x,Nat.gcd_comm]
  ·have:=fQ (Nat.le_of_lt hlt);simp only; omega
  ·exact Lq
theorem aLV {C:Ctx} (L:ii C) (a b:List Nat) (p:Lim a) (i:Lim b) (u:a.length≤35184372087808) (l:b.length≤35184372087808) :
  US.wp C (aR udiv.res (cA (nB (val a) (val b)))) (PF.args [aJ a,aJ b]) .nil:=by
 unfold nB;simp only[go_sem,US,agU,agV,udiv];refine aA (L.large a p u) rfl ?_;by_cases d:nl (val a)>512
 ·simp only[go_sem,d,yk];rw[if_pos (by simp[eG,d])];exact sI rfl
 simp only[go_sem,d];refine aA (L.large b i l) rfl ?_;by_cases e:nl (val b)>512
 ·simp only[go_sem,e,yk];rw[if_pos (by simp[eG,e])];exact sI rfl
 rw[if_neg (by simp[eG,d,e])];simp only[go_sem,e,agW];refine aA (L.trim b i l) rfl ?_;simp only[go_sem,aYN,aW,CW,gU];by_cases c:val b=0
 ·rw[if_pos c];simp only[go_sem,decide_eq_true c,agX];exact sI rfl
 rw[if_neg c];simp only[go_sem,decide_eq_false c,agY];refine aA (L.trim a p u) rfl ?_;simp only[go_sem];refine aA (L.trim b i l) rfl ?_;simp only[go_sem];refine aA (L.divide (val a) (val b) c Om Om) rfl ?_;simp only[go_sem,qX,agZ];exact aZ (.inr rfl) .nil rfl a_ ⟨.refl _,rfl⟩
def mD (neg:Bool) (a b:Nat):FV:=(neg&&decide (a/aYP a b≠0),a/aYP a b,b/aYP a b)
structure J1 (C:Ctx):Prop extends ii C where
 gcd:∀ a b,Lim a→Lim b→a.length≤35184372087808→b.length≤35184372087808→aH C 34 [aJ a,aJ b] .nil (aF (amG (val a) (val b)))
 div:∀ a b,Lim a→Lim b→a.length≤35184372087808→b.length≤35184372087808→aH C 33 [aJ a,aJ b] .nil (aF (nB (val a) (val b)))
theorem tM {n:Nat} (h:nl n≤512):(aI n).length≤35184372087808:=by rw[aW]; omega
theorem oC:aI 1=[1]:=oV (by decide) (by decide)
theorem l3 {n:Nat} (h:n≠0):aI n=n%4294967296::aI (n/4294967296):=sH h
theorem AM {n:Nat} (h:n≠0):(nl n>1∨n%4294967296>1)↔n≠1:=by
 constructor
 ·rintro h1 rfl;rcases h1 with h1 | h1
  ·rw[nl,oC] at h1; simp at h1
  ·omega
 ·intro h1;by_cases c:nl n>1
  ·exact .inl c
  ·have:n<4294967296 ^ 1:=(hC n 1).1 Om;rw[Nat.pow_one] at this;rw[a0E this];exact .inr Om
theorem apX {C:Ctx} (L:J1 C) (neg:Bool) (a b:List Nat) (V:Lim a) (W:Lim b) (Z:a.length≤35184372087808) (lb:b.length≤35184372087808) (w:nl (val a)≤512) (p:nl (val b)≤512) (A:val b≠0) :
  BI.wp C (aR yv.res (cA (.agg (mD neg (val a) (val b)).rf.cells))) (PF.args [.bool neg,aJ a,aJ b]) .nil:=by
 have c:aYP (val a) (val b)≠0:=fun h=>A (Nat.eq_zero_of_gcd_eq_zero_right h);have J:aYP (val a) (val b)≤val b:=Nat.gcd_le_right _ (a1G A);have N:nl (aYP (val a) (val b))≤512:=aZS (fQ J) p;have K:eG (val a) (val b)=false:=iW w p;simp only[go_sem,BI,su,sv,yv];refine aN fun o ho=>?_;simp only[go_sem];refine aA (L.trim a V Z) rfl ?_;simp only[go_sem];refine aA (L.trim b W lb) rfl ?_;simp only[go_sem,sw,aYN,aW,CW,gU];by_cases u:val a=0
 ·simp only[go_sem,decide_eq_true u,sx];have e:(mD neg (val a) (val b)).rf=⟨false,[],[1]⟩:=by rw[u];unfold mD FV.rf;simp[dW,Nat.div_self (a1G A),oC]
  rw[e];refine aZ (vs:=[.agg [.bool false,.aB,aJ [1]]]) (.inr rfl) .nil ?_ a_ ⟨show Co (.agg _) (.agg _) from CoL.agg (CoL.cons (.refl _) (CoL.cons (.nil 1) (CoL.cons (.refl _) .nil))),rfl⟩;simp only[go_sem];rfl
 have d:=L.gcd (aI (val a)) (aI (val b)) (aV _) (aV _) (tM w) (tM p);rw[aS,aS,amG,K] at d;simp only[go_sem,decide_eq_false u,s7];refine aA d rfl ?_;have fin:∀ x y:Nat,x=val a/aYP (val a) (val b)→y=val b/aYP (val a) (val b)→∀ (F:PF) (H:PH),F 0=some (.bool neg)→F 1=some (aJ (aI x))→F 2=some (aJ (aI y))→F 6=some (.ptr o 3 0 0)→H o=some (.rows 3 [[.bool false,.aB,.aB]]) →
   aC.wp C (.seq (.region yN) .ret) (aR [.cell 6 (some 3)] (cA (.agg (mD neg (val a) (val b)).rf.cells))) F H:=by
  intro x y M Y F H f0 f1 f2 f6 B;subst M; subst Y;simp only[go_sem,yN,f0,f1,f2,f6,B];have X:val a/aYP (val a) (val b)≠0:=by have:=Nat.div_pos (Nat.gcd_le_left (val b) (a1G u)) (a1G c);omega
  have e:(mD neg (val a) (val b)).rf=⟨neg,aI (val a/aYP (val a) (val b)),aI (val b/aYP (val a) (val b))⟩:=by unfold mD FV.rf;simp only[X,ne_eq,not_false_eq_true,decide_true,a0T]
  rw[e];refine aZ (vs:=[.agg (dY neg (aI (val a/aYP (val a) (val b))) (aI (val b/aYP (val a) (val b))))]) (.inr rfl) .nil ?_ a_ ⟨.refl _,rfl⟩;simp only[go_sem,f6]
 simp only[aC.wp,go_sem] at fin;have E:=fun x (M:nl x≤512)=>L.div (aI x) (aI (aYP (val a) (val b))) (aV _) (aV _) (tM M) (tM N);simp only[aS,nB] at E;have tail:aYP (val a) (val b)≠1→∀ (F:PF) (H:PH),F 0=some (.bool neg)→F 1=some (aJ (aI (val a)))→F 2=some (aJ (aI (val b)))→F 6=some (.ptr o 3 0 0)→F 7=some (aJ (aI (aYP (val a) (val b))))→H o=some (.rows 3 [[.bool false,.aB,.aB]]) →
   aC.wp C (.seq (.seq (.region OB) (.region OC)) (.seq (.region yN) .ret)) (aR [.cell 6 (some 3)] (cA (.agg (mD neg (val a) (val b)).rf.cells))) F H:=by
  intro _ F H f0 f1 f2 f6 f7 B;have R:=E (val a) w;have S:=E (val b) p;rw[iW w N,if_neg c] at R;rw[iW p N,if_neg c] at S;simp only[go_sem,OB,f1,f7];refine aA R rfl ?_;simp only[go_sem,a1S,OC,f2,f7];refine aA S rfl ?_;simp only[go_sem,a1S];exact fin _ _ rfl rfl _ _ (by simp only[go_sem,f0]) rfl rfl (by simp only[go_sem,f6]) B
 simp only[aC.wp,go_sem] at tail;simp only[go_sem,a1S,s8,aYN,aW];by_cases O:nl (aYP (val a) (val b))>1
 ·have i:((nl (aYP (val a) (val b)):Nat):Int)>1:=Om;simp only[go_sem,i];exact tail ((AM c).1 (.inl O)) _ _ rfl rfl rfl rfl rfl Sq
 ·have i:¬ ((nl (aYP (val a) (val b)):Nat):Int)>1:=Om;simp only[go_sem,i,l3 c];by_cases Q:aYP (val a) (val b)%4294967296>1
  ·have l:((aYP (val a) (val b)%4294967296:Nat):Int)>1:=Om;simp only[go_sem,l];exact tail ((AM c).1 (.inr Q)) _ _ rfl rfl rfl rfl (by simp only[go_sem,l3 c]) Sq
  ·have l:¬ ((aYP (val a) (val b)%4294967296:Nat):Int)>1:=Om;have U:aYP (val a) (val b)=1:=by
    rcases Decidable.em (aYP (val a) (val b)=1) with h | h
    ·exact h
    ·rcases (AM c).2 h with h | h
     ·exact absurd h O
     ·exact absurd h Q
   simp only[go_sem,l];exact fin (val a) (val b) (by rw[U,Nat.div_one]) (by rw[U,Nat.div_one]) _ _ rfl rfl rfl rfl Sq
theorem aFX {C:Ctx} (v:Int) (p:-9223372036854775808≤v) (u:v≤9223372036854775807) :
  OG.wp C (aR aqD.res (aF (.int .u64 (v.natAbs:Nat)))) (PF.args [.int .i64 v]) .nil:=by
 simp only[go_sem,OG,Ws,Wt,aqD];by_cases c:v<0
 ·have d:IntKind.i64.wrap (v+1)=v+1:=wrap_i64 Om Om;have i:IntKind.i64.wrap (0-(v+1))=-(v+1):=by rw[wrap_i64 Om Om]; omega
  have l:IntKind.u64.wrap (IntKind.u64.wrap (-(v+1))+1)=(v.natAbs:Int):=by rw[gG,gG]; omega
  simp only[go_sem,c,Wu,d,i,l];refine aO (.inr rfl) rfl ?_;rfl
 ·have e:IntKind.u64.wrap v=(v.natAbs:Int):=by rw[gG]; omega
  simp only[go_sem,c,Wv,e];refine aO (.inr rfl) rfl ?_;rfl
structure akE (C:Ctx):Prop extends J1 C where
 lowest:∀ neg a b,Lim a→Lim b→a.length≤35184372087808→b.length≤35184372087808→nl (val a)≤512→nl (val b)≤512→val b≠0→aH C 58 [.bool neg,aJ a,aJ b] .nil (aF (.agg (mD neg (val a) (val b)).rf.cells))
 size:∀ v:Int,cK v→aH C 59 [.int .i64 v] .nil (aF (.int .u64 (v.natAbs:Nat)))
def mkT (n d:Int):RF:=(mD (decide (n<0) != decide (d<0)) n.natAbs d.natAbs).rf
def rG (n d:Int):PV:=if d=0 then CD 3 else .tup [.agg (mkT n d).cells,.int .i64 0]
theorem Wg {C:Ctx} (L:akE C) (n d:Int) (e:cK n) (i:cK d) :
  OD.wp C (aR Jj.res (cA (rG n d))) (PF.args [.int .i64 n,.int .i64 d]) .nil:=by
 simp only[go_sem,OD,Wh,Wi];refine aN fun o l=>?_;unfold rG;by_cases c:d=0
 ·subst c;simp only[go_sem,Wj];refine iY ?_;simp only[go_sem,Jj]
 ·rw[if_neg c];simp only[go_sem,bD c,Wk];refine aA (L.size n e) rfl ?_;simp only[go_sem];refine aA (L.make n.natAbs Om) rfl ?_;simp only[go_sem];refine aA (L.size d i) rfl ?_;simp only[go_sem];refine aA (L.make d.natAbs Om) rfl ?_;simp only[go_sem];have p:nl n.natAbs≤2:=jZ Om;have u:nl d.natAbs≤2:=jZ Om;have low:=L.lowest (decide (n<0) != decide (d<0)) (aI n.natAbs) (aI d.natAbs) (aV _) (aV _) (by rw[aW]; omega) (by rw[aW]; omega);rw[aS,aS] at low;have low:=low Om Om Om;refine aA low rfl ?_;simp only[go_sem];exact aZ (.inr rfl) .nil (vs:=[.agg (mkT n d).cells,.int .i64 0]) (by simp only[go_sem,Jj]; rfl) a_ ⟨.refl _,rfl⟩
structure ij (C:Ctx):Prop extends akE C where
 fmk:∀ n d:Int,cK n→cK d→aH C 50 [.int .i64 n,.int .i64 d] .nil (aF (rG n d))
theorem yu {C:Ctx} (L:ij C) (n:Int) (i:cK n) :
  VH.wp C (aR aFO.res (cA (.agg (mkT n 1).cells))) (PF.args [.int .i64 n]) .nil:=by
 simp only[go_sem,VH,aiG,aiH,aFO];refine aN fun o l=>?_;simp only[go_sem];refine aA (L.fmk n 1 i (by unfold cK; omega)) rfl ?_;unfold rG;rw[if_neg (by decide)];simp only[go_sem];refine aN fun p e=>?_;have c:o≠p:=by rintro rfl;simp only[aT,if_true] at e;cases e
 have d:p≠o:=fun h=>c h.symm;simp only[go_sem,c,aiI];refine aZ (vs:=[.agg (mkT n 1).cells]) (.inr rfl) .nil ?_ a_ ⟨.refl _,rfl⟩;simp only[go_sem,d]
def aG (l:List Nat) (n a:Nat):Nat × Nat:=if l.length≤a∨n<2 then (0,a) else (l.getD a 0%n,a+1)
theorem cM (l:List Nat) {n:Nat} (h:0<n) (a:Nat):(aG l n a).1<n:=by
 unfold aG;split
 ·exact h
 ·exact a0I _ h
theorem bW (l:List Nat) (n:Nat) {a:Nat} (h:a≤l.length):(aG l n a).2≤l.length:=by
 unfold aG;split
 ·exact h
 ·simp only; omega
def fN (l:List Nat) (a:Nat):RF × Nat :=
 let x:=aG l 6 a
 let y:=aG l 8 x.2
 (mkT ((1+x.1:Nat):Int) ((1+y.1:Nat):Int),y.2)
abbrev jW:RF:=mkT 0 1
def jG (l:List Nat) (i j a:Nat):RF × Nat :=
 if j=i+1 then fN l a
 else if j=i then (jW,a)
 else let t:=aG l 3 a
  if t.1=0 then fN l t.2 else (jW,t.2)
def dX (l:List Nat) (i a:Nat):Nat→List RF × Nat
 | 0=>([],a)
 | j+1=>let s:=dX l i a j
  let z:=jG l i j s.2
  (s.1++[z.1],z.2)
structure DE where
 start:List RF
 exit:List RF
 aXH:List (List RF)
 left:Nat
 a:Nat
def dV (l:List Nat) (n i:Nat) (s:DE):Nat × Nat:=if i+1<n then aG l (s.left+1) s.a else (s.left,s.a)
def fG (l:List Nat) (n i a:Nat):RF × Nat :=
 let e:=fN l a
 if i+1<n then (let t:=aG l 3 e.2; (if t.1=0 then jW else e.1,t.2)) else e
def gE (l:List Nat) (n a:Nat):Nat→DE
 | 0=>⟨[],[],[],8,a⟩
 | i+1=>let s:=gE l n a i
  let k:=dV l n i s
  let e:=fG l n i k.2
  let r:=dX l i e.2 n
  ⟨s.start++[mkT (k.1:Nat) 8],s.exit++[e.1],s.aXH++[r.1],s.left-k.1,r.2⟩
def qY (l:List Nat) (eM a:Nat):cG × Nat :=
 let t:=aG l eM a
 let s:=gE l (1+t.1) t.2 (1+t.1)
 (⟨[],s.start,s.aXH,s.exit⟩,s.a)
def kL (l:List Nat) (a:Nat):Nat→List RF × Nat
 | 0=>([],a)
 | k+1=>let s:=kL l a k
  let z:=fN l s.2
  (s.1++[z.1],z.2)
abbrev cB (n:Nat):List UInt8:=Lib.decDigits n
def jA (l:List Nat) (a:Nat):Nat→List cG × Nat
 | 0=>([],a)
 | k+1=>let s:=jA l a k
  let z:=qY l 2 s.2
  (s.1++[{ z.1 with name:=[108,97,119]++cB k }],z.2)
def eP (l:List Nat) (aXJ a:Nat):Nat→List cW × Nat
 | 0=>([],a)
 | k+1=>let s:=eP l aXJ a k
  let x:=aG l 4 s.2
  let y:=aG l 8 x.2
  let z:=aG l aXJ y.2
  (s.1++[⟨[109]++cB k,(1+x.1:Nat),(1+y.1:Nat),(z.1:Nat)⟩],z.2)
structure GS where
 aXL:List cE
 aXV:List dL
 a:Nat
def jV (l:List Nat) (mc aXC c:Nat) (s:GS):Nat→GS
 | 0=>s
 | i+1=>let s:=jV l mc aXC c s i
  if s.aXV.length<aXC then
   let t:=aG l mc s.a
   { s with aXV:=s.aXV++[⟨[100]++cB s.aXV.length,(t.1:Nat),(c:Nat)⟩],a:=t.2 }
  else s
def lJ (level:Nat):UInt8:=match level with
 | 0=>45
 | 1=>115
 | 2=>114
 | 3=>107
 | _=>109
def nJ (l:List Nat) (level c:Nat) (s:GS):GS :=
 let u:=aG l 16 s.a
 let t:=aG l 3 u.2
 let k:=aG l 6 t.2
 let sh:RF × Nat:=if t.1=0 then (mkT 1 ((2+k.1:Nat):Int),k.2) else (jW,t.2)
 { s with aXL:=s.aXL++[⟨[lJ level]++cB s.aXL.length,(level:Nat),(c:Nat),(1+u.1:Nat),sh.1⟩],a:=sh.2 }
def qG (aXC:Nat) (s:GS):Bool:=decide (aXC≤s.aXV.length)||decide (35≤s.aXL.length)
def gP (l:List Nat) (level aXC c:Nat) (rec:Nat→GS→GS) (s:GS):Nat→GS
 | 0=>s
 | i+1=>let s:=gP l level aXC c rec s i
  if qG aXC s then s else (let s':=nJ l level c s; rec (s'.aXL.length-1) s')
def fA (l:List Nat) (mc aXC:Nat):Nat→Nat→GS→GS
 | 0,c,s=>let t:=aG l 2 s.a
  jV l mc aXC c { s with a:=t.2 } (1+t.1)
 | k+1,c,s=>let t:=aG l 2 s.a
  gP l (4-k) aXC c (fA l mc aXC k) { s with a:=t.2 } (if 4-k=2 then 1 else 1+t.1)
def mR:cE:=⟨[],0,-1,0,jW⟩
def gV (l:List Nat) (a:Nat):Int × Nat :=
 let t:=aG l 3 a
 let k:=aG l 3 t.2
 if t.1=0 then ((1+k.1:Nat),k.2) else (0,t.2)
def mG (l:List Nat) (aXD i a:Nat):bV × Nat :=
 let k:=aG l 2 a
 let m:=aG l 3 k.2
 let h:=aG l 4 m.2
 let q:=aG l (m.1+1) h.2
 let r:=kL l q.2 (max m.1 1)
 let g:=aG l 9 r.2
 let s1:=gV l g.2
 let s2:=gV l s1.2
 let s3:=gV l s2.2
 let s4:=gV l s3.2
 let f:=aG l aXD s4.2
 let b:=aG l 2 f.2
 let ms:List Int × Nat:=if 1<aXD then (if b.1=0 then ([(f.1:Int),1-(f.1:Int)],b.2) else ([(f.1:Int)],b.2)) else ([(f.1:Int)],f.2)
 (⟨[112]++cB i,(1+k.1:Nat),(m.1:Nat),(1+k.1+q.1:Nat),0,s1.1,s2.1,s3.1,s4.1,ms.1,r.1,mkT (g.1:Nat) 8,mkT ((1+h.1:Nat):Int) 1⟩,ms.2)
def dQ (l:List Nat) (aXD a:Nat):Nat→List bV × Nat
 | 0=>([],a)
 | k+1=>let s:=dQ l aXD a k
  let z:=mG l aXD k s.2
  (s.1++[z.1],z.2)
def eS (l:List Nat) (pols a:Nat):Nat→List fE × Nat
 | 0=>([],a)
 | k+1=>let s:=eS l pols a k
  let z:=aG l pols s.2
  (s.1++[⟨[118]++cB k,(z.1:Nat)⟩],z.2)
def iR (l:List Nat) (aXC aXE a:Nat):aE × Nat :=
 let e:=aG l 2 a
 let d:=aG l 2 e.2
 let aXJ:=jA l d.2 (1+d.1)
 let c:=aG l 2 aXJ.2
 let aXD:=eP l (1+d.1) c.2 (1+c.1)
 let g:=fA l (1+c.1) aXC 4 0 ⟨[mR],[],aXD.2⟩
 let pl:=aG l 2 g.a
 let pols:=dQ l (1+c.1) pl.2 (1+pl.1)
 let i:=aG l (aXE+1) pols.2
 let vols:=eS l (1+pl.1) i.2 i.1
 (⟨(1+e.1:Nat),aXJ.1,aXD.1,g.aXL,g.aXV,pols.1,vols.1⟩,vols.2)
abbrev kO (l:List Nat):List (List PV):=l.map fun (n:Nat)=>[PV.int .u8 (n:Int)]
theorem VB (l:List Nat):(kO l).length=l.length:=by simp
theorem aFG (l:List Nat) {i:Nat} (h:i<l.length):(kO l)[i]?=some [.int .u8 (l[i]:Nat)]:=by simp[h]
abbrev bR (v:PV) (a:Nat):cF:=.rows 2 [[v,.int .i64 a]]
structure Tp (l:List Nat) (v:PV):Prop where
 seen:Seen 1 v (kO l)
 byte:∀ x∈l,x<256
 len:l.length≤400
def akD (l:List Nat) (r:PV) (H:PH):Prop:=∃ o v,r=.ptr o 2 0 0∧Tp (l.take 400) v∧H=PH.nil.set o (bR v 0)
theorem Ix {t q s:Nat} {rs:List (List PV)} {F:PF} {H H2:PH} {R:PV→PH→Prop} {v:PV} {e:kW} (w:e=.normal∨e=.ret) (y:F t=some v) (x:H q=some (.rows s rs)) (l:H2.le (H.frz q s rs)) (p:R (PV.frz q s rs v) H2):aR [.tmp t] R e F H:=by
 have c:∃ vs,dS.evs F H [.tmp t]=some vs∧∃ d i H2,jJ (PF.nil.set 0 (bL vs)) H d i∧H2.le i∧∃ u,d 0=some u∧R u H2:=by refine⟨[v],by rw[kS,nP,y,oX],_,_,H2,.step q x (.refl _ _),l,PV.frz q s rs v,?_,p⟩;rw[nK,kM,if_pos rfl,aZZ];rfl
 rcases w with rfl | rfl<;>exact c
theorem aJV {C:Ctx} (l:List Nat) (E:∀ x∈l,x<256) (O:l.length≤9223372036854775807):SJ.wp C (aR aCN.res (akD l)) (PF.args [.sl 1 (kO l)]) .nil:=by
 simp only[go_sem,SJ,acW,acX,aCN,aYN];have fin:∀ F:PF,F 0=some (.sl 1 (kO (l.take 400)))→aC.wp C (.seq (.region xb) .ret) (aR [.tmp 2] (akD l)) F .nil:=by
  intro F f0;have w:(l.take 400).length≤400:=by rw[aZH]; omega
  have u:∀ x∈l.take 400,x<256:=fun x M=>E x (a2M M);have y:∀ o v,Seen 1 v (kO (l.take 400))→akD l (.ptr o 2 0 0) (PH.nil.set o (bR v 0)):=fun o v K=>⟨o,v,rfl,⟨K,u,w⟩,rfl⟩;generalize N:l.take 400=L at *
  simp only[go_sem,xb,f0];refine uC (src:=kO L) rfl ?_ (fun h=>?_) fun h o H=>?_
  ·unfold roomFor;rw[VB];simp only[maxLen]; omega
  ·simp only[go_sem,aYY,aZI,or_false,forall_eq];refine aN fun o H=>?_;simp only[go_sem];exact aZ (vs:=[.ptr o 2 0 0]) (.inr rfl) (PH.nil.set o (bR .aB 0)) rfl b_ (y o .aB (.inl ⟨h,rfl⟩))
  ·simp only[go_sem,aYY,aZI,or_false,forall_eq];refine aN fun p J=>?_;have d:¬ p=o:=(jD.1 J).1;have e:¬ o=p:=fun h=>d h.symm;simp only[go_sem];refine Ix (v:=.ptr p 2 0 0) (q:=o) (s:=1) (rs:=kO L) (H2:=PH.nil.set p (bR (.sl 1 (kO L)) 0)) (.inr rfl) rfl (by simp only[go_sem,e]) (PH.aK a_ ?_) (y p _ (.inr rfl));have B:(kO L).take L.length=kO L:=aZJ (by rw[VB]; exact aYV _);simp only[go_sem,d,cF.frz,PV.dK,aYN,B];rfl
 simp only[aC.wp,go_sem] at fin;by_cases c:l.length>400
 ·have i:(l.length:Int)>400:=Om;have A:(400:Int)≤(l.length:Int):=Om;simp only[go_sem,i,acY,aYN,A];refine fin _ ?_;rw[kM,if_pos rfl];simp[kO]
 ·have i:¬ (l.length:Int)>400:=Om;simp only[go_sem,i];refine fin _ ?_;rw[aZJ Om];simp only[go_sem]
def ie (l:List Nat) (v:PV) (o n a:Nat) (r:PV) (H:PH):Prop:=r=.int .i64 ((aG l n a).1:Nat)∧H=PH.nil.set o (bR v (aG l n a).2)
theorem aCO {C:Ctx} {l:List Nat} {v:PV} (T:Tp l v) (o n a:Nat) (Q:n≤1000000) (N:a≤l.length):yB.wp C (aR Jd.res (ie l v o n a)) (PF.args [.ptr o 2 0 0,.int .i64 n]) (PH.nil.set o (bR v a)):=by
 obtain⟨K,H,O⟩:=T;have zero:(l.length≤a∨n<2)→∀ F,aC.wp C (.seq (.region de) .ret) (aR [.tmp 4] (ie l v o n a)) F (PH.nil.set o (bR v a)):=by
  intro h F;have e:aG l n a=(0,a):=by unfold aG; rw[if_pos h]
  simp only[go_sem,de];exact aZ (vs:=[.int .i64 0]) (.inr rfl) _ rfl b_ ⟨by rw[e]; rfl,by rw[e]⟩
 simp only[aC.wp,go_sem] at zero;rcases K with ⟨E,rfl⟩ | rfl
 ·have M:l.length=0:=by rw[← VB,E]; rfl
  have p:(a:Int)≥0:=Om;simp only[go_sem,yB,dd,Jd];refine bO .nil dT a_ ?_;simp only[go_sem,KU,p];exact zero (.inl Om) _
 simp only[go_sem,yB,dd,Jd];refine bO .nil dT a_ ?_;by_cases w:l.length≤a
 ·have c:(a:Int)≥(l.length:Nat):=Om;simp only[go_sem,KU,aYN,c];exact zero (.inl w) _
 have c:¬ (a:Int)≥(l.length:Nat):=Om;simp only[go_sem,KU,aYN,c];by_cases x:n<2
 ·have d:(n:Int)<2:=Om;simp only[go_sem,d];exact zero (.inr x) _
 have d:¬ (n:Int)<2:=Om;have i:a<l.length:=Om;have e:aG l n a=(l[a]%n,a+1):=by unfold aG;rw[if_neg Om];simp[aZG,i]
 have B:IntKind.i64.wrap ((a:Int)+1)=((a+1:Nat):Int):=dC Om;have A:IntKind.i64.wrap (((a+1:Nat):Int)-1)=((a:Nat):Int):=by rw[wrap_i64 Om Om]; omega
 have J:=aFG l i;have R:=H _ (aYQ i);have y:IntKind.i64.wrap ((l[a]:Nat):Int)=((l[a]:Nat):Int):=gi Om;have u:¬ ((n:Nat):Int)=0:=Om;have em:Int.tmod ((l[a]:Nat):Int) ((n:Nat):Int)=((l[a]%n:Nat):Int):=rfl;simp only[go_sem,d,Q7,B];refine bO .nil dT a_ ?_;simp only[go_sem,Q8,A,J,y,u,em];exact aZ (vs:=[.int .i64 (l[a]%n:Nat)]) (.inr rfl) _ rfl b_ ⟨by rw[e]; rfl,by rw[e]⟩
def PV.oid:PV→Option Nat
 | .osl q _ _ _=>some q
 | _=>none
abbrev LI:=PV × Nat × List (List PV)
abbrev BX:=Nat × cF
def eW (B:List BX):List Nat:=B.map (·.1)
def eK (L:List LI):List Nat:=L.filterMap fun x=>x.1.oid
structure aM (H:PH) (B:List BX) (L:List LI):Prop where
 box:∀ b∈B,H b.1=some b.2
 lst:∀ x∈L,bU H x.2.1 x.1 x.2.2
 nd:(eW B++eK L).Nodup
section
variable {C:Ctx} {H:PH} {B:List BX} {L:List LI} {K:PV→PH→Prop}
theorem bU.id {s q:Nat} {v:PV} {rows:List (List PV)} (h:bU H s v rows) (c:v.oid=some q):∃ rs,H q=some (.rows s rs)∧v=.osl q s 0 rows.length∧rows.length≤rs.length∧rs.take rows.length=rows:=by
 rcases h with ⟨_,rfl⟩ | ⟨p,rs,rfl,h1,h2,h3⟩
 ·cases c
 ·cases c;exact⟨rs,h1,rfl,h2,h3⟩
theorem bU.same {s:Nat} {v:PV} {rows:List (List PV)} {H':PH} (h:bU H s v rows) (c:∀ q,v.oid=some q→H' q=H q):bU H' s v rows:=by
 rcases h with h | ⟨p,rs,rfl,h1,h2,h3⟩
 ·exact .inl h
 ·exact .inr ⟨p,rs,rfl,by rw[c p rfl]; exact h1,h2,h3⟩
theorem lS {x:LI} {q:Nat} (h:x∈L) (c:x.1.oid=some q):q∈eK L:=List.mem_filterMap.2 ⟨x,h,c⟩
theorem uS {b:BX} (h:b∈B):b.1∈eW B:=aZQ.2 ⟨b,h,rfl⟩
theorem aM.nil:aM H [] []:=⟨by simp,by simp,by simp[eW,eK]⟩
theorem aM.at (h:aM H B L) (i:Nat) {o:Nat} {x:cF} (hi:B[i]?=some (o,x)):H o=some x:=h.box _ (a1C hi)
theorem aM.own (h:aM H B L) (i:Nat) {s:Nat} {v:PV} {rows:List (List PV)} (hi:L[i]?=some (v,s,rows)):bU H s v rows:=h.lst _ (a1C hi)
theorem aM.ndB (h:aM H B L):(eW B).Nodup:=(a1J.1 h.nd).1
theorem aM.ndL (h:aM H B L):(eK L).Nodup:=(a1J.1 h.nd).2.1
theorem aM.ndX (h:aM H B L) {o q:Nat} (c:o∈eW B) (d:q∈eK L):o≠q:=(a1J.1 h.nd).2.2 o c q d
theorem aM.ne (h:aM H B L) (i j:Nat) {o p:Nat} {x y:cF} (hi:B[i]?=some (o,x)) (J:B[j]?=some (p,y)) (c:i≠j):o≠p:=by
 intro e;have E:(eW B)[i]?=some o:=by unfold eW; rw[aZN,hi]; rfl
 have F:(eW B)[j]?=some p:=by unfold eW; rw[aZN,J]; rfl
 obtain⟨w,d⟩:=aZU.1 E;obtain⟨A,l⟩:=aZU.1 F;have u:=List.pairwise_iff_getElem.1 h.ndB;rcases Nat.lt_or_gt_of_ne c with g | g
 ·exact u i j w A g (by rw[d,l,e])
 ·exact u j i A w g (by rw[d,l,e])
theorem aM.neL (h:aM H B L) (i j:Nat) {o q:Nat} {x:cF} {y:LI} (hi:B[i]?=some (o,x)) (c:L[j]?=some y) (d:y.1.oid=some q):o≠q :=
 h.ndX (uS (a1C hi)) (lS (a1C c) d)
theorem aM.fresh (h:aM H B L) {o:Nat} (c:H o=none):o ∉ eW B∧o ∉ eK L:=by
 refine⟨fun d=>?_,fun d=>?_⟩
 ·obtain⟨b,l,rfl⟩:=aZQ.1 d;rw[h.box b l] at c; cases c
 ·obtain⟨x,p,e⟩:=List.mem_filterMap.1 d;obtain⟨rs,i,_⟩:=(h.lst x p).id e;rw[i] at c; cases c
theorem aM.keep (h:aM H B L) {H':PH} (d:∀ q,q∈eW B∨q∈eK L→H' q=H q):aM H' B L :=
 ⟨fun b c=>by rw[d _ (.inl (uS c))]; exact h.box b c,fun x e=>(h.lst x e).same fun q i=>d q (.inr (lS e i)),h.nd⟩
theorem aBO {i:Nat} {o:Nat} {x y:cF} (hi:B[i]?=some (o,x)):eW (B.set i (o,y))=eW B:=by
 unfold eW;rw[List.map_set];refine List.ext_getElem? fun j=>?_;rw[List.getElem?_set];split
 ·rename_i e;subst e;rw[aZN,hi];have:=(aZU.1 hi).1;simp[this]
 ·rfl
theorem aM.set (h:aM H B L) (i:Nat) {o:Nat} {x:cF} (hi:B[i]?=some (o,x)) (y:cF):aM (H.set o y) (B.set i (o,y)) L:=by
 have l:o∈eW B:=uS (a1C hi);refine⟨fun b u=>?_,fun z p=>(h.lst z p).same fun q w=>?_,by rw[aBO hi]; exact h.nd⟩
 ·obtain⟨j,c⟩:=List.mem_iff_getElem?.1 u;rw[List.getElem?_set] at c;split at c
  ·split at c
   ·cases c; simp only[aT,if_true]
   ·cases c
  ·rename_i d;have:b.1≠o:=fun e=>h.ne i j hi (show B[j]?=some (b.1,b.2) from c) d e.symm;rw[aT,if_neg this];exact h.box b (a1C c)
 ·have:q≠o:=fun e=>h.ndX l (lS p w) e.symm;rw[aT,if_neg this]
theorem aM.new (h:aM H B L) {o:Nat} (u:H o=none) (y:cF):aM (H.set o y) (B++[(o,y)]) L:=by
 obtain⟨f1,f2⟩:=h.fresh u;refine⟨fun b d=>?_,fun z l=>(h.lst z l).same fun q hq=>?_,?_⟩
 ·rw[a0G,a0Q] at d;rcases d with d | rfl
  ·have:b.1≠o:=fun e=>f1 (e ▸ uS d);rw[aT,if_neg this]; exact h.box b d
  ·simp only[aT,if_true]
 ·have:q≠o:=fun e=>f2 (e ▸ lS l hq);rw[aT,if_neg this]
 ·have:=h.nd;simp only[eW,aZO,a0D,a0X] at *
  rw[a0A,a1J] at *
  obtain⟨a,b,c⟩:=this;refine⟨a,?_,fun p i q hq=>?_⟩
  ·rw[List.singleton_append,List.nodup_cons]; exact⟨f2,b⟩
  ·rw[List.singleton_append,aYY] at hq;rcases hq with rfl | hq
   ·intro e; subst e; exact f1 i
   ·exact c p i q hq
theorem lG (L1 L2:List LI):eK (L1++L2)=eK L1++eK L2:=List.filterMap_append ..
theorem aM.mY (h:aM H B L) (s:Nat):aM H B (L++[(.aB,s,[])]):=by
 refine⟨h.box,fun z c=>?_,?_⟩
 ·rw[a0G,a0Q] at c;rcases c with c | rfl
  ·exact h.lst z c
  ·exact .nil
 ·rw[lG,show eK [((.aB:PV),s,([]:List (List PV)))]=[] from rfl,a0M]; exact h.nd
theorem aM.anV (h:aM H B L) {o s:Nat} {rows:List (List PV)} (i:H o=none):aM (H.set o (.rows s rows)) B (L++[(.osl o s 0 rows.length,s,rows)]):=by
 obtain⟨f1,f2⟩:=h.fresh i;have e:=h.keep (H':=H.set o (.rows s rows)) fun q c=>by
  have:q≠o:=by rintro rfl; exact c.elim f1 f2
  rw[aT,if_neg this]
 refine⟨e.box,fun z d=>?_,?_⟩
 ·rw[a0G,a0Q] at d;rcases d with d | rfl
  ·exact e.lst z d
  ·exact .inr ⟨o,rows,rfl,by simp only[aT,if_true],aYV _,aZK⟩
 ·rw[lG,show eK [((.osl o s 0 rows.length:PV),s,rows)]=[o] from rfl,← a0A,a1J];refine⟨h.nd,by simp,fun p hp q c=>?_⟩;rw[a0Q] at c;subst c;rintro rfl;rcases a0G.1 hp with hp | hp
  ·exact f1 hp
  ·exact f2 hp
theorem Pl {i:Nat} {v v':PV} {s s':Nat} {rows rows':List (List PV)} (hi:L[i]?=some (v,s,rows)):∃ L1 L2,L=L1++(v,s,rows)::L2∧L.set i (v',s',rows')=L1++(v',s',rows')::L2:=by
 obtain⟨c,d⟩:=aZU.1 hi;refine⟨L.take i,L.drop (i+1),?_,?_⟩
 ·rw[← d,← a0O c,a1N]
 ·rw[List.set_eq_take_append_cons_drop,if_pos c]
theorem aM.NJ (h:aM H B L) (i:Nat) {s:Nat} {v:PV} {rows:List (List PV)} (hi:L[i]?=some (v,s,rows)) {s':Nat} {v':PV} {rows':List (List PV)} {H':PH} (Q:bU H' s' v' rows')
  (F:∀ q,v'.oid=some q→v.oid=some q∨H q=none) (O:∀ q,q∈eW B∨q∈eK L→(∀ p,v.oid=some p→q≠p)→H' q=H q):aM H' B (L.set i (v',s',rows')):=by
 obtain⟨L1,L2,M,N⟩:=Pl (v':=v') (s':=s') (rows':=rows') hi;rw[N];subst M;have d:=h.nd;have A:eK (L1++(v,s,rows)::L2)=eK L1++(v.oid.toList++eK L2):=by rw[lG];congr 1;unfold eK;rw[List.filterMap_cons];cases e:v.oid<;>simp
 have E:eK (L1++(v',s',rows')::L2)=eK L1++(v'.oid.toList++eK L2):=by rw[lG];congr 1;unfold eK;rw[List.filterMap_cons];cases e:v'.oid<;>simp
 rw[A] at d;have x:∀ q,q∈eW B∨q∈eK L1∨q∈eK L2→∀ p,v.oid=some p→q≠p:=by
  intro q hq p w e;subst e;rw[w] at d;simp only[Option.toList_some] at d;rw[a1J] at d;obtain⟨a,b,c⟩:=d;rw[a1J] at b;obtain⟨b1,b2,y⟩:=b;rw[List.singleton_append,List.nodup_cons] at b2;rcases hq with hq | hq | hq
  ·exact c q hq q (by simp) rfl
  ·exact y q hq q (by simp) rfl
  ·exact b2.1 hq
 have l:∀ q,q∈eW B∨q∈eK L1∨q∈eK L2→H' q=H q:=by
  intro q hq;refine O q ?_ (x q hq);rw[A];simp only[a0G];rcases hq with hq | hq | hq
  ·exact .inl hq
  ·exact .inr (.inl hq)
  ·exact .inr (.inr (.inr hq))
 refine⟨fun b J=>by rw[l _ (.inl (uS J))]; exact h.box b J,fun z hz=>?_,?_⟩
 ·rw[a0G,aYY] at hz;rcases hz with hz | rfl | hz
  ·exact (h.lst z (by simp[hz])).same fun q hq=>l q (.inr (.inl (lS hz hq)))
  ·exact Q
  ·exact (h.lst z (by simp[hz])).same fun q hq=>l q (.inr (.inr (lS hz hq)))
 ·rw[E];cases e:v'.oid with
  | none =>simp only[Option.toList_none,a2G];refine List.Nodup.sublist ?_ d;exact a0U.append (a0U.refl _) (a0U.append (a0U.refl _) (List.sublist_append_right _ _))
  | some q =>
   rcases F q e with R | hn
   ·rw[R] at d;exact d
   ·obtain⟨f1,f2⟩:=h.fresh hn;rw[A] at f2;simp only[a0G,not_or] at f2;have u:(eW B++(eK L1++eK L2)).Nodup:=List.Nodup.sublist (a0U.append (a0U.refl _) (a0U.append (a0U.refl _) (List.sublist_append_right _ _))) d;simp only[Option.toList_some];rw[a1J] at u ⊢;obtain⟨a,b,c⟩:=u;rw[a1J] at b;obtain⟨b1,b2,y⟩:=b;refine⟨a,?_,?_⟩
    ·rw[a1J];refine⟨b1,by rw[List.singleton_append,List.nodup_cons]; exact⟨f2.2.2,b2⟩,fun p w r hr=>?_⟩;rw[List.singleton_append,aYY] at hr;rcases hr with rfl | hr
     ·rintro rfl; exact f2.1 w
     ·exact y p w r hr
    ·intro p w r hr;rw[a0G,List.singleton_append,aYY] at hr;rcases hr with hr | rfl | hr
     ·exact c p w r (by simp[hr])
     ·rintro rfl; exact f1 w
     ·exact c p w r (by simp[hr])
theorem aM.append (h:aM H B L) (i:Nat) {s b:Nat} {v y:PV} {rows src:List (List PV)} (hi:L[i]?=some (v,s,rows)) (E:eF H s y=some src) (A:roomFor rows.length src.length b)
  (w:∀ v' H',aM H' B (L.set i (v',s,rows++src))→(src≠[]→∃ q,v'=.osl q s 0 (rows++src).length)→K v' H'):mZ H s b v y K:=by
 rcases h.own i hi with ⟨rfl,rfl⟩ | ⟨q,rs,rfl,h1,h2,h3⟩
 ·refine⟨src,E,A,fun e=>?_,fun e o l=>?_⟩
  ·subst e;refine w _ _ ?_ fun h=>absurd rfl h;exact h.NJ i hi (.inl ⟨rfl,rfl⟩) (fun q u=>by cases u) fun q _ _=>rfl
  ·refine w _ _ (h.NJ i hi (.inr ⟨o,src,rfl,by simp only[aT,if_true],aYV _,aZK⟩) (fun q u=>by cases u; exact .inr l) fun q u _=>?_) fun _=>⟨o,rfl⟩;obtain⟨f1,f2⟩:=h.fresh l;have:q≠o:=by rintro rfl; exact u.elim f1 f2
   rw[aT,if_neg this]
 ·have c:(rows++src).length=rows.length+src.length:=aYU;refine⟨src,E,rfl,rfl,A,rs,h1,h2,?_,fun o l=>?_⟩
  ·rw[h3];refine w _ _ (h.NJ i hi (.inr ⟨q,rows++src,by rw[c],by simp only[aT,if_true],aYV _,aZK⟩) (fun p d=>by cases d; exact .inl rfl) fun p _ d=>?_) fun _=>⟨q,by rw[c]⟩;rw[aT,if_neg (d q rfl)]
  ·rw[h3];refine w _ _ (h.NJ i hi (.inr ⟨o,rows++src,by rw[c],by simp only[aT,if_true],aYV _,aZK⟩) (fun p d=>by cases d; exact .inr l) fun p x d=>?_) fun _=>⟨o,by rw[c]⟩;obtain⟨f1,f2⟩:=h.fresh l;have F:p≠o:=by rintro rfl; exact x.elim f1 f2
   rw[aT,if_neg F]
theorem aM.sub (h:aM H B L) {B':List BX} {L':List LI} (hB:B'.Sublist B) (c:L'.Sublist L):aM H B' L' :=
 ⟨fun b d=>h.box b (hB.subset d),fun x e=>h.lst x (c.subset e),List.Nodup.sublist (a0U.append (hB.map _) (c.filterMap _)) h.nd⟩
theorem aM.lC (h:aM H B L) (i:Nat):aM H (B.eraseIdx i) L:=h.sub (List.eraseIdx_sublist ..) (a0U.refl _)
theorem aM.alK (h:aM H B L) (i:Nat):aM H B (L.eraseIdx i):=h.sub (a0U.refl _) (List.eraseIdx_sublist ..)
end
section
variable {C:Ctx} {F:PF} {H:PH} {B:List BX} {L:List LI}
theorem aM.WV (h:aM H B L) {q:Nat} (hq:q∈eW B∨q∈eK L):∃ x,H q=some x:=by
 rcases hq with hq | hq
 ·obtain⟨b,d,rfl⟩:=aZQ.1 hq;exact⟨_,h.box b d⟩
 ·obtain⟨x,i,e⟩:=List.mem_filterMap.1 hq;obtain⟨rs,c,_⟩:=(h.lst x i).id e;exact⟨_,c⟩
theorem aM.perm (h:aM H B L) {B':List BX} {L':List LI} (hB:B.Perm B') (c:L.Perm L'):aM H B' L' :=
 ⟨fun b d=>h.box b (hB.mem_iff.2 d),fun x e=>h.lst x (c.mem_iff.2 e),(List.Perm.nodup_iff ((hB.map _).append (c.filterMap _))).1 h.nd⟩
theorem aM.only (h:aM H B L) {B1:List BX} {L1:List LI} (hB:B1.Sublist B) (c:L1.Sublist L):aM (H.only (eW B1++eK L1)) B1 L1:=by
 refine (h.sub hB c).keep fun q d=>?_;rw[sJ];rw[if_pos (a0G.2 d)]
theorem aOJ {a b c d:List Nat} (i:(a++c).Nodup) (l:(b++d).Nodup) (u:∀ q,q∈a∨q∈c→q∈b∨q∈d→False):((a++b)++(c++d)).Nodup:=by
 have e:List.Perm ((a++b)++(c++d)) ((a++c)++(b++d)):=by rw[a0A,a0A];exact List.Perm.append_left a (by rw[← a0A,← a0A]; exact List.Perm.append_right d List.perm_append_comm)
 rw[e.nodup_iff,a1J];refine⟨i,l,fun p w q x=>?_⟩;rintro rfl;exact u p (a0G.1 w) (a0G.1 x)
theorem aM.frame {H':PH} {B1 B2 B':List BX} {L1 L2 L':List LI} (h:aM H (B1++B2) (L1++L2)) (p:aM H' B' L') (E:mH H (H.only (eW B1++eK L1)) H'):aM (H.over (H.only (eW B1++eK L1)) H') (B'++B2) (L'++L2):=by
 have w:aM H B2 L2:=h.sub (List.sublist_append_right ..) (List.sublist_append_right ..);have i:∀ q,q∈eW B2∨q∈eK L2→¬ (q∈eW B1++eK L1):=by
  intro q c J;have d:=h.nd;rw[show eW (B1++B2)=eW B1++eW B2 from aZO,lG] at d;have e:List.Perm ((eW B1++eW B2)++(eK L1++eK L2)) ((eW B1++eK L1)++(eW B2++eK L2)):=by rw[a0A,a0A];exact List.Perm.append_left _ (by rw[← a0A,← a0A]; exact List.Perm.append_right _ List.perm_append_comm)
  rw[e.nodup_iff,a1J] at d;exact d.2.2 q J q (a0G.2 c) rfl
 have new:∀ q,q∈eW B'∨q∈eK L'→(H.over (H.only (eW B1++eK L1)) H') q=H' q:=by intro q c;obtain⟨x,hx⟩:=p.WV c;rw[hZ,hx]
 have A:∀ q,q∈eW B2∨q∈eK L2→(H.over (H.only (eW B1++eK L1)) H') q=H q:=by
  intro q c;obtain⟨x,hx⟩:=w.WV c;have u:(H.only (eW B1++eK L1)) q=none:=by rw[sJ,if_neg (i q c)]
  rw[hZ];cases e:H' q with
  | none=>simp only[u]
  | some y =>have:=E q y e u;rw[hx] at this; cases this
 have k1:=p.keep new;have k2:=w.keep A;refine⟨fun b hb=>?_,fun x hx=>?_,?_⟩
 ·rcases a0G.1 hb with hb | hb
  ·exact k1.box b hb
  ·exact k2.box b hb
 ·rcases a0G.1 hx with hx | hx
  ·exact k1.lst x hx
  ·exact k2.lst x hx
 ·rw[show eW (B'++B2)=eW B'++eW B2 from aZO,lG];refine aOJ p.nd w.nd fun q c l=>?_;obtain⟨x,hx⟩:=p.WV c;obtain⟨y,K⟩:=w.WV l;have u:(H.only (eW B1++eK L1)) q=none:=by rw[sJ,if_neg (i q l)]
  have:=E q x hx u;rw[K] at this; cases this
theorem FX {name:Nat} {vs:List PV} {args:List aQ} {d:Option Nat} {K:PF→PH→Prop} {B1 B2:List BX} {L1 L2:List LI} {Q:PV→List BX→List LI→Prop} (h:aM H (B1++B2) (L1++L2))
  (p:∀ e,aM e B1 L1→aH C name vs e (fun r H'=>∃ B' L',Q r B' L'∧aM H' B' L')) (l:aQ.evs F args=some vs)
  (u:∀ r B' L' H',Q r B' L'→aM H' (B'++B2) (L'++L2)→K (F.put d r) H'):iV C name args [] d K F H:=by
 refine lF (p (H.only (eW B1++eK L1)) (h.only (List.sublist_append_left ..) (List.sublist_append_left ..))) l (WP H _) ?_;rintro r H' ⟨B',L',w,i⟩ c;exact u r B' L' _ w (h.frame i c)
theorem aM.AB {B:List BX} {o:Nat} {x:cF} (h:aM H (B++[(o,x)]) L):H o=some x:=h.box (o,x) (by simp)
theorem aM.HB {B:List BX} {o:Nat} {x:cF} (h:aM H (B++[(o,x)]) L) (y:cF):aM (H.set o y) (B++[(o,y)]) L:=by
 have:=h.set B.length (o:=o) (x:=x) (by simp) y
 rwa [a1M _ _ (aYV _),a1Q] at this
theorem aM.dropLast {B:List BX} {b:BX} (h:aM H (B++[b]) L):aM H B L:=h.sub (List.sublist_append_left ..) (a0U.refl _)
theorem aM.aLK {B:List BX} {o:Nat} {x:cF} (h:aM H ((o,x)::B) L) (y:cF):aM (H.set o y) ((o,y)::B) L:=h.set 0 rfl y
theorem aM.aNR {B:List BX} {o:Nat} {x:cF} (h:aM H ((o,x)::B) L):H o=some x:=h.at 0 rfl
theorem nA {name o:Nat} {x y:cF} {r:PV} {vs:List PV} {args:List aQ} {d:Option Nat} {K:PF→PH→Prop} (h:aH C name vs (PH.nil.set o x) (fun c H'=>c=r∧H'=PH.nil.set o y)) (l:H o=some x) (e:aQ.evs F args=some vs)
  (i:K (F.put d r) (H.set o y)):iV C name args [] d K F H:=by
 refine lF h e (PH.aK a_ l) ?_;rintro c H' ⟨rfl,rfl⟩ -;rw[PH.tP];exact i
theorem azL {Hs:PH} {S:Spec} {name o:Nat} {x y:cF} {r:PV} {vs:List PV} {R:PH→PV→PH→Prop} {args:List aQ} {st:Bool} {d:Option Nat} {K:PF→PH→Prop} (N:S name vs=some ([o],R)) (J:H o=some x)
  (h:aH C name vs (PH.nil.set o x) (fun c H'=>c=r∧H'=PH.nil.set o y)) (i:R (PH.nil.set o x) r (PH.nil.set o y)) (u:∀ c H',R (PH.nil.set o x) c H'→c=r∧H'=PH.nil.set o y) (O:aQ.evs F args=some vs)
  (w:Hs.le (H.set o y)) (Q:K (F.put d r) (H.set o y)):dOp C Hs S st (.call name args) d K F H:=by
 have e:=ef J;refine⟨vs,[o],_,O,N,fun q M=>?_,?_,fun G=>⟨r,_,by rw[e]; exact i,fun q z E p=>?_⟩,fun c H' l _=>?_⟩
 ·simp at M; subst M; exact⟨x,J⟩
 ·rw[e];exact h.post fun c H' l=>⟨c,.refl _,by rw[l.1,l.2]; exact i⟩
 ·rw[e] at p;rw[aT] at E p;split at p
  ·cases p
  ·rename_i A;rw[if_neg A] at E; cases E
 ·rw[e] at l;obtain⟨rfl,rfl⟩:=u c H' l;rw[e,PH.tP];exact⟨w,Q⟩
theorem aEM {s:Nat} {q z:Nat} {rs:List (List PV)} {v:PV} {rows:List (List PV)} (h:bU H s v rows) (d:v.oid≠some q):bU (H.frz q z rs) s v (rows.map fun r=>r.map (PV.dK q z rs)):=by
 rcases h with ⟨rfl,rfl⟩ | ⟨p,rs',rfl,h1,h2,h3⟩
 ·exact .inl ⟨rfl,rfl⟩
 ·have c:¬ p=q:=fun e=>d (by rw[e]; rfl);refine .inr ⟨p,rs'.map fun r=>r.map (PV.dK q z rs),by rw[aYN],?_,by simpa using h2,?_⟩
  ·rw[uR,if_neg c,h1]; rfl
  ·rw[aYN,← List.map_take,h3]
theorem aM.frz (h:aM H B L) (i:Nat) {q s k:Nat} {rows:List (List PV)} (hi:L[i]?=some (.osl q s 0 k,s,rows)):∃ rs,H q=some (.rows s rs)∧PV.dK q s rs (.osl q s 0 k)=.sl s rows∧PV.frz q s rs (.osl q s 0 k)=.sl s rows∧(∀ j x,j≠i→L[j]?=some x→PV.dK q s rs x.1=x.1) ∧
  aM (H.frz q s rs) (B.map fun b=>(b.1,b.2.frz q s rs)) ((L.eraseIdx i).map fun x=>(x.1,x.2.1,x.2.2.map fun r=>r.map (PV.dK q s rs))):=by
 obtain⟨rs,U,V,W,X⟩:=(h.own i hi).id rfl;injection V with _ _ _ hk
 subst hk;have e:PV.frz q s rs (.osl q s 0 rows.length)=.sl s rows:=by rw[qF W,X]
 refine⟨rs,U,e,e,?_⟩;refine⟨fun j x K R=>?_,?_⟩
 ·have l:x.1.oid≠some q:=by
   intro l;obtain⟨M,J⟩:=aZU.1 hi;obtain⟨β,Z⟩:=aZU.1 R;have u:x∈L.eraseIdx i:=List.mem_eraseIdx_iff_getElem?.2 ⟨j,K,R⟩;have d:=h.ndL;have O:L=L.take i++(L[i]::L.drop (i+1)):=by rw[← a0O M,a1N]
   rw[List.eraseIdx_eq_take_drop_succ] at u;rw[O,lG] at d;have E:eK (L[i]::L.drop (i+1))=q::eK (L.drop (i+1)):=by rw[J]; rfl
   rw[E,a1J] at d;obtain⟨a,b,c⟩:=d;rcases a0G.1 u with hx | hx
   ·exact c q (lS hx l) q (by simp) rfl
   ·exact (List.nodup_cons.1 b).1 (lS hx l)
  cases hx:x.1<;>try rfl
  rename_i p z γ len;have:¬ p=q:=fun e=>l (by rw[hx,e]; rfl);simp only[PV.dK,if_neg this]
 obtain⟨L1,L2,e1,e2⟩:=Pl (v':=.aB) (s':=s) (rows':=rows) hi;have α:i=L1.length∨True:=.inr trivial;have w:(L.eraseIdx i).Sublist L:=List.eraseIdx_sublist ..;have N:∀ x∈L.eraseIdx i,x.1.oid≠some q:=by
  intro x hx l;obtain⟨M,J⟩:=aZU.1 hi;have d:=h.ndL;have O:L=L.take i++(L[i]::L.drop (i+1)):=by rw[← a0O M,a1N]
  rw[List.eraseIdx_eq_take_drop_succ] at hx;rw[O,lG] at d;have E:eK (L[i]::L.drop (i+1))=q::eK (L.drop (i+1)):=by rw[J]; rfl
  rw[E,a1J] at d;obtain⟨a,b,c⟩:=d;rcases a0G.1 hx with hx | hx
  ·exact c q (lS hx l) q (by simp) rfl
  ·exact (List.nodup_cons.1 b).1 (lS hx l)
 refine⟨fun b Y=>?_,fun x hx=>?_,?_⟩
 ·obtain⟨Q,y,rfl⟩:=aZQ.1 Y;have:¬ Q.1=q:=h.ndX (uS y) (lS (a1C hi) rfl);simp only;rw[uR,if_neg this,h.box Q y]; rfl
 ·obtain⟨S,A,rfl⟩:=aZQ.1 hx;exact aEM (h.lst S (w.subset A)) (N S A)
 ·have i1:eW (B.map fun b=>(b.1,b.2.frz q s rs))=eW B:=by unfold eW; rw[List.map_map]; rfl
  have i2:eK ((L.eraseIdx i).map fun x=>(x.1,x.2.1,x.2.2.map fun r=>r.map (PV.dK q s rs)))=eK (L.eraseIdx i):=by unfold eK; rw[List.filterMap_map]; rfl
  rw[i1,i2];exact List.Nodup.sublist (a0U.append (a0U.refl _) (w.filterMap _)) h.nd
def Flat (rows:List (List PV)):Prop:=∀ q s rs,rows.map (fun r=>r.map (PV.dK q s rs))=rows
theorem Flat.nil:Flat []:=fun _ _ _=>rfl
theorem Flat.of {rows:List (List PV)} (h:∀ r∈rows,∀ c∈r,∀ q s rs,PV.dK q s rs c=c):Flat rows:=fun q s rs=>by
 conv=>rhs; rw[← List.map_id rows]
 refine a2F fun r e=>?_
 conv=>rhs; rw[id,← List.map_id r]
 exact a2F fun c d=>h r e c d q s rs
theorem Flat.map {α:Type} {f:α→List PV} (l:List α) (h:∀ x,∀ c∈f x,∀ q s rs,PV.dK q s rs c=c):Flat (l.map f):=Flat.of fun r d=>by
 obtain⟨x,_,rfl⟩:=aZQ.1 d;exact h x
theorem Flat.append {r1 r2:List (List PV)} (c:Flat r1) (d:Flat r2):Flat (r1++r2):=fun q s rs=>by rw[aZO,c,d]
theorem aM.flat {φ:PV→List (List PV)} (h:aM H B L):aM H B L:=h
def BQ (v:PV) (H:PH) (R:PV→PH→Prop):Prop:=∃ c d H2,jJ (PF.nil.set 0 v) H c d∧H2.le d∧∃ u,c 0=some u∧R u H2
theorem BQ.done {v:PV} {H2:PH} {R:PV→PH→Prop} (d:R v H2) (c:H2.le H):BQ v H R:=⟨_,_,H2,.refl _ _,c,v,by rw[kM,if_pos rfl],d⟩
theorem BQ.step {v:PV} {q s:Nat} {rs:List (List PV)} {R:PV→PH→Prop} (w:H q=some (.rows s rs)) (h:BQ (PV.frz q s rs v) (H.frz q s rs) R):BQ v H R:=by
 obtain⟨c,d,H2,l,p,u⟩:=h;have e:(PF.nil.set 0 v).frz q s rs=PF.nil.set 0 (PV.frz q s rs v):=by funext i;rw[nK,kM,kM];split<;>rfl
 exact⟨c,d,H2,.step q w (by rw[e]; exact l),p,u⟩
theorem zQ {res:List dS} {R:PV→PH→Prop} {vs:List PV} {e:kW} (l:e=.normal∨e=.ret) (h:dS.evs F H res=some vs) (p:BQ (bL vs) H R):aR res R e F H:=by
 have c:∃ vs,dS.evs F H res=some vs∧∃ d i H2,jJ (PF.nil.set 0 (bL vs)) H d i∧H2.le i∧∃ u,d 0=some u∧R u H2:=⟨vs,h,p⟩;rcases l with rfl | rfl<;>exact c
theorem lx {u:PV} (h:u.oid=none) (q s:Nat) (rs:List (List PV)):PV.dK q s rs u=u:=by
 cases u<;>first | rfl | (simp[PV.oid] at h)
theorem Seen.co {s:Nat} {v:PV} {rows:List (List PV)} (h:Seen s v rows):Co v (.sl s rows):=by
 rcases h with ⟨rfl,rfl⟩ | rfl
 ·exact .nil s
 ·exact .refl _
theorem aM.giveUp:∀ (L:List LI) {H:PH} {B:List BX},aM H B L→(∀ x∈L,Flat x.2.2)→(∀ b∈B,∀ q s rs,cF.frz q s rs b.2=b.2) →
  ∃ (φ:PV→PV) (d:PH),(∀ x∈L,Seen x.2.1 (φ x.1) x.2.2)∧(∀ u,u.oid=none→φ u=u)∧aM d B []∧∀ cs R,BQ (.agg (cs.map φ)) d R→BQ (.agg cs) H R
 | [],H,B,h,_,_=>⟨id,H,by simp,fun _ _=>rfl,h,fun cs R p=>by rwa [List.map_id] at p⟩
 | (w,s,rows)::L,H,B,h,l,hB=>by
  have c:∀ q z rs,(L.map fun x=>(x.1,x.2.1,x.2.2.map fun r=>r.map (PV.dK q z rs)))=L:=fun q z rs=>by
   conv=>rhs; rw[← List.map_id L]
   refine a2F fun x hx=>?_;rw[l x (by simp[hx]) q z rs]; rfl
  rcases h.own 0 rfl with ⟨i,M⟩ | ⟨q,rs,i,_⟩
  ·obtain⟨φ,d,k1,k2,y,A⟩:=aM.giveUp L (h.alK 0) (fun x hx=>l x (by simp[hx])) hB;refine⟨φ,d,fun x hx=>?_,k2,y,A⟩;rw[aYY] at hx;rcases hx with rfl | hx
   ·exact .inl ⟨i,by simp only; rw[M]; exact k2 _ rfl⟩
   ·exact k1 x hx
  ·subst i;obtain⟨rs,Q,S,W,U,J⟩:=h.frz 0 rfl;have V:aM (H.frz q s rs) B L:=by
    have K:(B.map fun b=>(b.1,b.2.frz q s rs))=B:=by
     conv=>rhs; rw[← List.map_id B]
     refine a2F fun b N=>?_;rw[hB b N q s rs]; rfl
    rw[K] at J;have:=J;simp only[List.eraseIdx_cons_zero] at this
    rwa [c q s rs] at this
   obtain⟨φ,d,k1,k2,y,A⟩:=aM.giveUp L V (fun x hx=>l x (by simp[hx])) hB;refine⟨fun u=>φ (PV.dK q s rs u),d,fun x hx=>?_,fun u E=>?_,y,fun cs R p=>?_⟩
   ·rw[aYY] at hx;rcases hx with rfl | hx
    ·simp only;rw[S];exact .inr (k2 _ rfl)
    ·obtain⟨j,O⟩:=List.mem_iff_getElem?.1 hx;have:=U (j+1) x Om (by simpa using O);simp only;rw[this];exact k1 x hx
   ·simp only;rw[lx E,k2 u E]
   ·refine .step Q ?_;have e:PV.frz q s rs (.agg cs)=.agg (cs.map (PV.dK q s rs)):=rfl;rw[e];refine A _ R ?_;rw[List.map_map];exact p
theorem Cf {K:bT} {α:Type} {c:α→PF} {Hs:α→PH} {d:α→Prop} {m:α→Nat} {n q s:Nat} {rs:List (List PV)} (a:α) (u:H q=some (.rows s rs)) (e:d a) (p:m a<n) (i:(c a).le (F.frz q s rs)) (l:(Hs a).le (H.frz q s rs)):fR c Hs d m n K .normal F H :=
 ⟨a,_,_,.step q u (.refl _ _),e,p,i,l⟩
end
structure HI (C:Ctx):Prop extends ij C where
 int:∀ n:Int,cK n→aH C 47 [.int .i64 n] .nil (aF (.agg (mkT n 1).cells))
 itoa:∀ n:Nat,n<100→aH C 195 [.int .i64 n] .nil (aF (.str (cB n)))
 next:∀ (l:List Nat) (v:PV),Tp l v→∀ (o n a:Nat),n≤1000000→a≤l.length→aH C 4 [.ptr o 2 0 0,.int .i64 n] (PH.nil.set o (bR v a)) (ie l v o n a)
section
variable {C:Ctx} {F:PF} {H:PH} {l:List Nat} {v:PV} {o a:Nat}
theorem dP (e:HI C) (T:Tp l v) {n:Nat} {args:List aQ} {d:Option Nat} {K:PF→PH→Prop} (u:n≤1000000) (i:a≤l.length) (c:aQ.evs F args=some [.ptr o 2 0 0,.int .i64 n]) (w:H o=some (bR v a))
  (p:K (F.put d (.int .i64 ((aG l n a).1:Nat))) (H.set o (bR v (aG l n a).2))):iV C 4 args [] d K F H :=
 nA (e.next l v T o n a u i) w c p
end
def aGL (l:List Nat) (v:PV) (o a:Nat) (r:PV) (H:PH):Prop:=r=.agg (fN l a).1.cells∧H=PH.nil.set o (bR v (fN l a).2)
theorem uM (l:List Nat) {a:Nat} (h:a≤l.length):(fN l a).2≤l.length:=bW l 8 (bW l 6 h)
theorem aCE {C:Ctx} (d:HI C) {l:List Nat} {v:PV} (T:Tp l v) (o a:Nat) (u:a≤l.length):KO.wp C (aR anI.res (aGL l v o a)) (PF.args [.ptr o 2 0 0]) (PH.nil.set o (bR v a)):=by
 simp only[go_sem,KO,Qi,anI];refine aN fun p K=>?_;have x:¬ p=o:=(jD.1 K).1;have c:¬ o=p:=fun h=>x h.symm;have M:=cM l (show 0<6 by decide) a;have a1:=bW l 6 u;simp only[go_sem,Qj];refine dP d T (o:=o) (n:=6) (a:=a) (by decide) u rfl (by simp only[go_sem,c]) ?_;have B:IntKind.i64.wrap (1+((aG l 6 a).1:Int))=((1+(aG l 6 a).1:Nat):Int):=by rw[wrap_i64 Om Om]; omega
 simp only[go_sem,B];have N:=cM l (show 0<8 by decide) (aG l 6 a).2;refine dP d T (o:=o) (n:=8) (a:=(aG l 6 a).2) (by decide) a1 rfl Sq ?_;have E:IntKind.i64.wrap (1+((aG l 8 (aG l 6 a).2).1:Int))=((1+(aG l 8 (aG l 6 a).2).1:Nat):Int):=by rw[wrap_i64 Om Om]; omega
 simp only[go_sem,E];refine aA (d.fmk ((1+(aG l 6 a).1:Nat):Int) ((1+(aG l 8 (aG l 6 a).2).1:Nat):Int) (by unfold cK; omega) (by unfold cK; omega)) rfl ?_;have J:¬ ((1+(aG l 8 (aG l 6 a).2).1:Nat):Int)=0:=Om;unfold rG;rw[if_neg J];simp only[go_sem];refine aN fun q w=>?_;have y:¬ q=o:=(jD.1 w).1;have A:¬ q=p:=(jD.1 (jD.1 w).2).1;have i:¬ p=q:=fun h=>A h.symm;have e:¬ o=q:=fun h=>y h.symm;simp only[go_sem,Qk,x,c,y,A,i];refine aZ (vs:=[.agg (fN l a).1.cells]) (.inr rfl) (PH.nil.set o (bR v (fN l a).2)) ?_ (PH.aK a_ ?_) ⟨rfl,rfl⟩
 ·simp only[go_sem];rfl
 ·simp only[go_sem,c,e];rfl
structure Jw (C:Ctx):Prop extends HI C where
 frac:∀ (l:List Nat) (v:PV),Tp l v→∀ (o a:Nat),a≤l.length→aH C 1 [.ptr o 2 0 0] (PH.nil.set o (bR v a)) (aGL l v o a)
abbrev gI (l:List RF):List (List PV):=l.map RF.cells
theorem xS (l:List RF) (x:RF):gI l++[x.cells]=gI (l++[x]):=by simp[gI]
theorem IZ (l:List RF):Flat (gI l):=Flat.map l fun x c d q s rs=>by
 simp only[RF.cells,dY,aYY,aZI,or_false] at d;rcases d with rfl | rfl | rfl<;>rfl
theorem mO (l:List RF):(gI l).length=l.length:=by simp[gI]
theorem Tp.frz {l:List Nat} {v:PV} (T:Tp l v) (q s:Nat) (rs:List (List PV)):PV.dK q s rs v=v:=by
 rcases T.seen with ⟨_,rfl⟩ | rfl<;>rfl
theorem GX (l:List Nat) {a:Nat} (h:a≤l.length):∀ k,(kL l a k).2≤l.length
 | 0=>h
 | k+1=>uM l (GX l h k)
theorem Tl (l:List Nat) (a:Nat):∀ k,(kL l a k).1.length=k
 | 0=>rfl
 | k+1=>by simp only[kL,aYU,aZB,Tl l a k]
def aNK (l:List Nat) (v:PV) (o a k:Nat) (r:PV) (H:PH):Prop:=r=frs (kL l a k).1∧H=PH.nil.set o (bR v (kL l a k).2)
def anM (o:Nat) (m:Nat) (w:PV) (i:Nat):PF:=((((PF.nil.set 0 (.ptr o 2 0 0)).set 1 (.int .i64 m)).set 5 (w)).set 6 (.int .i64 i))
theorem aJY {C:Ctx} (J:Jw C) {l:List Nat} {v:PV} (T:Tp l v) (o a m:Nat) (S:m≤1000) (N:a≤l.length):SL.wp C (aR aCQ.res (aNK l v o a (max m 1))) (PF.args [.ptr o 2 0 0,.int .i64 m]) (PH.nil.set o (bR v a)):=by
 have p:∀ i:Nat,((i:Int)<(if (m:Int)<1 then 1 else (m:Int)))↔i<max m 1:=by intro i;split<;>omega
 simp only[go_sem,SL,adA,adB,adC,aCQ];have K:aM (PH.nil.set o (bR v a)) [(o,bR v a)] [(.aB,3,gI [])]:=(aM.nil.new (H:=PH.nil) rfl (bR v a)).mY 3;refine wp_loop (α:=Nat × PV × PH) (fun t=>anM o m t.2.1 t.1) (fun t=>t.2.2) (fun t=>t.1≤max m 1∧aM t.2.2 [(o,bR v (kL l a t.1).2)] [(t.2.1,3,gI (kL l a t.1).1)]) (fun t=>max m 1-t.1) (0,.aB,PH.nil.set o (bR v a)) ⟨aYS _,K⟩ ?_ b_ ?_
 ·unfold anM;exact Lq
 rintro⟨k,w,R⟩ ⟨O,d⟩;simp only at O d ⊢;simp only[go_sem,acZ,adD,anM];have A:=GX l N k;have c:=Tl l a k;by_cases hlt:k<max m 1
 ·have y:=(p k).2 hlt;simp only[go_sem,y,adE];refine nA (J.frac l v T o _ A) (d.at 0 rfl) rfl ?_;have x:=d.set 0 rfl (bR v (fN l (kL l a k).2).2);have u:(1:Nat)*3≤16777216:=by decide
  simp only[go_sem,u];refine x.append 0 (src:=[(fN l (kL l a k).2).1.cells]) rfl rfl (by unfold roomFor; rw[mO,c]; simp only[aZB,maxLen]; omega) fun Q H' E _=>?_;rw[xS] at E;simp only[go_sem,adF,wZz k];refine aD (k+1,Q,H') ⟨hlt,E⟩ (by simp only; omega) ?_ b_;exact Lq
 ·have y:¬ ((k:Int)<(if (m:Int)<1 then 1 else (m:Int))):=fun h=>hlt ((p k).1 h);have e:k=max m 1:=Om;subst e;simp only[go_sem,y,adG];have B:gI (kL l a (max m 1)).1≠[]:=fun h=>by have:=congrArg List.length h;rw[mO,c] at this;simp at this
  rcases d.own 0 rfl with ⟨M,_⟩ | ⟨q,rs,rfl,_⟩
  ·exact absurd M B
  obtain⟨rs,g1,g2,g3,-,g4⟩:=d.frz 0 rfl;refine zQ (vs:=[.osl q 3 0 (gI (kL l a (max m 1)).1).length]) (.inr rfl) rfl (.step g1 (.done (H2:=PH.nil.set o (bR v (kL l a (max m 1)).2)) ?_ (PH.aK a_ ?_)))
  ·rw[bL,g3];exact⟨rfl,rfl⟩
  ·have:=g4.at 0 rfl;rw[this];simp only[cF.frz,a0D,a0X,T.frz];rfl
theorem aCL {C:Ctx} (d:HI C) (s:List UInt8) (n:Nat) (p:s.length≤100) (e:n<100):KT.wp C (aR anL.res (aF (.str (s++cB n)))) (PF.args [.str s,.int .i64 n]) .nil:=by
 have i:(cB n).length≤2:=by
  unfold cB;rw[Lib.decDigits];split
  ·simp
  ·rw[Lib.decDigits,dif_pos Om]; simp
 have c:¬ (((s.length+(cB n).length:Nat):Int)>9223372036854775807):=Om;simp only[go_sem,KT,Q5,Q6,anL];refine aA (d.itoa n e) rfl ?_;simp only[go_sem,akO,c];refine aO (.inr rfl) rfl ?_;rfl
structure sT (C:Ctx):Prop extends Jw C where
 rep:∀ (l:List Nat) (v:PV),Tp l v→∀ (o a m:Nat),m≤1000→a≤l.length→aH C 5 [.ptr o 2 0 0,.int .i64 m] (PH.nil.set o (bR v a)) (aNK l v o a (max m 1))
 name:∀ (s:List UInt8) (n:Nat),s.length≤100→n<100→aH C 29 [.str s,.int .i64 n] .nil (aF (.str (s++cB n)))
theorem ayR (l:List Nat) (i j:Nat) {a:Nat} (h:a≤l.length):(jG l i j a).2≤l.length:=by
 unfold jG;split
 ·exact uM l h
 ·split
  ·exact h
  ·simp only;split
   ·exact uM l (bW l 3 h)
   ·exact bW l 3 h
theorem ye (l:List Nat) (i:Nat) {a:Nat} (h:a≤l.length):∀ j,(dX l i a j).2≤l.length
 | 0=>h
 | j+1=>ayR l i j (ye l i h j)
theorem fp (l:List Nat) (i a:Nat):∀ j,(dX l i a j).1.length=j
 | 0=>rfl
 | j+1=>by simp only[dX,aYU,aZB,fp l i a j]
theorem cl (l:List Nat) (n i:Nat) (s:DE) (h:s.a≤l.length):(dV l n i s).2≤l.length∧(dV l n i s).1≤s.left:=by
 unfold dV;split
 ·exact⟨bW l _ h,by have:=cM l (Om:0<s.left+1) s.a; omega⟩
 ·exact⟨h,aYV _⟩
theorem Mn (l:List Nat) (n i:Nat) {a:Nat} (h:a≤l.length):(fG l n i a).2≤l.length:=by
 unfold fG;simp only;split
 ·exact bW l 3 (uM l h)
 ·exact uM l h
theorem ww (l:List Nat) (n:Nat) {a:Nat} (h:a≤l.length):∀ i,(gE l n a i).a≤l.length∧(gE l n a i).left≤8∧(gE l n a i).start.length=i∧(gE l n a i).exit.length=i∧(gE l n a i).aXH.length=i
 | 0=>⟨h,aYV _,rfl,rfl,rfl⟩
 | i+1=>by
  obtain⟨c,u,d,e,h5⟩:=ww l n h i;have p:=cl l n i (gE l n a i) c;refine⟨?_,?_,?_,?_,?_⟩
  ·exact ye l i (Mn l n i p.1) n
  ·simp only[gE]; omega
  ·simp only[gE,aYU,aZB,d]
  ·simp only[gE,aYU,aZB,e]
  ·simp only[gE,aYU,aZB,h5]
abbrev uY (l:List (List RF)):List (List PV):=l.map fun r=>[frs r]
theorem Ez (l:List (List RF)):Flat (uY l):=Flat.map l fun x c d q s rs=>by
 simp only[aYY,aZI,or_false] at d;subst d; rfl
abbrev cj (c d e:PV):cF:=.rows 4 [[.str [],c,d,e]]
abbrev Pt:cF:=.rows 4 [[.str [],.aB,.aB,.aB]]
def fS (o o4 o6 n left i:Nat) (w:PV) (j:Nat):PF:=((((((((PF.nil.set 0 (.ptr o 2 0 0)).set 4 (.ptr o4 4 0 0)).set 5 (.int .i64 n)).set 6 (.ptr o6 4 0 0)).set 7 (.int .i64 left)).set 8 (.int .i64 i)).set 13 (w)).set 14 (.int .i64 j))
def dA (o o4 o6 n left i:Nat):PF:=((((((PF.nil.set 0 (.ptr o 2 0 0)).set 4 (.ptr o4 4 0 0)).set 5 (.int .i64 n)).set 6 (.ptr o6 4 0 0)).set 7 (.int .i64 left)).set 8 (.int .i64 i))
theorem cr {l:List RF} (h:l.length≤1000):roomFor (gI l).length 1 56:=by
 unfold roomFor;rw[mO];simp only[maxLen]; omega
theorem aCK {C:Ctx} (V:sT C) {l:List Nat} {v:PV} (T:Tp l v) (o o4 o6 n left i a:Nat) (ha:a≤l.length) (hn:n≤100) (hi:i<n) (B:List BX) (L:List LI) (K:bT) (F:PF) (H:PH)
  (hF:(fS o o4 o6 n left i .aB 0).le F) (O:aM H ((o,bR v a)::B) L)
  (hK:∀ w d H',(fS o o4 o6 n left i w n).le d→aM H' ((o,bR v (dX l i a n).2)::B) (L++[(w,3,gI (dX l i a n).1)])→K (.exit 2) d H') :
  aC.wp C (.loop KQ) K F H:=by
 refine wp_loop (α:=Nat × PV × PH) (fun t=>fS o o4 o6 n left i t.2.1 t.1) (fun t=>t.2.2) (fun t=>t.1≤n∧aM t.2.2 ((o,bR v (dX l i a t.1).2)::B) (L++[(t.2.1,3,gI (dX l i a t.1).1)])) (fun t=>n-t.1) (0,.aB,H) ⟨aYS _,O.mY 3⟩ hF b_ ?_;rintro⟨j,w,H0⟩ ⟨hj,O⟩;simp only at hj O ⊢;have N:=ye l i ha j;have δ:=fp l i a j;have e1:IntKind.i64.wrap ((i:Int)+1)=((i+1:Nat):Int):=dC Om;simp only[go_sem,KQ,Qz,fS];by_cases hlt:j<n
 ·have A:(j:Int)<(n:Nat):=Om;simp only[go_sem,A,Q1];refine aA (V.int 0 (by unfold cK; omega)) rfl ?_;simp only[go_sem];refine aN fun p hp=>?_;have e:=O.new hp (.rows 3 [jW.cells]);simp only[go_sem,Q2,e1];have fin:∀ (d:PF) (H':PH),(fS o o4 o6 n left i w j).le d→d 15=some (.ptr p 3 0 0)→aM H' ((o,bR v (jG l i j (dX l i a j).2).2)::B++[(p,.rows 3 [(jG l i j (dX l i a j).2).1.cells])]) (L++[(w,3,gI (dX l i a j).1)]) →
    aC.wp C (.region c9) (fF 3 (gS C (aC.wp C (.region da)) (fR (fun (t:Nat × PV × PH)=>fS o o4 o6 n left i t.2.1 t.1) (fun t=>t.2.2) (fun t=>t.1≤n∧aM t.2.2 ((o,bR v (dX l i a t.1).2)::B) (L++[(t.2.1,3,gI (dX l i a t.1).1)])) (fun t=>n-t.1) (n-j) K))) d H':=by
   intro d H' c E Q;have f0:d 0=some (.ptr o 2 0 0):=c 0 _ (by unfold fS; simp only[go_sem]);have f4:d 4=some (.ptr o4 4 0 0):=c 4 _ (by unfold fS; simp only[go_sem]);have f5:d 5=some (.int .i64 n):=c 5 _ (by unfold fS; simp only[go_sem]);have f6:d 6=some (.ptr o6 4 0 0):=c 6 _ (by unfold fS; simp only[go_sem]);have f7:d 7=some (.int .i64 left):=c 7 _ (by unfold fS; simp only[go_sem]);have f8:d 8=some (.int .i64 i):=c 8 _ (by unfold fS; simp only[go_sem]);have f13:d 13=some w:=c 13 _ (by unfold fS; simp only[go_sem]);have f14:d 14=some (.int .i64 j):=c 14 _ (by unfold fS; simp only[go_sem]);have β:H' p=some (.rows 3 [(jG l i j (dX l i a j).2).1.cells]):=Q.box (p,.rows 3 [(jG l i j (dX l i a j).2).1.cells]) (by simp);have X:(1:Nat)*3≤16777216:=by decide
   simp only[go_sem,c9,f13,E,β,X];refine Q.append (v:=w) (s:=3) (rows:=gI (dX l i a j).1) L.length (src:=[(jG l i j (dX l i a j).2).1.cells]) (by simp) rfl (cr Om) fun w' H2 h2 _=>?_;rw[xS,a1M _ _ (aYV _),a1Q] at h2;simp only[go_sem,da,f14,wZz j];refine aD (α:=Nat × PV × PH) (j+1,w',H2) ⟨hlt,h2.sub (List.sublist_append_left ..) (a0U.refl _)⟩ (by simp only; omega) ?_ b_;unfold fS;exact Lq
  simp only[aC.wp,go_sem] at fin;have U:∀ x:RF,PH.set (PH.set H0 p (.rows 3 [jW.cells])) p (.rows 3 [x.cells])=PH.set H0 p (.rows 3 [x.cells]):=fun x=>PH.set_set p _ _;have draw:∀ (d:PF) (R:PH) (a1:Nat),a1≤l.length→(fS o o4 o6 n left i w j).le d→d 15=some (.ptr p 3 0 0)→aM R ((o,bR v a1)::B++[(p,.rows 3 [jW.cells])]) (L++[(w,3,gI (dX l i a j).1)])→jG l i j (dX l i a j).2=fN l a1→∀ K',(∀ M H2,(fS o o4 o6 n left i w j).le M→M 15=some (.ptr p 3 0 0)→aM H2 ((o,bR v (jG l i j (dX l i a j).2).2)::B++[(p,.rows 3 [(jG l i j (dX l i a j).2).1.cells])]) (L++[(w,3,gI (dX l i a j).1)])→K' M H2) →
    wpOps C c8 K' d R:=by
   intro d R a1 Z c E e J K' Y;have f0:d 0=some (.ptr o 2 0 0):=c 0 _ (by unfold fS; simp only[go_sem]);simp only[go_sem,c8,f0];refine nA (V.frac l v T o a1 Z) (e.at 0 rfl) rfl ?_;have y:aM (R.set o (bR v (fN l a1).2)) ((o,bR v (fN l a1).2)::B++[(p,.rows 3 [jW.cells])]) (L++[(w,3,gI (dX l i a j).1)]):=e.set 0 rfl _;have γ:=y.AB;simp only[go_sem,E,γ];refine Y _ _ ?_ (by simp only[go_sem,E]) ?_
   ·have g:=fun (q:Nat) u h=>c q u h;unfold fS at g ⊢;refine d_ (d_ (d_ (d_ (d_ (d_ (d_ (d_ c_ ?_) ?_) ?_) ?_) ?_) ?_) ?_) ?_
    ·simp only[go_sem,f0]
    ·simp only[go_sem,g 4 _ rfl]
    ·simp only[go_sem,g 5 _ rfl]
    ·simp only[go_sem,g 6 _ rfl]
    ·simp only[go_sem,g 7 _ rfl]
    ·simp only[go_sem,g 8 _ rfl]
    ·simp only[go_sem,g 13 _ rfl]
    ·simp only[go_sem,g 14 _ rfl]
   ·rw[J];exact y.HB (.rows 3 [(fN l a1).1.cells])
  by_cases S:j=i+1
  ·have J:jG l i j (dX l i a j).2=fN l (dX l i a j).2:=by unfold jG; rw[if_pos S]
   simp only[go_sem,bN (Om:(j:Int)=((i+1:Nat):Int))];refine draw _ _ _ N (by unfold fS; exact Lq) rfl e J _ ?_;intro M H2 k1 k2 k3;exact fin M H2 k1 k2 k3
  ·simp only[go_sem,bD (Om:¬ (j:Int)=((i+1:Nat):Int))];by_cases W:j=i
   ·have J:jG l i j (dX l i a j).2=(jW,(dX l i a j).2):=by unfold jG; rw[if_neg S,if_pos W]
    simp only[go_sem,bS (Om:(j:Int)=(i:Int))];exact fin _ _ (by unfold fS; exact Lq) rfl (by rw[J]; exact e)
   ·simp only[go_sem,cT (Om:¬ (j:Int)=(i:Int))];refine dP V.toHI T (o:=o) (n:=3) (a:=(dX l i a j).2) (by decide) N rfl (e.at 0 rfl) ?_;have y:aM _ ((o,bR v (aG l 3 (dX l i a j).2).2)::B++[(p,.rows 3 [jW.cells])]) (L++[(w,3,gI (dX l i a j).1)]):=e.set 0 rfl _;by_cases c3:(aG l 3 (dX l i a j).2).1=0
    ·have J:jG l i j (dX l i a j).2=fN l (aG l 3 (dX l i a j).2).2:=by unfold jG; rw[if_neg S,if_neg W]; simp only[c3,if_true]
     simp only[go_sem,bN (show (((aG l 3 (dX l i a j).2).1:Nat):Int)=0 by omega)];refine draw _ _ _ (bW l 3 N) (by unfold fS; exact Lq) rfl y J _ ?_;intro M H2 k1 k2 k3;exact fin M H2 k1 k2 k3
    ·have J:jG l i j (dX l i a j).2=(jW,(aG l 3 (dX l i a j).2).2):=by unfold jG; rw[if_neg S,if_neg W]; simp only[c3,if_false]
     simp only[go_sem,bD (show ¬ (((aG l 3 (dX l i a j).2).1:Nat):Int)=0 by omega)];exact fin _ _ (by unfold fS; exact Lq) rfl (by rw[J]; exact y)
 ·have A:¬ (j:Int)<(n:Nat):=Om;have:j=n:=Om;subst this;simp only[go_sem,A];exact hK w _ _ (by unfold fS; exact Lq) O
abbrev rK (o o4 o6:Nat) (v c d e:PV) (a:Nat):List BX:=[(o,bR v a),(o4,Pt),(o6,cj c d e)]
abbrev vQ (s:DE) (c d e:PV):List LI:=[(c,3,gI s.start),(d,1,uY s.aXH),(e,3,gI s.exit)]
theorem atJ {C:Ctx} (J:sT C) {l:List Nat} {v:PV} (T:Tp l v) (o o4 o6 n i:Nat) (s:DE) (E:s.a≤l.length) (U:s.left≤8) (V:n≤100) (hi:i<n) (B:List BX) (L:List LI) (rest:aC) (K:bT) (F:PF) (H:PH)
  (d:(dA o o4 o6 n s.left i).le F) (x:aM H ((o,bR v s.a)::B) L)
  (p:∀ u H',(dA o o4 o6 n (s.left-(dV l n i s).1) i).le u→u 9=some (.int .i64 ((dV l n i s).1:Nat))→aM H' ((o,bR v (dV l n i s).2)::B) L→aC.wp C rest K u H') :
  aC.wp C (.seq (.region w8) (.seq (.seq (.region w9) (.cond (.tmp 29) (.region xa) .skip)) (.seq (.region WN) rest))) K F H:=by
 have f0:F 0=some (.ptr o 2 0 0):=d 0 _ (by unfold dA; simp only[go_sem]);have R:F 4=some (.ptr o4 4 0 0):=d 4 _ (by unfold dA; simp only[go_sem]);have O:F 5=some (.int .i64 n):=d 5 _ (by unfold dA; simp only[go_sem]);have f6:F 6=some (.ptr o6 4 0 0):=d 6 _ (by unfold dA; simp only[go_sem]);have f7:F 7=some (.int .i64 s.left):=d 7 _ (by unfold dA; simp only[go_sem]);have Q:F 8=some (.int .i64 i):=d 8 _ (by unfold dA; simp only[go_sem]);have M:IntKind.i64.wrap ((i:Int)+1)=((i+1:Nat):Int):=dC Om;have S:=(cl l n i s E).2;have e:IntKind.i64.wrap ((s.left:Int)-((dV l n i s).1:Int))=((s.left-(dV l n i s).1:Nat):Int):=by rw[wrap_i64 Om Om]; omega
 simp only[go_sem,w8,f7,w9,Q,O,M];by_cases c:i+1<n
 ·have w:((i+1:Nat):Int)<(n:Nat):=Om;have A:dV l n i s=aG l (s.left+1) s.a:=by unfold dV; rw[if_pos c]
  have N:IntKind.i64.wrap ((s.left:Int)+1)=((s.left+1:Nat):Int):=dC Om;rw[A] at p e;simp only[go_sem,w,xa,f0,f7,N];refine dP J.toHI T (o:=o) (n:=s.left+1) (a:=s.a) Om E rfl x.aNR ?_;have y:=x.aLK (bR v (aG l (s.left+1) s.a).2);simp only[go_sem,WN,f7,e];refine p _ _ ?_ rfl y;unfold dA;exact Lq
 ·have w:¬ ((i+1:Nat):Int)<(n:Nat):=Om;have A:dV l n i s=(s.left,s.a):=by unfold dV; rw[if_neg c]
  rw[A] at p e;simp only at p e;simp only[go_sem,w,WN,f7,e];refine p _ _ ?_ rfl x;unfold dA;exact Lq
theorem anK {C:Ctx} (O:sT C) {l:List Nat} {v:PV} (o o4 o6 n i left k a:Nat) (hk:k≤8) (hi:i<n) (hn:n≤100) (s:DE) (hs:s.start.length=i) (N u w:PV) (B:List BX) (rest:aC) (K:bT) (F:PF) (H:PH)
  (e:(dA o o4 o6 n left i).le F) (Q:F 9=some (.int .i64 k)) (V:aM H (rK o o4 o6 v N u w a++B) (vQ s N u w))
  (W:∀ d M H' B',(dA o o4 o6 n left i).le M→aM H' (rK o o4 o6 v d u w a++B') (vQ { s with start:=s.start++[mkT (k:Nat) 8] } d u w)→aC.wp C rest K M H') :
  aC.wp C (.seq (.region cu) (.seq (.region cv) rest)) K F H:=by
 have f0:F 0=some (.ptr o 2 0 0):=e 0 _ (by unfold dA; simp only[go_sem]);have Z:F 4=some (.ptr o4 4 0 0):=e 4 _ (by unfold dA; simp only[go_sem]);have f5:F 5=some (.int .i64 n):=e 5 _ (by unfold dA; simp only[go_sem]);have f6:F 6=some (.ptr o6 4 0 0):=e 6 _ (by unfold dA; simp only[go_sem]);have f7:F 7=some (.int .i64 left):=e 7 _ (by unfold dA; simp only[go_sem]);have f8:F 8=some (.int .i64 i):=e 8 _ (by unfold dA; simp only[go_sem]);simp only[go_sem,cu,Q];refine aA (O.fmk (k:Int) 8 (by unfold cK; omega) (by unfold cK; omega)) rfl ?_;unfold rG;rw[if_neg (by decide)];simp only[go_sem];refine aN fun p X=>?_;have c:=V.new X (.rows 3 [(mkT (k:Nat) 8).cells]);have R:=c.at 2 rfl;have S:=c.AB;have A:(1:Nat)*3≤16777216:=by decide
 have Y:∀ y,PH.set (PH.set H p (.rows 3 [[PV.bool false,PV.aB,PV.aB]])) p y=PH.set H p y:=fun y=>PH.set_set p _ _;simp only[go_sem,cv,f6,R,S,A];refine c.append 0 (src:=[(mkT (k:Nat) 8).cells]) rfl rfl (cr Om) fun d H2 E J=>?_;rw[xS] at E J; rw[mO] at J;obtain⟨q,rfl⟩:=J (by simp);have x:=E.at 2 rfl;simp only[go_sem,x,aYY,aZI,or_false,forall_eq];have U:=E.set 2 rfl (cj (.osl q 3 0 (s.start++[mkT (k:Nat) 8]).length) u w);refine W _ _ _ (B++[(p,.rows 3 [(mkT (k:Nat) 8).cells])]) ?_ U;unfold dA;exact Lq
theorem atI {C:Ctx} (O:sT C) {l:List Nat} {v:PV} (T:Tp l v) (o o4 o6 n i left a:Nat) (ha:a≤l.length) (hi:i<n) (hn:n≤100) (s:DE) (hs:s.exit.length=i) (u w M:PV) (B:List BX) (rest:aC) (K:bT) (F:PF) (H:PH)
  (J:(dA o o4 o6 n left i).le F) (hH:aM H (rK o o4 o6 v u w M a++B) (vQ s u w M))
  (hK:∀ E d H' B',(dA o o4 o6 n left i).le d→aM H' (rK o o4 o6 v u w E (fG l n i a).2++B') (vQ { s with exit:=s.exit++[(fG l n i a).1] } u w E)→aC.wp C rest K d H') :
  aC.wp C (.seq (.region cw) (.seq (.seq (.region cx) (.cond (.tmp 58) (.region cy) .skip)) (.seq (.region KR) rest))) K F H:=by
 have f0:F 0=some (.ptr o 2 0 0):=J 0 _ (by unfold dA; simp only[go_sem]);have f4:F 4=some (.ptr o4 4 0 0):=J 4 _ (by unfold dA; simp only[go_sem]);have f5:F 5=some (.int .i64 n):=J 5 _ (by unfold dA; simp only[go_sem]);have f6:F 6=some (.ptr o6 4 0 0):=J 6 _ (by unfold dA; simp only[go_sem]);have f7:F 7=some (.int .i64 left):=J 7 _ (by unfold dA; simp only[go_sem]);have f8:F 8=some (.int .i64 i):=J 8 _ (by unfold dA; simp only[go_sem]);have e1:IntKind.i64.wrap ((i:Int)+1)=((i+1:Nat):Int):=dC Om;simp only[go_sem,cw,f0];refine nA (O.frac l v T o a ha) (hH.at 0 rfl) rfl ?_;have X:=hH.set 0 rfl (bR v (fN l a).2);simp only[go_sem];refine aN fun p hp=>?_;have y:=X.new hp (.rows 3 [(fN l a).1.cells]);simp only[go_sem,cx,f8,f5,e1];have fin:∀ (d:PF) (H':PH),(dA o o4 o6 n left i).le d→d 12=some (.ptr p 3 0 0)→aM H' (rK o o4 o6 v u w M (fG l n i a).2++B++[(p,.rows 3 [(fG l n i a).1.cells])]) (vQ s u w M)→wpOps C KR (aC.wp C rest K) d H':=by
  intro d H' e R x;have q0:d 0=some (.ptr o 2 0 0):=e 0 _ (by unfold dA; simp only[go_sem]);have q4:d 4=some (.ptr o4 4 0 0):=e 4 _ (by unfold dA; simp only[go_sem]);have q5:d 5=some (.int .i64 n):=e 5 _ (by unfold dA; simp only[go_sem]);have q6:d 6=some (.ptr o6 4 0 0):=e 6 _ (by unfold dA; simp only[go_sem]);have q7:d 7=some (.int .i64 left):=e 7 _ (by unfold dA; simp only[go_sem]);have q8:d 8=some (.int .i64 i):=e 8 _ (by unfold dA; simp only[go_sem]);have g6:=x.at 2 rfl;have U:=x.AB;have V:(1:Nat)*3≤16777216:=by decide
  simp only[go_sem,KR,q6,g6,R,U,V];refine x.append 2 (src:=[(fG l n i a).1.cells]) rfl rfl (cr Om) fun E H2 W Z=>?_;rw[xS] at W Z; rw[mO] at Z;obtain⟨q,rfl⟩:=Z (by simp);have S:=W.at 2 rfl;simp only[go_sem,S,aYY,aZI,or_false,forall_eq];have h3:=W.set 2 rfl (cj u w (.osl q 3 0 (s.exit++[(fG l n i a).1]).length));refine hK _ _ _ (B++[(p,.rows 3 [(fG l n i a).1.cells])]) ?_ h3;unfold dA;exact Lq
 by_cases c:i+1<n
 ·have Q:((i+1:Nat):Int)<(n:Nat):=Om;have Y:=uM l ha;simp only[go_sem,Q,f0];refine dP O.toHI T (o:=o) (n:=3) (a:=(fN l a).2) (by decide) Y rfl (y.at 0 rfl) ?_;have A:=y.set 0 rfl (bR v (aG l 3 (fN l a).2).2);by_cases c3:(aG l 3 (fN l a).2).1=0
  ·have N:fG l n i a=(jW,(aG l 3 (fN l a).2).2):=by unfold fG; simp only[if_pos c,c3,if_true]
   have U:=aM.AB (B:=rK o o4 o6 v u w M (aG l 3 (fN l a).2).2++B) A;simp only[go_sem,bN (show (((aG l 3 (fN l a).2).1:Nat):Int)=0 by omega),cy];refine aA (O.int 0 (by unfold cK; omega)) rfl ?_;simp only[go_sem,U];refine fin _ _ ?_ rfl ?_
   ·unfold dA;exact Lq
   ·rw[N];exact aM.HB (B:=rK o o4 o6 v u w M (aG l 3 (fN l a).2).2++B) A (.rows 3 [jW.cells])
  ·have N:fG l n i a=((fN l a).1,(aG l 3 (fN l a).2).2):=by unfold fG; simp only[if_pos c,c3,if_false]
   simp only[go_sem,bD (show ¬ (((aG l 3 (fN l a).2).1:Nat):Int)=0 by omega)];refine fin _ _ ?_ rfl ?_
   ·unfold dA;exact Lq
   ·rw[N];exact A
 ·have Q:¬ ((i+1:Nat):Int)<(n:Nat):=Om;have N:fG l n i a=fN l a:=by unfold fG; simp only[if_neg c]
  simp only[go_sem,Q];refine fin _ _ ?_ rfl ?_
  ·unfold dA;exact Lq
  ·rw[N];exact y
def ayF (l:List Nat) (v:PV) (o eM a:Nat) (r:PV) (H:PH):Prop:=r=.agg (qY l eM a).1.cells∧H=PH.nil.set o (bR v (qY l eM a).2)
theorem avE {l:List (List RF)} (h:l.length≤1000):roomFor (uY l).length 1 24:=by
 unfold roomFor;simp only[aYN,maxLen]; omega
theorem avF (l:List (List RF)) (x:List RF):uY l++[[frs x]]=uY (l++[x]):=by simp[uY]
theorem anJ {C:Ctx} (Z:sT C) {l:List Nat} {v:PV} (T:Tp l v) (o o4 o6 n left i a:Nat) (ha:a≤l.length) (hn:n≤100) (hi:i<n) (s:DE) (hs:s.aXH.length=i) (u M A:PV) (B:List BX) (K:bT) (F:PF) (H:PH)
  (E:(dA o o4 o6 n left i).le F) (hH:aM H (rK o o4 o6 v u M A a++B) (vQ s u M A))
  (hK:∀ y x U H' B',(dA o o4 o6 n left i).le U→(∃ q,x=.osl q 3 0 n)→aM H' (rK o o4 o6 v u y A (dX l i a n).2++B') [(u,3,gI s.start),(y,1,uY s.aXH++[[x]]),(A,3,gI s.exit),(x,3,gI (dX l i a n).1)]→K .normal U H') :
  aC.wp C (.seq (.region cz) (.seq (.seq (.region c7) (.block 2 (.loop KQ))) (.region db))) K F H:=by
 have f0:F 0=some (.ptr o 2 0 0):=E 0 _ (by unfold dA; simp only[go_sem]);have f4:F 4=some (.ptr o4 4 0 0):=E 4 _ (by unfold dA; simp only[go_sem]);have f5:F 5=some (.int .i64 n):=E 5 _ (by unfold dA; simp only[go_sem]);have f6:F 6=some (.ptr o6 4 0 0):=E 6 _ (by unfold dA; simp only[go_sem]);have f7:F 7=some (.int .i64 left):=E 7 _ (by unfold dA; simp only[go_sem]);have f8:F 8=some (.int .i64 i):=E 8 _ (by unfold dA; simp only[go_sem]);simp only[go_sem,cz,c7];refine aCK (C:=C) Z T o o4 o6 n left i a ha hn hi ([(o4,Pt),(o6,cj u M A)]++B) (vQ s u M A) _ _ H ?_ hH ?_
 ·unfold fS
  (repeat' (first|exact c_|refine d_ ?_ ?_))<;>first|(simp only[go_sem,f0,f4,f5,f6,f7,f8]<;>rfl)|rfl
 intro w e H1 c p;have d:=fp l i a n;have hw:∃ q,w=.osl q 3 0 n:=by
  rcases p.own (v:=w) 3 rfl with ⟨J,_⟩ | ⟨q,rs,J,_⟩
  ·have:=congrArg List.length J;rw[mO,d] at this;simp at this; omega
  ·rw[mO,d] at J;exact⟨q,J⟩
 obtain⟨q,rfl⟩:=hw;have g0:e 0=some (.ptr o 2 0 0):=c 0 _ (by unfold fS; simp only[go_sem]);have g4:e 4=some (.ptr o4 4 0 0):=c 4 _ (by unfold fS; simp only[go_sem]);have g5:e 5=some (.int .i64 n):=c 5 _ (by unfold fS; simp only[go_sem]);have V:e 6=some (.ptr o6 4 0 0):=c 6 _ (by unfold fS; simp only[go_sem]);have g7:e 7=some (.int .i64 left):=c 7 _ (by unfold fS; simp only[go_sem]);have g8:e 8=some (.int .i64 i):=c 8 _ (by unfold fS; simp only[go_sem]);have O:e 13=some (.osl q 3 0 n):=c 13 _ (by unfold fS; simp only[go_sem]);have b6:=p.at 2 rfl;have Q:(1:Nat)*1≤16777216:=by decide
 simp only[go_sem,db,V,b6,O,Q,aYY,aZI,or_false,forall_eq];refine p.append 1 (src:=[[.osl q 3 0 n]]) rfl Sq (avE Om) fun y H2 W S=>?_;obtain⟨Y,rfl⟩:=S (by simp);have N:=W.at 2 rfl;simp only[go_sem,N,aYY,aZI,or_false,forall_eq];have X:=W.set 2 rfl (cj u (.osl Y 1 0 (uY s.aXH++[[PV.osl q 3 0 n]]).length) A);have R:(uY s.aXH++[[(PV.osl q 3 0 n:PV)]]).length=s.aXH.length+1:=by simp
 rw[R] at X ⊢;refine hK (.osl Y 1 0 (s.aXH.length+1)) (.osl q 3 0 n) _ _ B ?_ ⟨q,rfl⟩ X;unfold dA
 (repeat' (first|exact c_|refine d_ ?_ ?_))<;>first|(simp only[go_sem,g0,g4,g5,V,g7,g8]<;>rfl)|rfl
theorem aJT {C:Ctx} (J:sT C) {l:List Nat} {v:PV} (T:Tp l v) (o eM a:Nat) (hm:0<eM) (γ:eM≤50) (ha:a≤l.length):SI.wp C (aR aCJ.res (ayF l v o eM a)) (PF.args [.ptr o 2 0 0,.int .i64 eM]) (PH.nil.set o (bR v a)):=by
 have h0:aM (PH.nil.set o (bR v a)) [(o,bR v a)] []:=aM.nil.new (H:=PH.nil) rfl (bR v a);simp only[go_sem,SI,acQ,aCJ];refine aN fun o4 Z=>?_;have F:=h0.new Z Pt;simp only[go_sem,acR];refine dP J.toHI T (o:=o) (n:=eM) (a:=a) Om ha Sq (F.at 0 rfl) ?_;have h2:=F.set 0 rfl (bR v (aG l eM a).2);have hN:=cM l hm a;have X:=bW l eM ha;have e1:IntKind.i64.wrap (1+((aG l eM a).1:Int))=((1+(aG l eM a).1:Nat):Int):=by rw[wrap_i64 Om Om]; omega
 have Y:∀ s:DE,s=gE l (1+(aG l eM a).1) (aG l eM a).2 (1+(aG l eM a).1)→qY l eM a=(⟨[],s.start,s.aXH,s.exit⟩,s.a):=fun s hs=>by rw[hs]; rfl
 have W:∀ r H,ayF l v o eM a r H↔r=.agg (qY l eM a).1.cells∧H=PH.nil.set o (bR v (qY l eM a).2):=fun _ _=>Iff.rfl;generalize hn:1+(aG l eM a).1=n at *
 generalize hb:(aG l eM a).2=b at *
 have δ:0<n:=Om;have c:n≤100:=Om;simp only[go_sem,e1,acS];refine aN fun o6 β=>?_;have h3:=((h2.new β Pt).mY 3).mY 1;have h4:=h3.mY 3;simp only[go_sem,acT,acU];refine wp_loop (α:=Nat × PV × PV × PV × PH) (fun t=>dA o o4 o6 n (gE l n b t.1).left t.1) (fun t=>t.2.2.2.2)
  (fun t=>t.1≤n∧aM t.2.2.2.2 (rK o o4 o6 v t.2.1 t.2.2.1 t.2.2.2.1 (gE l n b t.1).a) (vQ (gE l n b t.1) t.2.1 t.2.2.1 t.2.2.2.1)) (fun t=>n-t.1) (0,.aB,.aB,.aB,_) ⟨aYS _,h4⟩ ?_ b_ ?_
 ·unfold dA
  (repeat' (first|exact c_|refine d_ ?_ ?_))<;>first|(simp only[go_sem,gE]<;>rfl)|rfl
 rintro⟨i,w1,K,M,H0⟩ ⟨hi,B⟩;simp only at hi B ⊢;obtain⟨k1,k2,k3,k4,k5⟩:=ww l n X i;simp only[go_sem,Qy,acV,dA];by_cases hlt:i<n
 ·have y:(i:Int)<(n:Nat):=Om;have A:gE l n b (i+1)=⟨(gE l n b i).start++[mkT ((dV l n i (gE l n b i)).1:Nat) 8],(gE l n b i).exit++[(fG l n i (dV l n i (gE l n b i)).2).1],(gE l n b i).aXH++[(dX l i (fG l n i (dV l n i (gE l n b i)).2).2 n).1],(gE l n b i).left-(dV l n i (gE l n b i)).1,(dX l i (fG l n i (dV l n i (gE l n b i)).2).2 n).2⟩:=rfl;have kl:=cl l n i (gE l n b i) k1;have ke:=Mn l n i kl.1;generalize hs:gE l n b i=s at *
  simp only[go_sem,y];refine atJ (C:=C) J T o o4 o6 n i s k1 k2 c hlt [(o4,Pt),(o6,cj w1 K M)] (vQ s w1 K M) _ _ _ H0 (by unfold dA; exact Lq) B ?_;intro F1 H1 N f9 R;refine anK (C:=C) (l:=l) J o o4 o6 n i _ (dV l n i s).1 (dV l n i s).2 Om hlt c s k3 w1 K M [] _ _ F1 H1 N f9 R ?_;intro d F2 H2 B2 O S;refine atI (C:=C) J T o o4 o6 n i _ (dV l n i s).2 kl.1 hlt c { s with start:=s.start++[mkT ((dV l n i s).1:Nat) 8] } k4 d K M B2 _ _ F2 H2 O S ?_;intro e F3 H3 B3 Q U;refine anJ (C:=C) J T o o4 o6 n _ i (fG l n i (dV l n i s).2).2 ke c hlt { s with start:=s.start++[mkT ((dV l n i s).1:Nat) 8],exit:=s.exit++[(fG l n i (dV l n i s).2).1] } k5 d K e B3 _ F3 H3 Q U ?_;rintro u ε E H4 B4 p ⟨q,rfl⟩ V;have g0:E 0=some (.ptr o 2 0 0):=p 0 _ (by unfold dA; simp only[go_sem]);have g4:E 4=some (.ptr o4 4 0 0):=p 4 _ (by unfold dA; simp only[go_sem]);have g5:E 5=some (.int .i64 n):=p 5 _ (by unfold dA; simp only[go_sem]);have g6:E 6=some (.ptr o6 4 0 0):=p 6 _ (by unfold dA; simp only[go_sem]);have g7:E 7=some (.int .i64 (s.left-(dV l n i s).1:Nat)):=p 7 _ (by unfold dA; simp only[go_sem]);have g8:E 8=some (.int .i64 i):=p 8 _ (by unfold dA; simp only[go_sem]);obtain⟨rs,z1,z2,z3,z4,z5⟩:=V.frz 3 rfl;have y1:=z4 0 _ (by decide) rfl;have y2:=z4 1 _ (by decide) rfl;have y3:=z4 2 _ (by decide) rfl;simp only at y1 y2 y3;have y4:=T.frz q 3 rs;simp only[go_sem,Q3,g8,wZz i];refine Cf (i+1,d,u,e,H4.frz q 3 rs) z1 ⟨hlt,?_⟩ (by simp only; omega) ?_ b_
  ·rw[A];have eB:(rK o o4 o6 v d u e (dX l i (fG l n i (dV l n i s).2).2 n).2).map (fun b=>(b.1,b.2.frz q 3 rs))=rK o o4 o6 v d u e (dX l i (fG l n i (dV l n i s).2).2 n).2:=by simp only[a0D,a0X,cF.frz,y1,y2,y3,y4];rfl
   have eL:([(d,3,gI (s.start++[mkT ((dV l n i s).1:Nat) 8])),(u,1,uY s.aXH++[[.osl q 3 0 n]]),(e,3,gI (s.exit++[(fG l n i (dV l n i s).2).1]))]:List LI).map (fun x=>(x.1,x.2.1,x.2.2.map fun r=>r.map (PV.dK q 3 rs))) =
     vQ ⟨s.start++[mkT ((dV l n i s).1:Nat) 8],s.exit++[(fG l n i (dV l n i s).2).1],s.aXH++[(dX l i (fG l n i (dV l n i s).2).2 n).1],s.left-(dV l n i s).1,(dX l i (fG l n i (dV l n i s).2).2 n).2⟩ d u e:=by
    have e2:(uY s.aXH++[[PV.osl q 3 0 n]]).map (fun r=>r.map (PV.dK q 3 rs))=uY (s.aXH++[(dX l i (fG l n i (dV l n i s).2).2 n).1]):=by rw[aZO,Ez,a0D,a0X,a0D,a0X,z2,avF]
    show ([(d,3,(gI (s.start++[mkT ((dV l n i s).1:Nat) 8])).map (fun r=>r.map (PV.dK q 3 rs))),(u,1,(uY s.aXH++[[PV.osl q 3 0 n]]).map (fun r=>r.map (PV.dK q 3 rs))),(e,3,(gI (s.exit++[(fG l n i (dV l n i s).2).1])).map (fun r=>r.map (PV.dK q 3 rs)))]:List LI)=_;rw[IZ,e2,IZ]
   rw[← eB,← eL];exact z5.sub (by rw[aZO]; exact List.sublist_append_left ..) (a0U.refl _)
  ·rw[A]
   (repeat' (first|exact c_|refine d_ ?_ ?_))<;>first|(simp only[go_sem,g0,g4,g5,g6,g7,g8]<;>rfl)|rfl
 ·have y:¬ (i:Int)<(n:Nat):=Om;have:i=n:=Om;subst this;simp only[go_sem,y,Q4];have b4:=B.at 1 rfl;have b6:=B.at 2 rfl;have osl:∀ {w:PV} {z:Nat} {rows:List (List PV)},rows.length=i→bU H0 z w rows→∃ q,w=.osl q z 0 i:=by
   intro w z rows hr hO;rcases hO with ⟨F,_⟩ | ⟨q,rs,F,_⟩
   ·rw[F] at hr; simp at hr; omega
   ·exact⟨q,by rw[F,hr]⟩
  obtain⟨q1,rfl⟩:=osl (by rw[mO,k3]) (B.own 0 rfl);obtain⟨q2,rfl⟩:=osl (by rw[aYN,k5]) (B.own 1 rfl);obtain⟨q3,rfl⟩:=osl (by rw[mO,k4]) (B.own 2 rfl);have hR:=Y (gE l i b i) rfl;simp only[go_sem,b6,b4,aYY,aZI,or_false,forall_eq,forall_eq_or_imp];have x1:=B.set 1 rfl (cj (.osl q1 3 0 i) (.osl q2 1 0 i) (.osl q3 3 0 i));obtain⟨r1,s1,s2,s3,s4,s5⟩:=x1.frz 0 rfl;have u2:=s4 1 _ (by decide) rfl;have u3:=s4 2 _ (by decide) rfl;simp only at u2 u3;have u4:=T.frz q1 3 r1;obtain⟨r2,t1,t2,t3,t4,t5⟩:=s5.frz 0 rfl;have m3:=t4 1 _ (by decide) rfl;simp only at m3;have m4:=T.frz q2 1 r2;obtain⟨r3,n1,n2,n3,n4,n5⟩:=t5.frz 0 rfl;have n4:=T.frz q3 3 r3;refine zQ (vs:=[.agg [.str [],.osl q1 3 0 i,.osl q2 1 0 i,.osl q3 3 0 i]]) (.inr rfl) ?_ (.step s1 (.step t1 (.step n1 (.done (H2:=PH.nil.set o (bR v (gE l i b i).a)) ?_ (PH.aK a_ ?_)))))
  ·simp only[go_sem]
  ·rw[W,hR];refine⟨?_,rfl⟩;simp only[bL,PV.frz,PV.tC,a0D,a0X,s2,u2,u3,t2,m3,n2];simp only[PV.dK,IZ _ _ _ _,Ez _ _ _ _]
  ·have:=n5.at 0 rfl;rw[this];simp only[cF.frz,a0D,a0X,u4,m4,n4];rfl
structure nH (C:Ctx):Prop extends sT C where
 law:∀ (l:List Nat) (v:PV),Tp l v→∀ (o eM a:Nat),0<eM→eM≤50→a≤l.length→aH C 2 [.ptr o 2 0 0,.int .i64 eM] (PH.nil.set o (bR v a)) (ayF l v o eM a)
structure GOk (l:List Nat) (aXC:Nat) (s:GS):Prop where
 aXL:s.aXL.length≤35
 aXV:s.aXV.length≤aXC
 a:s.a≤l.length
theorem bo {l:List Nat} {mc aXC dom:Nat} {s:GS} (h:GOk l aXC s):∀ i,GOk l aXC (jV l mc aXC dom s i)∧(jV l mc aXC dom s i).aXL=s.aXL
 | 0=>⟨h,rfl⟩
 | i+1=>by
  obtain⟨⟨c,p,d⟩,e⟩:=bo (mc:=mc) (dom:=dom) h i;simp only[jV];split
  ·exact⟨⟨c,by simp only[aYU,aZB]; omega,bW l mc d⟩,e⟩
  ·exact⟨⟨c,p,d⟩,e⟩
theorem Zp {l:List Nat} {level dom aXC:Nat} {s:GS} (h:GOk l aXC s) (c:qG aXC s=false):GOk l aXC (nJ l level dom s)∧∃ x:cE,(nJ l level dom s).aXL=s.aXL++[x]∧x.level=(level:Int)∧x.parent=(dom:Int):=by
 obtain⟨i,d,e⟩:=h;unfold qG at c;rw[Bool.or_eq_false_iff] at c;have p:=of_decide_eq_false c.2;refine⟨⟨?_,d,?_⟩,_,rfl,rfl,rfl⟩
 ·simp only[nJ,aYU,aZB]; omega
 ·have a1:=bW l 3 (bW l 16 e);simp only[nJ];split
  ·exact bW l 6 a1
  ·exact a1
theorem br {l:List Nat} {level aXC dom:Nat} {rec:Nat→GS→GS} (c:∀ d t,GOk l aXC t→GOk l aXC (rec d t)∧∃ u,(rec d t).aXL=t.aXL++u) {s:GS} (h:GOk l aXC s) :
  ∀ i,GOk l aXC (gP l level aXC dom rec s i)∧∃ u,(gP l level aXC dom rec s i).aXL=s.aXL++u
 | 0=>⟨h,[],by simp[gP]⟩
 | i+1=>by
  obtain⟨e,u,p⟩:=br c h i;simp only[gP];split
  ·exact⟨e,u,p⟩
  ·rename_i w;obtain⟨g1,x,g2,-⟩:=Zp (level:=level) (dom:=dom) e (by simpa using w);obtain⟨k1,y,k2⟩:=c ((nJ l level dom (gP l level aXC dom rec s i)).aXL.length-1) _ g1;exact⟨k1,u++[x]++y,by rw[k2,g2,p]; simp⟩
theorem bu {l:List Nat} {mc aXC:Nat}:∀ (k dom:Nat) {s:GS},GOk l aXC s→GOk l aXC (fA l mc aXC k dom s)∧∃ u,(fA l mc aXC k dom s).aXL=s.aXL++u
 | 0,dom,s,h=>by have c:GOk l aXC { s with a:=(aG l 2 s.a).2 }:=⟨h.aXL,h.aXV,bW l 2 h.a⟩;obtain⟨e,i⟩:=bo (mc:=mc) (dom:=dom) c (1+(aG l 2 s.a).1);exact⟨e,[],by simp only[fA]; rw[i]; simp⟩
 | k+1,dom,s,h=>by have c:GOk l aXC { s with a:=(aG l 2 s.a).2 }:=⟨h.aXL,h.aXV,bW l 2 h.a⟩;exact br (level:=4-k) (dom:=dom) (fun d t p=>bu k d p) c (if 4-k=2 then 1 else 1+(aG l 2 s.a).1)
theorem amM {l : List Nat} {level aXC dom : Nat} {rec : Nat → GS → GS} {s : GS} {i : Nat} (h : qG aXC (gP l level aXC dom rec s i) = true) : ∀ n, i ≤ n → gP l level aXC dom rec s n = gP l level aXC dom rec s i := by
  intro n hn
  induction n with
  | zero => have : i = 0 := Om
            subst this; rfl
  | succ n ih =>
    rcases aZL n i with h' | h'
    · have : i = n + 1 := Om
      subst this; rfl
    · have e := ih h'
      simp only [gP];rw [e, if_pos h]
def mkS (l:List Nat) (v:PV):Spec:=fun name vs=>match name,vs with
 | 29,[.str s,.int _ i]=>some ([],fun _=>aF (.str (s++cB i.toNat)))
 | 47,[.int _ n]=>some ([],fun _=>aF (.agg (mkT n 1).cells))
 | 4,[.ptr o _ _ _,.int _ n]=>some ([o],fun c r H'=>∀ a,c o=some (bR v a)→ie l v o n.toNat a r H')
 | _,_=>none
section
variable {C:Ctx} {F:PF} {H Hs:PH} {l:List Nat} {v:PV} {o a:Nat}
theorem rS (u:HI C) (T:Tp l v) {n:Nat} {st:Bool} {args:List aQ} {d:Option Nat} {K:PF→PH→Prop} (B:n≤1000000) (w:a≤l.length) (e:aQ.evs F args=some [.ptr o 2 0 0,.int .i64 n]) (E:H o=some (bR v a))
  (i:Hs.le (H.set o (bR v (aG l n a).2))) (A:K (F.put d (.int .i64 ((aG l n a).1:Nat))) (H.set o (bR v (aG l n a).2))):dOp C Hs (mkS l v) st (.call 4 args) d K F H:=by
 refine azL (x:=bR v a) (y:=bR v (aG l n a).2) (r:=.int .i64 ((aG l n a).1:Nat)) (R:=fun p r H'=>∀ a,p o=some (bR v a)→ie l v o n a r H') rfl E (u.next l v T o n a B w) ?_ ?_ e i A
 ·intro b c;rw[cR] at c;injection c with c
  injection c with _ c
  injection c with c _
  injection c with _ c
  injection c with c _
  injection c with _ c
  have:a=b:=Om;subst this;exact⟨rfl,rfl⟩
 ·intro M H' J;exact J a (by rw[cR])
theorem IL (i:sT C) {s:List UInt8} {n:Nat} {st:Bool} {args:List aQ} {d:Option Nat} {K:PF→PH→Prop} (w:s.length≤100) (u:n<100) (c:aQ.evs F args=some [.str s,.int .i64 n]) (e:Hs.le H) (p:K (F.put d (.str (s++cB n))) H) :
  dOp C Hs (mkS l v) st (.call 29 args) d K F H :=
 bP (v:=.str (s++cB n)) rfl (i.name s n w u) c e p
theorem aHN (i:HI C) {n:Int} {st:Bool} {args:List aQ} {d:Option Nat} {K:PF→PH→Prop} (u:cK n) (c:aQ.evs F args=some [.int .i64 n]) (e:Hs.le H) (p:K (F.put d (.agg (mkT n 1).cells)) H) :
  dOp C Hs (mkS l v) st (.call 47 args) d K F H :=
 bP (v:=.agg (mkT n 1).cells) rfl (i.int n u) c e p
end
theorem bU.tF {H:PH} {s:Nat} {v:PV} {rows:List (List PV)} (h:bU H s v rows):PV.tF v=some (.int .i64 (rows.length:Nat)):=by
 rcases h with ⟨rfl,rfl⟩ | ⟨q,rs,rfl,_⟩<;>rfl
abbrev kF (l:List cE):List (List PV):=l.map cE.cells
abbrev mM (l:List dL):List (List PV):=l.map dL.cells
abbrev flB (ext wl d c e wp wv:PV):cF:=.rows 7 [[ext,wl,d,c,e,wp,wv]]
structure GE where
 o:Nat
 fo:Nat
 qm:Nat
 ext:PV
 wl:PV
 wp:PV
 wv:PV
abbrev GE.boxes (G:GE) (v:PV) (mc:Nat) (c d:PV) (a:Nat):List BX:=[(G.o,bR v a),(G.fo,flB G.ext G.wl (.osl G.qm 4 0 mc) c d G.wp G.wv)]
abbrev lW (s:GS) (c d:PV):List LI:=[(c,7,kF s.aXL),(d,3,mM s.aXV)]
def fH (G:GE) (dom aXC level n i:Nat):PF:=(((((((PF.nil.set 0 (.ptr G.o 2 0 0)).set 1 (.ptr G.fo 7 0 0)).set 2 (.int .i64 dom)).set 3 (.int .i64 aXC)).set 8 (.int .i64 level)).set 9 (.int .i64 n)).set 10 (.int .i64 i))
theorem bU.one {H:PH} {s:Nat} {v:PV} {rows:List (List PV)} (h:bU H s v rows) (c:0<rows.length):∃ q,v=.osl q s 0 rows.length:=by
 rcases h with ⟨rfl,_⟩ | ⟨q,rs,rfl,_⟩
 ·simp at c
 ·exact⟨q,rfl⟩
theorem Ql {C:Ctx} (Q:nH C) {l:List Nat} {v:PV} (T:Tp l v) (G:GE) (mc aXC dom n:Nat) (γ:0<mc) (W:mc≤1000) (β:aXC≤60) (hn:n≤10) (s:GS) (hs:GOk l aXC s) (p w:PV) (K:bT) (F:PF) (H:PH)
  (Z:(fH G dom aXC 5 n 0).le F) (u:aM H (G.boxes v mc p w s.a) (lW s p w))
  (hK:∀ E y X H',aM H' (G.boxes v mc E y (jV l mc aXC dom s n).a) (lW (jV l mc aXC dom s n) E y)→K (.exit 0) X H') :
  aC.wp C (.loop wM) K F H:=by
 refine wp_loop (α:=Nat × PV × PV × PH) (fun t=>fH G dom aXC 5 n t.1) (fun t=>t.2.2.2) (fun t=>t.1≤n∧aM t.2.2.2 (G.boxes v mc t.2.1 t.2.2.1 (jV l mc aXC dom s t.1).a) (lW (jV l mc aXC dom s t.1) t.2.1 t.2.2.1)) (fun t=>n-t.1) (0,p,w,H) ⟨aYS _,u⟩ Z b_ ?_;rintro⟨i,p,w,O⟩ ⟨hi,u⟩;simp only at hi u ⊢;obtain⟨M,-⟩:=bo (mc:=mc) (dom:=dom) hs i;have c:jV l mc aXC dom s (i+1)=(if (jV l mc aXC dom s i).aXV.length<aXC then { jV l mc aXC dom s i with aXV:=(jV l mc aXC dom s i).aXV++[⟨[100]++cB (jV l mc aXC dom s i).aXV.length,((aG l mc (jV l mc aXC dom s i).a).1:Nat),(dom:Nat)⟩],a:=(aG l mc (jV l mc aXC dom s i).a).2 } else jV l mc aXC dom s i):=rfl;simp only[go_sem,wM,cp,fH];by_cases hlt:i<n
 ·have d:(i:Int)<(n:Nat):=Om;generalize hg:jV l mc aXC dom s i=g at *
  have b1:=u.at 1 rfl;have N:=(u.own 1 rfl).tF;rw[aYN] at N;have R:=wZz i;simp only[go_sem,d,cq,show (((5:Nat):Int)==5)=true from rfl,Qr,b1,N];by_cases V:g.aXV.length<aXC
  ·have x:(g.aXV.length:Int)<(aXC:Nat):=Om;rw[if_pos V] at c;simp only[go_sem,x];have B:(PH.nil.set G.fo (flB G.ext G.wl (.osl G.qm 4 0 mc) p w G.wp G.wv)).le O:=PH.aK a_ b1;refine bO (PH.nil.set G.fo (flB G.ext G.wl (.osl G.qm 4 0 mc) p w G.wp G.wv)) (mkS l v) B ?_;simp only[go_sem,Qs,b1,N];refine IL Q.tosT (s:=[100]) (n:=g.aXV.length) (by decide) (by have:=M.aXV; omega) rfl B ?_;simp only[go_sem];have ho:=u.at 0 rfl;have S:=u.set 0 rfl (bR v (aG l mc g.a).2);have J:=S.at 1 rfl;refine rS Q.toHI T (o:=G.o) (n:=mc) (a:=g.a) Om M.a rfl ho (PH.aK a_ J) ?_;have A:(1:Nat)*3≤16777216:=by decide
   simp only[go_sem,A,aYY,aZI,or_false,forall_eq,forall_eq_or_imp];refine S.append 1 (src:=[(⟨[100]++cB g.aXV.length,((aG l mc g.a).1:Nat),(dom:Nat)⟩:dL).cells]) rfl rfl (by unfold roomFor; rw[aYN]; have:=M.aXV; simp only[aZB,maxLen]; omega) fun y H2 U hw=>?_;obtain⟨q,rfl⟩:=hw (by simp);have b2:=U.at 1 rfl;refine⟨PH.aK a_ b2,?_⟩;refine bO .nil dT a_ ?_;simp only[go_sem,Qt,b2,aYY,aZI,or_false,forall_eq];have Y:=U.set 1 rfl (flB G.ext G.wl (.osl G.qm 4 0 mc) p (.osl q 3 0 (mM g.aXV++[(⟨[100]++cB g.aXV.length,((aG l mc g.a).1:Nat),(dom:Nat)⟩:dL).cells]).length) G.wp G.wv);refine⟨a_,?_⟩;simp only[go_sem,wN,R];refine aD (i+1,p,.osl q 3 0 (mM g.aXV++[(⟨[100]++cB g.aXV.length,((aG l mc g.a).1:Nat),(dom:Nat)⟩:dL).cells]).length,_) ⟨hlt,?_⟩ (by simp only; omega) ?_ b_
   ·rw[c];have e:mM (g.aXV++[(⟨[100]++cB g.aXV.length,((aG l mc g.a).1:Nat),(dom:Nat)⟩:dL)])=mM g.aXV++[(⟨[100]++cB g.aXV.length,((aG l mc g.a).1:Nat),(dom:Nat)⟩:dL).cells]:=by simp[mM]
    unfold lW;simp only;rw[e];exact Y
   ·exact Lq
  ·have x:¬ (g.aXV.length:Int)<(aXC:Nat):=Om;rw[if_neg V] at c;simp only[go_sem,x,wN,R];refine aD (i+1,p,w,O) ⟨hlt,by rw[c]; exact u⟩ (by simp only; omega) ?_ b_;exact Lq
 ·have d:¬ (i:Int)<(n:Nat):=Om;have:i=n:=Om;subst this;simp only[go_sem,d];exact hK p w _ _ u
def akC (G:GE) (v:PV) (mc:Nat) (s':GS) (r:PV) (B':List BX) (L':List LI):Prop:=r=.tup []∧∃ c d,B'=G.boxes v mc c d s'.a∧L'=lW s' c d
def ic (C:Ctx) (l:List Nat) (v:PV) (mc aXC k:Nat):Prop :=
 ∀ (G:GE) (d e:PV) (s:GS) (dom:Nat) (x:cE),GOk l aXC s→s.aXL[dom]?=some x→x.level=4-(k:Int)→∀ c,aM c (G.boxes v mc d e s.a) (lW s d e) →
  aH C 7 [.ptr G.o 2 0 0,.ptr G.fo 7 0 0,.int .i64 dom,.int .i64 aXC] c (fun r H'=>∃ B' L',akC G v mc (fA l mc aXC k dom s) r B' L'∧aM H' B' L')
theorem asX {lv:Nat} (h:lv≤4):([45,115,114,107,109]:List UInt8)[lv]?=some (lJ lv):=by
 match lv,h with
 | 0,_=>rfl
 | 1,_=>rfl
 | 2,_=>rfl
 | 3,_=>rfl
 | 4,_=>rfl
theorem XP {C:Ctx} {l:List Nat} {v:PV} (G:GE) (mc aXC dom lv n i k p:Nat) (β:lv=4-k) (hk:k<4) (w:ic C l v mc aXC k) (g:GS) (x:cE) (a:Nat) (U:GOk l aXC { g with aXL:=g.aXL++[x],a:=a }) (hx:x.level=(lv:Nat)) (V u:PV) (α:aXC≤60) (K:bT) (F:PF) (H:PH)
  (c:(fH G dom aXC lv n i).le F) (f11:F 11=some (.ptr p 7 0 0)) (E:aM H (G.boxes v mc V u a++[(p,.rows 7 [x.cells])]) (lW g V u))
  (hK:∀ d y R H',(fH G dom aXC lv n i).le R→aM H' (G.boxes v mc d y (fA l mc aXC k g.aXL.length { g with aXL:=g.aXL++[x],a:=a }).a) (lW (fA l mc aXC k g.aXL.length { g with aXL:=g.aXL++[x],a:=a }) d y)→K .normal R H') :
  aC.wp C (.draw SG) (gS C (aC.wp C (.region SH)) K) F H:=by
 have f0:F 0=some (.ptr G.o 2 0 0):=c 0 _ (by unfold fH; simp only[go_sem]);have f1:F 1=some (.ptr G.fo 7 0 0):=c 1 _ (by unfold fH; simp only[go_sem]);have f2:F 2=some (.int .i64 dom):=c 2 _ (by unfold fH; simp only[go_sem]);have f3:F 3=some (.int .i64 aXC):=c 3 _ (by unfold fH; simp only[go_sem]);have f8:F 8=some (.int .i64 lv):=c 8 _ (by unfold fH; simp only[go_sem]);have f9:F 9=some (.int .i64 n):=c 9 _ (by unfold fH; simp only[go_sem]);have Z:F 10=some (.int .i64 i):=c 10 _ (by unfold fH; simp only[go_sem]);have N:=U.aXL;simp only[aYU,aZB] at N;have b1:=E.at 1 rfl;have b2:=E.at 2 rfl;have A:(1:Nat)*7≤16777216:=by decide
 refine bO .nil dT a_ ?_;simp only[go_sem,SG,f1,f11,b1,b2,A,aYY,aZI,or_false,forall_eq,forall_eq_or_imp];refine E.append 0 (src:=[x.cells]) rfl rfl (by unfold roomFor; rw[aYN]; simp only[aZB,maxLen]; omega) fun d H2 B hw=>?_;obtain⟨q,rfl⟩:=hw (by simp);have hl:(kF g.aXL++[x.cells]).length=g.aXL.length+1:=by simp
 rw[hl] at B ⊢;have X:=B.at 1 rfl;refine⟨a_,?_⟩;simp only[go_sem,X,aYY,aZI,or_false,forall_eq];have S:=B.set 1 rfl (flB G.ext G.wl (.osl G.qm 4 0 mc) (.osl q 7 0 (g.aXL.length+1)) u G.wp G.wv);have c2:=S.at 1 rfl;refine⟨a_,?_⟩;have e:kF (g.aXL++[x])=kF g.aXL++[x.cells]:=by simp[kF]
 have Y:IntKind.i64.wrap (((g.aXL.length+1:Nat):Int)-1)=(g.aXL.length:Int):=by rw[wrap_i64 Om Om]; omega
 simp only[go_sem,SH,f0,f1,f3,Y];have h4:aM (H2.set G.fo (flB G.ext G.wl (.osl G.qm 4 0 mc) (.osl q 7 0 (g.aXL.length+1)) u G.wp G.wv)) (G.boxes v mc (.osl q 7 0 (g.aXL.length+1)) u a++[(p,.rows 7 [x.cells])]) (lW { g with aXL:=g.aXL++[x],a:=a } (.osl q 7 0 (g.aXL.length+1)) u++[]):=by unfold lW;simp only;rw[e];exact S
 refine FX h4 (fun W M=>w G _ u { g with aXL:=g.aXL++[x],a:=a } g.aXL.length x U (by simp) (by rw[hx]; omega) W M) rfl ?_;rintro r B' L' H' ⟨rfl,O,Q,rfl,rfl⟩ J;refine hK O Q _ _ ?_ (J.sub (List.sublist_append_left ..) (by rw[a0M]; exact a0U.refl _));unfold fH;exact Lq
theorem PK {C:Ctx} (U:nH C) {l:List Nat} {v:PV} (T:Tp l v) (G:GE) (mc aXC dom n k:Nat) (hk:k<4) (W:aXC≤60) (hn:n≤10) (Q:ic C l v mc aXC k) (s:GS) (hs:GOk l aXC s) (ζ:0<s.aXL.length) (N O:PV) (K:bT) (F:PF) (H:PH)
  (hF:(fH G dom aXC (4-k) n 0).le F) (B:aM H (G.boxes v mc N O s.a) (lW s N O))
  (Z:∀ e y A x H',(e=.exit 0∨e=.ret)→aM H' (G.boxes v mc y A (gP l (4-k) aXC dom (fA l mc aXC k) s n).a) (lW (gP l (4-k) aXC dom (fA l mc aXC k) s n) y A)→K e x H') :
  aC.wp C (.loop wM) K F H:=by
 obtain⟨lv,S⟩:∃ lv,lv=4-k:=⟨_,rfl⟩;rw[← S] at hF Z;refine wp_loop (α:=Nat × PV × PV × PH) (fun t=>fH G dom aXC lv n t.1) (fun t=>t.2.2.2) (fun t=>t.1≤n∧aM t.2.2.2 (G.boxes v mc t.2.1 t.2.2.1 (gP l lv aXC dom (fA l mc aXC k) s t.1).a) (lW (gP l lv aXC dom (fA l mc aXC k) s t.1) t.2.1 t.2.2.1)) (fun t=>n-t.1) (0,N,O,H) ⟨aYS _,B⟩ hF b_ ?_;rintro⟨i,N,O,H0⟩ ⟨hi,B⟩;simp only at hi B ⊢;obtain⟨Y,u,gu⟩:=br (level:=lv) (dom:=dom) (fun d t ht=>bu (mc:=mc) k d ht) hs i;have J:=fun h=>amM (l:=l) (level:=lv) (aXC:=aXC) (dom:=dom) (rec:=fA l mc aXC k) (s:=s) (i:=i) h n hi;have w:gP l lv aXC dom (fA l mc aXC k) s (i+1)=(if qG aXC (gP l lv aXC dom (fA l mc aXC k) s i) then gP l lv aXC dom (fA l mc aXC k) s i else fA l mc aXC k ((nJ l lv dom (gP l lv aXC dom (fA l mc aXC k) s i)).aXL.length-1) (nJ l lv dom (gP l lv aXC dom (fA l mc aXC k) s i))):=rfl;simp only[go_sem,wM,cp,fH];by_cases hlt:i<n
 ·have M:(i:Int)<(n:Nat):=Om;generalize hg:gP l lv aXC dom (fA l mc aXC k) s i=g at *
  have ε:0<g.aXL.length:=by rw[gu,aYU]; omega
  have b1:=B.at 1 rfl;have lr:=(B.own 1 rfl).tF;have ld:=(B.own 0 rfl).tF;rw[aYN] at lr ld;have ei:=wZz i;simp only[go_sem,M,cq,bD (Om:((lv:Nat):Int)≠5),Cw,b1,lr];by_cases c1:aXC≤g.aXV.length
  ·have V:qG aXC g=true:=by unfold qG; simp[c1]
   simp only[go_sem,show (g.aXV.length:Int)≥(aXC:Nat) by omega];exact Z _ N O _ _ (.inr rfl) (by rw[J V]; exact B)
  simp only[go_sem,show ¬ (g.aXV.length:Int)≥(aXC:Nat) by omega,b1,ld];by_cases c2:35≤g.aXL.length
  ·have V:qG aXC g=true:=by unfold qG; simp[c2]
   simp only[go_sem,show (g.aXL.length:Int)≥35 by omega];exact Z _ N O _ _ (.inr rfl) (by rw[J V]; exact B)
  have V:qG aXC g=false:=by unfold qG; simp[c1,c2]
  rw[if_neg (by rw[V]; decide)] at w;simp only[go_sem,show ¬ (g.aXL.length:Int)≥35 by omega];have ls:=asX (Om:lv≤4);refine bO .nil (mkS l v) a_ ?_;have γ:pR [[PV.int IntKind.u8 (((lJ lv).toNat:Nat):Int)]]=some [lJ lv]:=by simp[pR]
  obtain⟨X,x0,β,-⟩:=Zp (level:=lv) (dom:=dom) Y V;have δ:(nJ l lv dom g).aXL.length-1=g.aXL.length:=by rw[β]; simp
  rw[δ] at w;have h1:=B.set 0 rfl (bR v (aG l 16 g.a).2);have a1:=bW l 16 Y.a;have n1:=cM l (show 0<16 by decide) g.a;have e1:IntKind.i64.wrap (1+((aG l 16 g.a).1:Int))=((1+(aG l 16 g.a).1:Nat):Int):=by rw[wrap_i64 Om Om]; omega
  simp only[go_sem,Cx,ls,γ,b1,ld];refine IL U.tosT (s:=[lJ lv]) (n:=g.aXL.length) (by simp) (by have:=Y.aXL; omega) rfl a_ ?_;simp only[go_sem];refine rS U.toHI T (o:=G.o) (n:=16) (a:=g.a) Om Y.a rfl (B.at 0 rfl) a_ ?_;simp only[go_sem,e1];refine aHN U.toHI (n:=0) (by unfold cK; omega) rfl a_ ?_;simp only[go_sem,aYY,aZI,or_false,forall_eq,forall_eq_or_imp];refine aN fun p hp=>?_;have h2:=h1.new hp (.rows 7 [(⟨[lJ lv]++cB g.aXL.length,(lv:Nat),(dom:Nat),(1+(aG l 16 g.a).1:Nat),jW⟩:cE).cells]);simp only[go_sem,aYY,aZI,or_false,forall_eq,forall_eq_or_imp];refine⟨a_,?_⟩;simp only[go_sem,Cy];refine dP U.toHI T (o:=G.o) (n:=3) (a:=(aG l 16 g.a).2) (by decide) a1 rfl (h2.at 0 rfl) ?_;have h3:=h2.set 0 rfl (bR v (aG l 3 (aG l 16 g.a).2).2);have a2:=bW l 3 a1;by_cases c3:(aG l 3 (aG l 16 g.a).2).1=0
  ·have hd:nJ l lv dom g={ g with aXL:=g.aXL++[⟨[lJ lv]++cB g.aXL.length,(lv:Nat),(dom:Nat),(1+(aG l 16 g.a).1:Nat),mkT 1 ((2+(aG l 6 (aG l 3 (aG l 16 g.a).2).2).1:Nat):Int)⟩],a:=(aG l 6 (aG l 3 (aG l 16 g.a).2).2).2 }:=by unfold nJ; simp only[c3,if_true]
   rw[hd] at w X;have n2:=cM l (show 0<6 by decide) (aG l 3 (aG l 16 g.a).2).2;have e2:IntKind.i64.wrap (2+((aG l 6 (aG l 3 (aG l 16 g.a).2).2).1:Int))=((2+(aG l 6 (aG l 3 (aG l 16 g.a).2).2).1:Nat):Int):=by rw[wrap_i64 Om Om]; omega
   simp only[go_sem,bN (show (((aG l 3 (aG l 16 g.a).2).1:Nat):Int)=0 by omega),Cz];refine dP U.toHI T (o:=G.o) (n:=6) (a:=(aG l 3 (aG l 16 g.a).2).2) (by decide) a2 rfl (h3.at 0 rfl) ?_;have h4:=h3.set 0 rfl (bR v (aG l 6 (aG l 3 (aG l 16 g.a).2).2).2);rw[PH.set_set] at h4;simp only[go_sem,e2];refine aA (U.fmk 1 ((2+(aG l 6 (aG l 3 (aG l 16 g.a).2).2).1:Nat):Int) (by unfold cK; omega) (by unfold cK; omega)) rfl ?_;unfold rG;rw[if_neg Om];simp only[go_sem,show ¬ p=G.o from h4.ne 2 0 rfl rfl (by decide)];have h5:=h4.set 2 rfl (.rows 7 [(⟨[lJ lv]++cB g.aXL.length,(lv:Nat),(dom:Nat),(1+(aG l 16 g.a).1:Nat),mkT 1 ((2+(aG l 6 (aG l 3 (aG l 16 g.a).2).2).1:Nat):Int)⟩:cE).cells])
   try simp only[y9]
   refine XP G mc aXC dom lv n i k p S hk Q g _ _ X rfl N O W _ _ _ (by unfold fH; exact Lq) rfl h5 ?_;intro y A x H' c E;rw[← w] at E;have R:x 10=some (.int .i64 i):=c 10 _ (by unfold fH; simp only[go_sem]);have g0:x 0=some (.ptr G.o 2 0 0):=c 0 _ (by unfold fH; simp only[go_sem]);have g1:x 1=some (.ptr G.fo 7 0 0):=c 1 _ (by unfold fH; simp only[go_sem]);have g2:x 2=some (.int .i64 dom):=c 2 _ (by unfold fH; simp only[go_sem]);have g3:x 3=some (.int .i64 aXC):=c 3 _ (by unfold fH; simp only[go_sem]);have g8:x 8=some (.int .i64 lv):=c 8 _ (by unfold fH; simp only[go_sem]);have g9:x 9=some (.int .i64 n):=c 9 _ (by unfold fH; simp only[go_sem]);simp only[go_sem,wN,R,ei];refine aD (i+1,y,A,H') ⟨hlt,E⟩ (by simp only; omega) ?_ b_;exact Lq
  ·have hd:nJ l lv dom g={ g with aXL:=g.aXL++[⟨[lJ lv]++cB g.aXL.length,(lv:Nat),(dom:Nat),(1+(aG l 16 g.a).1:Nat),jW⟩],a:=(aG l 3 (aG l 16 g.a).2).2 }:=by unfold nJ; simp only[c3,if_false]
   rw[hd] at w X;simp only[go_sem,bD (show ¬ (((aG l 3 (aG l 16 g.a).2).1:Nat):Int)=0 by omega)]
   try simp only[y9]
   refine XP G mc aXC dom lv n i k p S hk Q g _ _ X rfl N O W _ _ _ (by unfold fH; exact Lq) rfl h3 ?_;intro y A x H' c E;rw[← w] at E;have R:x 10=some (.int .i64 i):=c 10 _ (by unfold fH; simp only[go_sem]);have g0:x 0=some (.ptr G.o 2 0 0):=c 0 _ (by unfold fH; simp only[go_sem]);have g1:x 1=some (.ptr G.fo 7 0 0):=c 1 _ (by unfold fH; simp only[go_sem]);have g2:x 2=some (.int .i64 dom):=c 2 _ (by unfold fH; simp only[go_sem]);have g3:x 3=some (.int .i64 aXC):=c 3 _ (by unfold fH; simp only[go_sem]);have g8:x 8=some (.int .i64 lv):=c 8 _ (by unfold fH; simp only[go_sem]);have g9:x 9=some (.int .i64 n):=c 9 _ (by unfold fH; simp only[go_sem]);simp only[go_sem,wN,R,ei];refine aD (i+1,y,A,H') ⟨hlt,E⟩ (by simp only; omega) ?_ b_;exact Lq
 ·have M:¬ (i:Int)<(n:Nat):=Om;have:i=n:=Om;subst this;simp only[go_sem,M];exact Z _ N O _ _ (.inl rfl) B
theorem Qm {C:Ctx} (M:nH C) {l:List Nat} {v:PV} (T:Tp l v) (mc aXC k:Nat) (R:0<mc) (F:mc≤1000) (y:aXC≤60) (hk:k≤4) (J:∀ X,k=X+1→ic C l v mc aXC X) (G:GE) (U K:PV) (s:GS) (dom:Nat) (x:cE)
  (N:GOk l aXC s) (W:s.aXL[dom]?=some x) (hl:x.level=4-(k:Int)) (O:PH) (B:aM O (G.boxes v mc U K s.a) (lW s U K)) :
  yA.wp C (aR Jc.res (fun r H'=>∃ B' L',akC G v mc (fA l mc aXC k dom s) r B' L'∧aM H' B' L')) (PF.args [.ptr G.o 2 0 0,.ptr G.fo 7 0 0,.int .i64 dom,.int .i64 aXC]) O:=by
 have w:dom<s.aXL.length:=(aZU.1 W).1;have b1:=B.at 1 rfl;have fin:∀ (e:kW) (c d:PV) (p:PF) (H':PH),(e=.exit 0∨e=.ret)→aM H' (G.boxes v mc c d (fA l mc aXC k dom s).a) (lW (fA l mc aXC k dom s) c d) →
   fF 0 (aR Jc.res (fun r H'=>∃ B' L',akC G v mc (fA l mc aXC k dom s) r B' L'∧aM H' B' L')) e p H':=by
  intro e c d p H' E i;rcases E with rfl | rfl
  ·rw[DF,if_pos rfl];exact aZ (vs:=[]) (.inl rfl) H' rfl b_ ⟨_,_,⟨rfl,c,d,rfl,rfl⟩,i⟩
  ·exact aZ (vs:=[]) (.inr rfl) H' rfl b_ ⟨_,_,⟨rfl,c,d,rfl,rfl⟩,i⟩
 obtain⟨q,rs,Z,e2,e3,e4⟩:∃ q rs,U=.osl q 7 0 s.aXL.length∧O q=some (.rows 7 rs)∧s.aXL.length≤rs.length∧rs.take s.aXL.length=kF s.aXL:=by
  rcases B.own 0 rfl with ⟨u,_⟩ | ⟨q,rs,u,h2,h3,h4⟩
  ·have:=congrArg List.length u;rw[aYN] at this;simp at this; rw[this] at w; simp at w
  ·rw[aYN] at u h3 h4;exact⟨q,rs,u,h2,h3,h4⟩
 have S:rs[dom]?=some x.cells:=by
  have:(kF s.aXL)[dom]?=some x.cells:=by simp[kF,W]
  rw[← e4,List.getElem?_take_of_lt w] at this;exact this
 subst Z;have Y:(dom:Int)<(s.aXL.length:Nat):=Om;have ew:IntKind.i64.wrap (x.level+1)=((5-k:Nat):Int):=by rw[hl,wrap_i64 Om Om]; omega
 have β:=cM l (show 0<2 by decide) s.a;have en:IntKind.i64.wrap (1+((aG l 2 s.a).1:Int))=((1+(aG l 2 s.a).1:Nat):Int):=by rw[wrap_i64 Om Om]; omega
 have u:=B.set 0 rfl (bR v (aG l 2 s.a).2);have A:GOk l aXC { s with a:=(aG l 2 s.a).2 }:=⟨N.aXL,N.aXV,bW l 2 N.a⟩;have α:¬ q=G.o:=fun h=>B.neL 0 0 rfl rfl rfl h.symm;simp only[go_sem,yA,Qn,b1,Y,e2,S,ew,Qo];refine dP M.toHI T (o:=G.o) (n:=2) (a:=s.a) (by decide) N.a (by simp only[go_sem]; rfl) (B.at 0 rfl) ?_;simp only[go_sem,en,Qp];cases k with
 | zero =>
  simp only[go_sem,bD (Om:¬ ((5-0:Nat):Int)=2),KP];refine Ql (C:=C) M T G mc aXC dom (1+(aG l 2 s.a).1) R F y Om { s with a:=(aG l 2 s.a).2 } A _ K _ _ _ ?_ u ?_
  ·unfold fH;exact Lq
  ·intro c d p H' i;exact fin _ c d p H' (.inl rfl) i
 | succ k =>
  have H:=J k rfl;by_cases V:4-k=2
  ·have Q:fA l mc aXC (k+1) dom s=gP l (4-k) aXC dom (fA l mc aXC k) { s with a:=(aG l 2 s.a).2 } 1:=by simp only[fA,if_pos V]
   simp only[go_sem,bN (show ((5-(k+1):Nat):Int)=2 by omega),Qq,KP];refine PK (C:=C) M T G mc aXC dom 1 k Om y (by decide) H { s with a:=(aG l 2 s.a).2 } A (by simp only; omega) _ K _ _ _ ?_ u ?_
   ·unfold fH
    (repeat' (first|exact c_|refine d_ ?_ ?_))<;>first|(simp only[go_sem,show 4-k=5-(k+1) by omega]<;>rfl)|rfl
   ·intro e c d p H' E i;rw[← Q] at i;exact fin e c d p H' E i
  ·have Q:fA l mc aXC (k+1) dom s=gP l (4-k) aXC dom (fA l mc aXC k) { s with a:=(aG l 2 s.a).2 } (1+(aG l 2 s.a).1):=by simp only[fA,if_neg V]
   simp only[go_sem,bD (show ¬ ((5-(k+1):Nat):Int)=2 by omega),KP];refine PK (C:=C) M T G mc aXC dom (1+(aG l 2 s.a).1) k Om y Om H { s with a:=(aG l 2 s.a).2 } A (by simp only; omega) _ K _ _ _ ?_ u ?_
   ·unfold fH
    (repeat' (first|exact c_|refine d_ ?_ ?_))<;>first|(simp only[go_sem,show 4-k=5-(k+1) by omega]<;>rfl)|rfl
   ·intro e c d p H' E i;rw[← Q] at i;exact fin e c d p H' E i
theorem Ov {C:Ctx} (u:nH C) {l:List Nat} {v:PV} (T:Tp l v) (mc aXC:Nat) (i:0<mc) (c:mc≤1000) (d:aXC≤60)
  (w:∀ (args:List PV) (H:PH) (R:PV→PH→Prop),args.length=4→yA.wp C (aR Jc.res R) (PF.args args) H→aH C 7 args H R):∀ k,k≤4→ic C l v mc aXC k
 | 0,h=>fun G F J s dom x B E A p y=>w _ _ _ rfl (Qm u T mc aXC 0 i c d h (fun _ e=>by omega) G F J s dom x B E A p y)
 | k+1,h=>fun G F J s dom x B E A p y=>w _ _ _ rfl (Qm u T mc aXC (k+1) i c d h (fun K e=>by have:K=k:=Om;subst this;exact Ov u T mc aXC i c d w K Om) G F J s dom x B E A p y)
theorem aJN (l:List Nat) (eM:Nat) {a:Nat} (h:a≤l.length):(qY l eM a).2≤l.length:=(ww l (1+(aG l eM a).1) (bW l eM h) (1+(aG l eM a).1)).1
theorem ck (l:List Nat) {a:Nat} (h:a≤l.length):∀ k,(jA l a k).2≤l.length∧(jA l a k).1.length=k
 | 0=>⟨h,rfl⟩
 | k+1=>by obtain⟨c,d⟩:=ck l h k;exact⟨aJN l 2 c,by simp only[jA,aYU,aZB,d]⟩
theorem KV (l:List Nat) (aXJ:Nat) {a:Nat} (h:a≤l.length):∀ k,(eP l aXJ a k).2≤l.length∧(eP l aXJ a k).1.length=k
 | 0=>⟨h,rfl⟩
 | k+1=>by obtain⟨c,d⟩:=KV l aXJ h k;exact⟨bW l aXJ (bW l 8 (bW l 4 c)),by simp only[eP,aYU,aZB,d]⟩
structure FE where
 o:Nat
 o6:Nat
 o7:Nat
 aXC:Nat
 aXE:Nat
abbrev flZ:cF:=flB (.int .i64 0) .aB .aB .aB .aB .aB .aB
abbrev FE.boxes (E:FE) (v ext c d e i l p:PV) (a:Nat):List BX:=[(E.o,bR v a),(E.o7,flB ext c d e i l p),(E.o6,flZ)]
def fY (E:FE):PF:=(((((PF.nil.set 0 (.ptr E.o 2 0 0)).set 1 (.int .i64 E.aXC)).set 2 (.int .i64 E.aXE)).set 6 (.ptr E.o6 7 0 0)).set 7 (.ptr E.o7 7 0 0))
abbrev iU (l:List cG):List (List PV):=l.map cG.cells
abbrev jX (l:List cW):List (List PV):=l.map cW.cells
theorem WM {E:FE} {F:PF} (c:F 0=some (.ptr E.o 2 0 0)) (d:F 1=some (.int .i64 E.aXC)) (e:F 2=some (.int .i64 E.aXE)) (i:F 6=some (.ptr E.o6 7 0 0)) (h7:F 7=some (.ptr E.o7 7 0 0)):(fY E).le F :=
 d_ (d_ (d_ (d_ (d_ c_ c) d) e) i) h7
theorem aCB {C:Ctx} (N:nH C) {l:List Nat} {v:PV} (T:Tp l v) (E:FE) (n a:Nat) (hn:n≤10) (V:a≤l.length) (ext:PV) (K:bT) (F:PF) (H:PH)
  (S:(((fY E).set 8 (.int .i64 n)).set 9 (.int .i64 0)).le F) (w:aM H (E.boxes v ext .aB .aB .aB .aB .aB .aB a) [])
  (U:∀ A M H',(fY E).le M→aM H' (E.boxes v ext A .aB .aB .aB .aB .aB (jA l a n).2) [(A,4,iU (jA l a n).1)]→K (.exit 0) M H') :
  aC.wp C (.loop SF) K F H:=by
 refine wp_loop (α:=Nat × PV × PH) (fun t=>((fY E).set 8 (.int .i64 n)).set 9 (.int .i64 t.1)) (fun t=>t.2.2) (fun t=>t.1≤n∧aM t.2.2 (E.boxes v ext t.2.1 .aB .aB .aB .aB .aB (jA l a t.1).2) [(t.2.1,4,iU (jA l a t.1).1)]) (fun t=>n-t.1) (0,.aB,H) ⟨aYS _,w.mY 4⟩ S b_ ?_;rintro⟨i,A,Y⟩ ⟨hi,w⟩;simp only at hi w ⊢;obtain⟨k1,k2⟩:=ck l V i;have u:jA l a (i+1)=((jA l a i).1++[{ (qY l 2 (jA l a i).2).1 with name:=[108,97,119]++cB i }],(qY l 2 (jA l a i).2).2):=rfl;simp only[go_sem,SF,Cr,fY];by_cases hlt:i<n
 ·have c:(i:Int)<(n:Nat):=Om;generalize Z:jA l a i=g at *
  simp only[go_sem,c,Cs];refine nA (N.law l v T E.o 2 g.2 (by decide) (by decide) k1) (w.at 0 rfl) rfl ?_;have Q:=w.set 0 rfl (bR v (qY l 2 g.2).2);generalize hz:qY l 2 g.2=z at *
  simp only[go_sem];refine aN fun p W=>?_;have R:=Q.new W (.rows 4 [z.1.cells]);simp only[go_sem,Ct,aYY,aZI,or_false,forall_eq,forall_eq_or_imp];refine aA (N.name [108,97,119] i (by decide) Om) rfl ?_;have x:=R.set 3 rfl (.rows 4 [({ z.1 with name:=[108,97,119]++cB i }:cG).cells]);rw[PH.set_set] at x;have b1:=x.at 1 rfl;have y:¬ E.o7=p:=x.ne 1 3 rfl rfl (by decide);have d:¬ E.o7=E.o:=x.ne 1 0 rfl rfl (by decide);simp only[aT,if_neg y,if_neg d] at b1;have J:(1:Nat)*4≤16777216:=by decide
  simp only[go_sem,Cu,y,d,b1,J,aYY,aZI,or_false,forall_eq,forall_eq_or_imp];refine x.append 0 (src:=[({ z.1 with name:=[108,97,119]++cB i }:cG).cells]) rfl rfl (by unfold roomFor; rw[aYN]; simp only[aZB,maxLen]; omega) fun w' H2 O X=>?_;obtain⟨q,rfl⟩:=X (by simp);have b2:=O.at 1 rfl;simp only[go_sem,b2,aYY,aZI,or_false,forall_eq];have h5:=O.set 1 rfl (flB ext (.osl q 4 0 (iU g.1++[({ z.1 with name:=[108,97,119]++cB i }:cG).cells]).length) .aB .aB .aB .aB .aB);simp only[go_sem,Cv,wZz i];refine aD (i+1,.osl q 4 0 (iU g.1++[({ z.1 with name:=[108,97,119]++cB i }:cG).cells]).length,_) ⟨hlt,?_⟩ (by simp only; omega) ?_ b_
  ·rw[u];have e:iU (g.1++[{ z.1 with name:=[108,97,119]++cB i }])=iU g.1++[({ z.1 with name:=[108,97,119]++cB i }:cG).cells]:=by simp[iU]
   simp only;rw[e];exact h5.dropLast (B:=E.boxes v ext _ .aB .aB .aB .aB .aB z.2)
  ·exact Lq
 ·have c:¬ (i:Int)<(n:Nat):=Om;have:i=n:=Om;subst this;simp only[go_sem,c];exact U A _ _ (WM rfl rfl rfl rfl rfl) w
theorem anG {C:Ctx} (O:nH C) {l:List Nat} {v:PV} (T:Tp l v) (E:FE) (n a nl:Nat) (hn:n≤10) (β:nl≤1000) (ha:a≤l.length) (ext d:PV) (aXJ:List cG) (U:aXJ.length=nl) (K:bT) (F:PF) (H:PH)
  (hF:(((fY E).set 11 (.int .i64 n)).set 12 (.int .i64 0)).le F) (p:aM H (E.boxes v ext d .aB .aB .aB .aB .aB a) [(d,4,iU aXJ)])
  (hK:∀ A Q H',(fY E).le Q→Q 11=some (.int .i64 n)→aM H' (E.boxes v ext d A .aB .aB .aB .aB (eP l nl a n).2) [(d,4,iU aXJ),(A,4,jX (eP l nl a n).1)]→K (.exit 2) Q H') :
  aC.wp C (.loop KD) K F H:=by
 refine wp_loop (α:=Nat × PV × PH) (fun t=>((fY E).set 11 (.int .i64 n)).set 12 (.int .i64 t.1)) (fun t=>t.2.2) (fun t=>t.1≤n∧aM t.2.2 (E.boxes v ext d t.2.1 .aB .aB .aB .aB (eP l nl a t.1).2) [(d,4,iU aXJ),(t.2.1,4,jX (eP l nl a t.1).1)]) (fun t=>n-t.1) (0,.aB,H) ⟨aYS _,p.mY 4⟩ hF b_ ?_;rintro⟨i,A,Z⟩ ⟨hi,p⟩;simp only at hi p ⊢;obtain⟨k1,k2⟩:=KV l nl ha i;have u:eP l nl a (i+1)=((eP l nl a i).1++[⟨[109]++cB i,(1+(aG l 4 (eP l nl a i).2).1:Nat),(1+(aG l 8 (aG l 4 (eP l nl a i).2).2).1:Nat),((aG l nl (aG l 8 (aG l 4 (eP l nl a i).2).2).2).1:Nat)⟩],(aG l nl (aG l 8 (aG l 4 (eP l nl a i).2).2).2).2):=rfl;simp only[go_sem,KD,mj,fY];by_cases hlt:i<n
 ·have c:(i:Int)<(n:Nat):=Om;generalize hg:eP l nl a i=g at *
  have hx:=cM l (show 0<4 by decide) g.2;have V:=bW l 4 k1;have hy:=cM l (show 0<8 by decide) (aG l 4 g.2).2;have W:=bW l 8 V;have az:=bW l nl W;have R:=p.set 0 rfl (bR v (aG l 4 g.2).2);have w:=R.set 0 rfl (bR v (aG l 8 (aG l 4 g.2).2).2);have h3:=w.set 0 rfl (bR v (aG l nl (aG l 8 (aG l 4 g.2).2).2).2);generalize J:aG l 4 g.2=x at *
  generalize M:aG l 8 x.2=y at *
  generalize N:aG l nl y.2=z at *
  have b1:=p.at 1 rfl;have Y:=(p.own 0 rfl).tF;rw[aYN,U] at Y;have B:(PH.nil.set E.o7 (flB ext d A .aB .aB .aB .aB)).le Z:=PH.aK a_ b1;have ex:IntKind.i64.wrap (1+(x.1:Int))=((1+x.1:Nat):Int):=by rw[wrap_i64 Om Om]; omega
  have ey:IntKind.i64.wrap (1+(y.1:Int))=((1+y.1:Nat):Int):=by rw[wrap_i64 Om Om]; omega
  simp only[go_sem,c];refine bO (PH.nil.set E.o7 (flB ext d A .aB .aB .aB .aB)) (mkS l v) B ?_;simp only[go_sem,ml];refine IL O.tosT (s:=[109]) (n:=i) (by decide) Om rfl B ?_;simp only[go_sem];refine rS O.toHI T (o:=E.o) (n:=4) (a:=g.2) (by decide) k1 rfl (p.at 0 rfl) ?_ ?_
  ·rw[J]; exact PH.aK a_ (R.at 1 rfl)
  rw[J];simp only[go_sem,ex];refine rS O.toHI T (o:=E.o) (n:=8) (a:=x.2) (by decide) V rfl (R.at 0 rfl) ?_ ?_
  ·rw[M]; exact PH.aK a_ (w.at 1 rfl)
  rw[M];simp only[go_sem,ey,Y];rw[PH.set_set] at w;refine rS O.toHI T (o:=E.o) (n:=nl) (a:=y.2) Om W rfl (w.at 0 rfl) ?_ ?_
  ·rw[N]; exact PH.aK a_ ((w.set 0 rfl (bR v z.2)).at 1 rfl)
  rw[N];have X:=w.set 0 rfl (bR v z.2);have S:(1:Nat)*4≤16777216:=by decide
  simp only[go_sem,S,aYY,aZI,or_false,forall_eq,forall_eq_or_imp];rw[PH.set_set] at X;refine X.append 1 (src:=[(⟨[109]++cB i,(1+x.1:Nat),(1+y.1:Nat),(z.1:Nat)⟩:cW).cells]) rfl rfl (by unfold roomFor; rw[aYN]; simp only[aZB,maxLen]; omega) fun w' H2 h5 hw=>?_;obtain⟨q,rfl⟩:=hw (by simp);have b2:=h5.at 1 rfl;refine⟨PH.aK a_ b2,?_⟩;refine bO .nil dT a_ ?_;simp only[go_sem,mm,b2,aYY,aZI,or_false,forall_eq];have h6:=h5.set 1 rfl (flB ext d (.osl q 4 0 (jX g.1++[(⟨[109]++cB i,(1+x.1:Nat),(1+y.1:Nat),(z.1:Nat)⟩:cW).cells]).length) .aB .aB .aB .aB);refine⟨a_,?_⟩;simp only[go_sem,mo,wZz i];refine aD (i+1,.osl q 4 0 (jX g.1++[(⟨[109]++cB i,(1+x.1:Nat),(1+y.1:Nat),(z.1:Nat)⟩:cW).cells]).length,_) ⟨hlt,?_⟩ (by simp only; omega) ?_ b_
  ·rw[u];have e:jX (g.1++[⟨[109]++cB i,(1+x.1:Nat),(1+y.1:Nat),(z.1:Nat)⟩])=jX g.1++[(⟨[109]++cB i,(1+x.1:Nat),(1+y.1:Nat),(z.1:Nat)⟩:cW).cells]:=by simp[jX]
   simp only;rw[e];exact h6
  ·exact Lq
 ·have c:¬ (i:Int)<(n:Nat):=Om;have:i=n:=Om;subst this;simp only[go_sem,c];exact hK A _ _ (WM rfl rfl rfl rfl rfl) rfl p
abbrev xA (x:bV) (w:PV):List PV:=[.str x.name,.int .i64 x.k,.int .i64 x.m,.int .i64 x.aYA,.int .i64 x.s0,.int .i64 x.s1,.int .i64 x.s2,.int .i64 x.s3,.int .i64 x.s4,w,frs x.repair,
 .bool x.target.neg,aJ x.target.num,aJ x.target.den,.bool x.aXM.neg,aJ x.aXM.num,aJ x.aXM.den]
def wy (E:FE) (mc n i:Nat):PF:=(((fY E).set 11 (.int .i64 mc)).set 13 (.int .i64 n)).set 14 (.int .i64 i)
structure PAt (E:FE) (mc n i:Nat) (F:PF):Prop where
 f0:F 0=some (.ptr E.o 2 0 0)
 f1:F 1=some (.int .i64 E.aXC)
 f2:F 2=some (.int .i64 E.aXE)
 f6:F 6=some (.ptr E.o6 7 0 0)
 f7:F 7=some (.ptr E.o7 7 0 0)
 f11:F 11=some (.int .i64 mc)
 f13:F 13=some (.int .i64 n)
 f14:F 14=some (.int .i64 i)
def rA (l:List Nat) (a:Nat):Nat→List Int × Nat
 | 0=>([],a)
 | j+1=>let s:=rA l a j
  let t:=gV l s.2
  (s.1++[t.1],t.2)
theorem tZ (l:List Nat) {a:Nat} (h:a≤l.length):(gV l a).2≤l.length:=by
 unfold gV;simp only;split
 ·exact bW l 3 (bW l 3 h)
 ·exact bW l 3 h
theorem yi (l:List Nat) {a:Nat} (h:a≤l.length):∀ j,(rA l a j).2≤l.length∧(rA l a j).1.length=j
 | 0=>⟨h,rfl⟩
 | j+1=>by obtain⟨c,d⟩:=yi l h j;exact⟨tZ l c,by simp only[rA,aYU,aZB,d]⟩
abbrev qZ (pre post:List PV) (s:List Int):List PV:=pre++(s.map fun x=>PV.int .i64 x)++aYR (4-s.length) (.int .i64 0)++post
theorem aLN {pre post:List PV} {s:List Int} (c:pre.length=5) (e:s.length<4) (x:Int):(qZ pre post s).set (5+s.length) (.int .i64 x)=qZ pre post (s++[x]):=by
 obtain⟨k,d⟩:∃ k,4-s.length=k+1:=⟨3-s.length,by omega⟩;unfold qZ;rw[aYU,aZB,show 4-(s.length+1)=k by omega,d,List.replicate_succ,aZO,a0D,a0X];rw[List.set_append_left _ _ (by simp[c]),a1M _ _ (by simp[c])];have:5+s.length-(pre++s.map fun x=>PV.int .i64 x).length=0:=by simp[c]
 rw[this,a2B];simp
theorem aEK {pre post:List PV} {s:List Int} (d:pre.length=5) (e:s.length<4):qZ pre post s=qZ pre post (s++[0]):=by
 obtain⟨k,c⟩:∃ k,4-s.length=k+1:=⟨3-s.length,by omega⟩;unfold qZ;rw[aYU,aZB,show 4-(s.length+1)=k by omega,c,List.replicate_succ,aZO,a0D,a0X];simp
theorem anH {C:Ctx} (Z:nH C) {l:List Nat} {v:PV} (T:Tp l v) (E:FE) (mc n i a p:Nat) (ha:a≤l.length) (B:List BX) (L:List LI) (pre post:List PV) (d:pre.length=5) (y:post.length=8) (K:bT) (F:PF) (H:PH)
  (u:PAt E mc n i F) (S:F 15=some (.ptr p 17 0 0)) (U:F 16=some (.int .i64 1)) (A:aM H ((E.o,bR v a)::B++[(p,.rows 17 [qZ pre post []])]) L)
  (hK:∀ Q H',PAt E mc n i Q→Q 15=some (.ptr p 17 0 0)→aM H' ((E.o,bR v (rA l a 4).2)::B++[(p,.rows 17 [qZ pre post (rA l a 4).1])]) L→K (.exit 6) Q H') :
  aC.wp C (.loop xU) K F H:=by
 refine wp_loop (α:=Nat × PH) (fun t=>((wy E mc n i).set 15 (.ptr p 17 0 0)).set 16 (.int .i64 (t.1+1:Nat))) (fun t=>t.2) (fun t=>t.1≤4∧aM t.2 ((E.o,bR v (rA l a t.1).2)::B++[(p,.rows 17 [qZ pre post (rA l a t.1).1])]) L) (fun t=>4-t.1) (0,H) ⟨aYS _,A⟩ ?_ b_ ?_
 ·unfold wy fY
  (repeat' (first|exact c_|refine d_ ?_ ?_))<;>first|(simp only[go_sem,u.f0,u.f1,u.f2,u.f6,u.f7,u.f11,u.f13,u.f14,S,U]<;>rfl)|rfl
 rintro⟨j,H0⟩ ⟨hj,A⟩;simp only at hj A ⊢;obtain⟨k1,k2⟩:=yi l ha j;have e:rA l a (j+1)=((rA l a j).1++[(gV l (rA l a j).2).1],(gV l (rA l a j).2).2):=rfl;simp only[go_sem,xU,my,wy,fY];by_cases hlt:j<4
 ·generalize hg:rA l a j=g at *
  have ei:=dC (Om:j+1<9223372036854775807);simp only[go_sem,show ((j+1:Nat):Int)<5 by omega,mz];refine dP Z.toHI T (o:=E.o) (n:=3) (a:=g.2) (by decide) k1 (by simp only[go_sem]; rfl) (A.at 0 rfl) ?_;have N:aM _ ((E.o,bR v (aG l 3 g.2).2)::B++[(p,.rows 17 [qZ pre post g.1])]) L:=A.set 0 rfl (bR v (aG l 3 g.2).2);by_cases c:(aG l 3 g.2).1=0
  ·have Y:gV l g.2=(((1+(aG l 3 (aG l 3 g.2).2).1:Nat):Int),(aG l 3 (aG l 3 g.2).2).2):=by unfold gV; simp only[c,if_true]
   have n2:=cM l (show 0<3 by decide) (aG l 3 g.2).2;have e2:IntKind.i64.wrap (1+((aG l 3 (aG l 3 g.2).2).1:Int))=((1+(aG l 3 (aG l 3 g.2).2).1:Nat):Int):=by rw[wrap_i64 Om Om]; omega
   simp only[go_sem,bN (show (((aG l 3 g.2).1:Nat):Int)=0 by omega),m5];refine dP Z.toHI T (o:=E.o) (n:=3) (a:=(aG l 3 g.2).2) (by decide) (bW l 3 k1) (by simp only[go_sem]; rfl) (N.at 0 rfl) ?_;have O:aM _ ((E.o,bR v (aG l 3 (aG l 3 g.2).2).2)::B++[(p,.rows 17 [qZ pre post g.1])]) L:=N.set 0 rfl (bR v (aG l 3 (aG l 3 g.2).2).2);have R:=O.AB;rw[PH.set_set] at R O;have M:¬ p=E.o:=fun h=>by have X:=O.ndB;simp[eW,h] at X
   simp only[aT,if_neg M] at R;have W:((j+1:Nat):Int)<((5:Nat):Int):=Om;have V:(0:Int)≤((j+1:Nat):Int):=Om;have β:(qZ pre post g.1).length=17:=by simp[qZ,d,y,k2]; omega
   have w:=aLN (pre:=pre) (post:=post) (s:=g.1) d Om ((1+(aG l 3 (aG l 3 g.2).2).1:Nat):Int);rw[k2] at w;have J:4+(j+1)*1=5+j:=Om;have x:5+j+1≤17:=Om;simp only[go_sem,e2,W,V,J,M,R,x,aYY,aZI,or_false,forall_eq,w,KJ,ei];refine aD (j+1,_) ⟨hlt,?_⟩ (by simp only; omega) ?_ b_
   ·rw[e,Y];exact O.HB _
   ·exact Lq
  ·have Y:gV l g.2=(0,(aG l 3 g.2).2):=by unfold gV; simp only[c,if_false]
   simp only[go_sem,bD (show ¬ (((aG l 3 g.2).1:Nat):Int)=0 by omega),KJ,ei];refine aD (j+1,_) ⟨hlt,?_⟩ (by simp only; omega) ?_ b_
   ·rw[aEK (pre:=pre) (post:=post) (s:=g.1) d Om] at N;rw[e,Y];exact N
   ·exact Lq
 ·have:j=4:=Om;subst this;simp only[go_sem,show ¬ ((4+1:Nat):Int)<5 by decide];exact hK _ _ ⟨by simp only[go_sem],by simp only[go_sem],by simp only[go_sem],by simp only[go_sem],by simp only[go_sem],by simp only[go_sem],by simp only[go_sem],by simp only[go_sem]⟩ Sq A
theorem aM.pQ {E:FE} {v ext c d e i l p:PV} {a:Nat} {H:PH} {B:List BX} {L:List LI} (h:aM H (E.boxes v ext c d e i l p a++B) L) (b:Nat):aM (H.set E.o (bR v b)) (E.boxes v ext c d e i l p b++B) L:=h.set 0 rfl _
abbrev ep (s:List UInt8) (k m q:Int) (w r c d e:PV) (h:RF):List PV:=[.str s,.int .i64 k,.int .i64 m,.int .i64 q,.int .i64 0,.int .i64 0,.int .i64 0,.int .i64 0,.int .i64 0,w,r,c,d,e,.bool h.neg,aJ h.num,aJ h.den]
theorem aCC {C : Ctx} (Lb : nH C) {l : List Nat} {v : PV} (T : Tp l v) (E : FE) (mc n i a : Nat) (ha : a ≤ l.length) (hi : i < 50) (ext w1 w2 w3 w4 w5 w6 : PV) (L : List LI) (rest : aC) (K : bT) (F : PF) (H : PH)
    (hF : PAt E mc n i F) (hH : aM H (E.boxes v ext w1 w2 w3 w4 w5 w6 a) L)
    (hK : ∀ p F' H', PAt E mc n i F' → F' 15 = some (.ptr p 17 0 0) →
      (let k := aG l 2 a; let m := aG l 3 k.2; let h := aG l 4 m.2; let q := aG l (m.1 + 1) h.2; let r := kL l q.2 (max m.1 1); let g := aG l 9 r.2
       aM H' (E.boxes v ext w1 w2 w3 w4 w5 w6 g.2 ++ [(p, .rows 17 [qZ [.str ([112] ++ cB i), .int .i64 (1 + k.1 : Nat), .int .i64 (m.1 : Nat), .int .i64 (1 + k.1 + q.1 : Nat), .int .i64 0]
        ([.aB, frs r.1] ++ (mkT (g.1 : Nat) 8).cells ++ (mkT ((1 + h.1 : Nat) : Int) 1).cells) []])]) L) → aC.wp C rest K F' H') :
    aC.wp C (.seq (.region KG) (.seq (.seq (.draw xV) (.draw xW)) (.seq (.region xX) (.seq (.region xY) rest)))) K F H := by
  obtain ⟨f0, f1, f2, f6, f7, f11, f13, f14⟩ := hF;have nk := cM l (show 0 < 2 by decide) a;have ak := bW l 2 ha;have nm := cM l (show 0 < 3 by decide) (aG l 2 a).2;have am := bW l 3 ak;simp only at hK;generalize hk : aG l 2 a = k at *
  generalize hm : aG l 3 k.2 = m at *
  have nh := cM l (show 0 < 4 by decide) m.2;have ah := bW l 4 am;generalize hh : aG l 4 m.2 = h at *
  have nq := cM l (Om : 0 < m.1 + 1) h.2;have aq := bW l (m.1 + 1) ah;generalize hq : aG l (m.1 + 1) h.2 = q at *
  have ar := GX l aq (max m.1 1);generalize hr : kL l q.2 (max m.1 1) = r at *
  have ng := cM l (show 0 < 9 by decide) r.2;have ag := bW l 9 ar;generalize hg : aG l 9 r.2 = g at *
  have ek : IntKind.i64.wrap (1 + (k.1 : Int)) = ((1 + k.1 : Nat) : Int) := by rw [wrap_i64 Om Om]; omega
  have eh : IntKind.i64.wrap (1 + (h.1 : Int)) = ((1 + h.1 : Nat) : Int) := by rw [wrap_i64 Om Om]; omega
  have em : IntKind.i64.wrap ((m.1 : Int) + 1) = ((m.1 + 1 : Nat) : Int) := dC Om;have eq' : IntKind.i64.wrap (((1 + k.1 : Nat) : Int) + (q.1 : Int)) = ((1 + k.1 + q.1 : Nat) : Int) := by rw [wrap_i64 Om Om]; omega
  have h0 : aM H (E.boxes v ext w1 w2 w3 w4 w5 w6 a ++ []) L := by rw [a0M]; exact hH
  simp only[go_sem,KG,f14];refine aA (Lb.name [112] i (by decide) Om) rfl ?_;simp only[go_sem,f0];refine dP Lb.toHI T (o := E.o) (n := 2) (a := a) (by decide) ha rfl (h0.at 0 rfl) ?_;have g1 := h0.pQ k.2;rw [hk];simp only[go_sem,ek,f0];refine dP Lb.toHI T (o := E.o) (n := 3) (a := k.2) (by decide) ak rfl (g1.at 0 rfl) ?_;have g2 := g1.pQ m.2;rw [hm];rw [PH.set_set] at g2;simp only[go_sem,f0];refine dP Lb.toHI T (o := E.o) (n := 4) (a := m.2) (by decide) am rfl (g2.at 0 rfl) ?_;have g3 := g2.pQ h.2;rw [hh];rw [PH.set_set] at g3;simp only[go_sem,eh];refine aA (Lb.int ((1 + h.1 : Nat) : Int) (by unfold cK; omega)) rfl ?_;simp only[go_sem,aYY,aZI,or_false,forall_eq,forall_eq_or_imp];refine aN fun p hp => ?_;have g4 := g3.new hp (.rows 17 [ep ([112] ++ cB i) (1 + k.1 : Nat) (m.1 : Nat) 0 .aB .aB (.bool false) .aB .aB (mkT ((1 + h.1 : Nat) : Int) 1)]);have hpo : ¬ p = E.o := g4.ne 3 0 rfl rfl (by decide);have hop : ¬ E.o = p := fun e => hpo e.symm;have q2 : ∀ (F2 : PF) (H2 : PH), PAt E mc n i F2 → F2 15 = some (.ptr p 17 0 0) → aM H2 (E.boxes v ext w1 w2 w3 w4 w5 w6 h.2 ++ [(p, .rows 17 [ep ([112] ++ cB i) (1 + k.1 : Nat) (m.1 : Nat) 0 .aB .aB (.bool false) .aB .aB (mkT ((1 + h.1 : Nat) : Int) 1)])]) L →
      aC.wp C (.seq (.seq (.draw xV) (.draw xW)) (.seq (.region xX) (.seq (.region xY) rest))) K F2 H2 := by
    intro F2 H2 hF2 f15 hH2;obtain ⟨f0, f1, f2, f6, f7, f11, f13, f14⟩ := hF2;have bp := hH2.at 3 rfl;have hHs : (PH.nil.set p (.rows 17 [ep ([112] ++ cB i) (1 + k.1 : Nat) (m.1 : Nat) 0 .aB .aB (.bool false) .aB .aB (mkT ((1 + h.1 : Nat) : Int) 1)])).le H2 := PH.aK a_ bp;simp only[go_sem];refine bO _ (mkS l v) hHs ?_;simp only[go_sem,xV,f15,bp,em,f0];refine rS Lb.toHI T (o := E.o) (n := m.1 + 1) (a := h.2) Om ah rfl (hH2.at 0 rfl) ?_ ?_
    · rw [hq]; exact PH.aK a_ ((hH2.pQ q.2).at 3 rfl)
    rw [hq];have g5 := hH2.pQ q.2;simp only[go_sem,eq',f15];refine bO .nil dT a_ ?_;simp only[go_sem,xW,hpo,bp];refine ⟨a_, ?_⟩;have g6 : aM _ (E.boxes v ext w1 w2 w3 w4 w5 w6 q.2 ++ [(p, .rows 17 [ep ([112] ++ cB i) (1 + k.1 : Nat) (m.1 : Nat) (1 + k.1 + q.1 : Nat) .aB .aB (.bool false) .aB .aB (mkT ((1 + h.1 : Nat) : Int) 1)])]) L := g5.set 3 rfl (.rows 17 [ep ([112] ++ cB i) (1 + k.1 : Nat) (m.1 : Nat) (1 + k.1 + q.1 : Nat) .aB .aB (.bool false) .aB .aB (mkT ((1 + h.1 : Nat) : Int) 1)]);have bq := g6.at 3 rfl;simp only[go_sem,xX,f0,f15];refine nA (Lb.rep l v T E.o q.2 m.1 Om aq) (g6.at 0 rfl) rfl ?_;have g7 := g6.pQ r.2;rw [hr];simp only[go_sem,hpo,f15];have g8 : aM _ (E.boxes v ext w1 w2 w3 w4 w5 w6 r.2 ++ [(p, .rows 17 [ep ([112] ++ cB i) (1 + k.1 : Nat) (m.1 : Nat) (1 + k.1 + q.1 : Nat) .aB (frs r.1) (.bool false) .aB .aB (mkT ((1 + h.1 : Nat) : Int) 1)])]) L := g7.set 3 rfl (.rows 17 [ep ([112] ++ cB i) (1 + k.1 : Nat) (m.1 : Nat) (1 + k.1 + q.1 : Nat) .aB (frs r.1) (.bool false) .aB .aB (mkT ((1 + h.1 : Nat) : Int) 1)]);simp only[go_sem,xY,f0];refine dP Lb.toHI T (o := E.o) (n := 9) (a := r.2) (by decide) ar rfl (g8.at 0 rfl) ?_;have g9 := g8.pQ g.2;rw [hg];simp only[go_sem];refine aA (Lb.fmk (g.1 : Int) 8 (by unfold cK; omega) (by unfold cK; omega)) rfl ?_;unfold rG;rw [if_neg (by decide)];simp only[go_sem,f15,hpo];have g10 := g9.set 3 rfl (.rows 17 [qZ [.str ([112] ++ cB i), .int .i64 (1 + k.1 : Nat), .int .i64 (m.1 : Nat), .int .i64 (1 + k.1 + q.1 : Nat), .int .i64 0]
        ([.aB, frs r.1] ++ (mkT (g.1 : Nat) 8).cells ++ (mkT ((1 + h.1 : Nat) : Int) 1).cells) []])
    refine hK p _ _ ⟨by simp only[go_sem,f0], by simp only[go_sem,f1], by simp only[go_sem,f2], by simp only[go_sem,f6], by simp only[go_sem,f7], by simp only[go_sem,f11], by simp only[go_sem,f13], by simp only[go_sem,f14]⟩ (by simp only[go_sem,f15]) g10
  simp only [aC.wp, go_sem] at q2;simp only[go_sem,aYY,aZI,or_false,forall_eq,forall_eq_or_imp];exact q2 _ _ ⟨by simp only[go_sem,f0], by simp only[go_sem,f1], by simp only[go_sem,f2], by simp only[go_sem,f6], by simp only[go_sem,f7], by simp only[go_sem,f11], by simp only[go_sem,f13], by simp only[go_sem,f14]⟩ rfl g4
abbrev FE.lists (p u w x y:PV) (e:List cG) (i:List cW) (c:List cE) (d:List dL) (l:List (List PV)):List LI:=[(p,4,iU e),(u,4,jX i),(w,7,kF c),(x,3,mM d),(y,17,l)]
theorem aCD {C:Ctx} (Lb:nH C) {l:List Nat} {v:PV} (T:Tp l v) (E:FE) (mc n i a:Nat) (ha:a≤l.length) (η:0<mc) (μ:mc≤50) (ext y A B J w5:PV) (lw:List cG) (md:List cW) (dm:List cE) (dv:List dL) (pr:List (List PV)) (ρ:pr.length≤50)
  (s:List UInt8) (k m q:Int) (r t h:RF) (N:List RF) (p:Nat) (K:bT) (F:PF) (H:PH)
  (hF:PAt E mc n i F) (u:F 15=some (.ptr p 17 0 0))
  (hH:aM H (E.boxes v ext y A B J w5 .aB a++[(p,.rows 17 [qZ [.str s,.int .i64 k,.int .i64 m,.int .i64 q,.int .i64 0] ([.aB,frs N]++t.cells++h.cells) []])]) (FE.lists y A B J w5 lw md dm dv pr))
  (V:(let M:=rA l a 4; let f:=aG l mc M.2; let b:=aG l 2 f.2
   let ms:List Int × Nat:=if 1<mc then (if b.1=0 then ([(f.1:Int),1-(f.1:Int)],b.2) else ([(f.1:Int)],b.2)) else ([(f.1:Int)],f.2)
   ∀ (w d:PV) (W:PF) (H':PH) (B':List BX),PAt E mc n i W→(∃ o,w=.osl o 1 0 ms.1.length)→aM H' (E.boxes v ext y A B J d .aB ms.2++B')
    (FE.lists y A B J d lw md dm dv (pr++[xA ⟨s,k,m,q,0,(M.1.getD 0 0),(M.1.getD 1 0),(M.1.getD 2 0),(M.1.getD 3 0),ms.1,N,t,h⟩ w])++[(w,1,aY ms.1)])→K .normal W H')) :
  aC.wp C (.seq (.seq (.region KI) (.block 6 (.loop xU))) (.seq (.region KK) (.seq (.region KL) (.seq (.seq (.region KM) (.cond (.tmp 143) (.region KN) .skip)) (.region xZ))))) K F H:=by
 obtain⟨f0,f1,f2,f6,f7,f11,f13,f14⟩:=hF;simp only[go_sem,KI];refine anH (C:=C) Lb T E mc n i a p ha [(E.o7,flB ext y A B J w5 .aB),(E.o6,flZ)] _ _ _ rfl rfl _ _ H ⟨by simp only[go_sem,f0],by simp only[go_sem,f1],by simp only[go_sem,f2],by simp only[go_sem,f6],by simp only[go_sem,f7],by simp only[go_sem,f11],by simp only[go_sem,f13],by simp only[go_sem,f14]⟩ (by simp only[go_sem,u]) rfl hH ?_;clear f0 f1 f2 f6 f7 f11 f13 f14 u hH;intro F1 H1 ε u x;obtain⟨f0,f1,f2,f6,f7,f11,f13,f14⟩:=ε;obtain⟨α,ls⟩:=yi l ha 4;have ι:∃ O Q R S,(rA l a 4).1=[O,Q,R,S]:=⟨_,_,_,_,rfl⟩;simp only at V;generalize ν:rA l a 4=M at *
 obtain⟨O,Q,R,S,hx⟩:=ι;rw[hx] at V x;replace x:aM H1 (E.boxes v ext y A B J w5 .aB M.2++[(p,.rows 17 [xA ⟨s,k,m,q,0,O,Q,R,S,[],N,t,h⟩ .aB])]) (FE.lists y A B J w5 lw md dm dv pr):=x;have nf:=cM l η M.2;have af:=bW l mc α;generalize hf:aG l mc M.2=f at *
 have ab:=bW l 2 af;generalize hb:aG l 2 f.2=b at *
 have Z:¬ p=E.o:=x.ne 3 0 rfl rfl (by decide);have θ:¬ p=E.o7:=x.ne 3 1 rfl rfl (by decide);have ο:¬ E.o7=p:=fun e=>θ e.symm;have ξ:¬ E.o7=E.o:=x.ne 1 0 rfl rfl (by decide);simp only[go_sem,KK,f0,f11];refine dP Lb.toHI T (o:=E.o) (n:=mc) (a:=M.2) Om α rfl (x.at 0 rfl) ?_;have h2:=x.set 0 rfl (bR v f.2);rw[hf];simp only[go_sem,KL];refine aN fun o ho=>?_;have h3:=h2.anV (s:=1) (rows:=aY [(f.1:Int)]) ho;have b3:=h3.at 3 rfl;have ob:¬ p=o:=h3.neL 3 5 rfl rfl rfl;have σ:¬ E.o7=o:=h3.neL 1 5 rfl rfl rfl;have τ:¬ E.o=o:=h3.neL 0 5 rfl rfl rfl;simp only[aT,if_neg ob,if_neg Z] at b3;simp only[go_sem,u,ob,Z,b3,aYY,aZI,or_false,forall_eq];have h4:=h3.set 3 rfl (.rows 17 [xA ⟨s,k,m,q,0,O,Q,R,S,[],N,t,h⟩ (.osl o 1 0 1)]);have fin:∀ (w:PV) (ms:List Int) (a':Nat) (W:PF) (H':PH),PAt E mc n i W→W 15=some (.ptr p 17 0 0)→(∃ o,w=.osl o 1 0 ms.length) →
   aM H' (E.boxes v ext y A B J w5 .aB a'++[(p,.rows 17 [xA ⟨s,k,m,q,0,O,Q,R,S,ms,N,t,h⟩ w])]) (FE.lists y A B J w5 lw md dm dv pr++[(w,1,aY ms)]) →
   (∀ (d:PV) (U:PF) (H2:PH),PAt E mc n i U→aM H2 (E.boxes v ext y A B J d .aB a'++[(p,.rows 17 [xA ⟨s,k,m,q,0,O,Q,R,S,ms,N,t,h⟩ w])]) (FE.lists y A B J d lw md dm dv (pr++[xA ⟨s,k,m,q,0,O,Q,R,S,ms,N,t,h⟩ w])++[(w,1,aY ms)])→K .normal U H2) →
   wpOps C xZ (K .normal) W H':=by
  intro w ms a' W H' δ u hw Y ζ;obtain⟨wo,rfl⟩:=hw;obtain⟨f0,f1,f2,f6,f7,f11,f13,f14⟩:=δ;have c1:=Y.at 1 rfl;have c3:=Y.at 3 rfl;have γ:(1:Nat)*17≤16777216:=by decide
  simp only[go_sem,xZ,f7,u,c1,c3,γ,aYY,aZI,or_false,forall_eq,forall_eq_or_imp];refine Y.append 4 (src:=[xA ⟨s,k,m,q,0,O,Q,R,S,ms,N,t,h⟩ (.osl wo 1 0 ms.length)]) rfl rfl (by unfold roomFor; simp only[aZB,maxLen]; omega) fun d H2 h5 κ=>?_;obtain⟨q5,rfl⟩:=κ (by simp);have c2:=h5.at 1 rfl;simp only[go_sem,c2,aYY,aZI,or_false,forall_eq];exact ζ _ _ _ ⟨by simp only[go_sem,f0],by simp only[go_sem,f1],by simp only[go_sem,f2],by simp only[go_sem,f6],by simp only[go_sem,f7],by simp only[go_sem,f11],by simp only[go_sem,f13],by simp only[go_sem,f14]⟩ (h5.set 1 rfl (flB ext y A B J _ .aB))
 simp only[go_sem,KM,f11];by_cases c:1<mc
 ·have c':(mc:Int)>1:=Om;simp only[go_sem,c',f0];refine dP Lb.toHI T (o:=E.o) (n:=2) (a:=f.2) (by decide) af rfl (h4.at 0 rfl) ?_;have h5:=h4.set 0 rfl (bR v b.2);rw[hb];by_cases c2:b.1=0
  ·have X:(b.1:Int)=0:=Om;rw[if_pos c,if_pos c2] at V;have e1:IntKind.i64.wrap (1-(f.1:Int))=1-(f.1:Int):=wrap_i64 Om Om;have c3:=h5.at 3 rfl;have β:(1:Nat)*1≤16777216:=by decide
   simp only[go_sem,bN X,KN,u,Z,e1,β];refine h5.append 5 (src:=[[.int .i64 (1-(f.1:Int))]]) rfl rfl (by unfold roomFor; simp only[aY,aYN,aZB,maxLen]; omega) fun w' H2 h6 hw=>?_;obtain⟨q2,rfl⟩:=hw (by simp);have c4:=h6.at 3 rfl;simp only[go_sem,c4,u,aYY,aZI,or_false,forall_eq];have h7:=h6.set 3 rfl (.rows 17 [xA ⟨s,k,m,q,0,O,Q,R,S,[(f.1:Int),1-(f.1:Int)],N,t,h⟩ (.osl q2 1 0 2)]);exact fin (.osl q2 1 0 2) [(f.1:Int),1-(f.1:Int)] b.2 _ _ ⟨by simp only[go_sem,f0],by simp only[go_sem,f1],by simp only[go_sem,f2],by simp only[go_sem,f6],by simp only[go_sem,f7],by simp only[go_sem,f11],by simp only[go_sem,f13],by simp only[go_sem,f14]⟩ (by simp only[go_sem,u]) ⟨q2,rfl⟩ h7 (fun d U H2 g1 g2=>V _ d U H2 _ g1 ⟨q2,rfl⟩ g2)
  ·have X:¬ (b.1:Int)=0:=Om;rw[if_pos c,if_neg c2] at V;simp only[go_sem,bD X];exact fin (.osl o 1 0 1) [(f.1:Int)] b.2 _ _ ⟨by simp only[go_sem,f0],by simp only[go_sem,f1],by simp only[go_sem,f2],by simp only[go_sem,f6],by simp only[go_sem,f7],by simp only[go_sem,f11],by simp only[go_sem,f13],by simp only[go_sem,f14]⟩ (by simp only[go_sem,u]) ⟨o,rfl⟩ h5 (fun d U H2 g1 g2=>V _ d U H2 _ g1 ⟨o,rfl⟩ g2)
 ·have c':¬ (mc:Int)>1:=Om;rw[if_neg c] at V;simp only[go_sem,c'];exact fin (.osl o 1 0 1) [(f.1:Int)] f.2 _ _ ⟨by simp only[go_sem,f0],by simp only[go_sem,f1],by simp only[go_sem,f2],by simp only[go_sem,f6],by simp only[go_sem,f7],by simp only[go_sem,f11],by simp only[go_sem,f13],by simp only[go_sem,f14]⟩ (by simp only[go_sem,u]) ⟨o,rfl⟩ h4 (fun d U H2 g1 g2=>V _ d U H2 _ g1 ⟨o,rfl⟩ g2)
abbrev lZ (l:List bV):List (List PV):=l.map bV.cells
abbrev oT (l:List fE):List (List PV):=l.map fE.cells
theorem qO {rows:List (List PV)} (h:∀ r∈rows,∀ c∈r,c.oid=none):Flat rows:=Flat.of fun r e c d q s rs=>lx (h r e c d) q s rs
theorem acM (l:List cG):Flat (iU l):=qO fun r e c d=>by
 obtain⟨x,_,rfl⟩:=aZQ.1 e;simp only[cG.cells,aYY,aZI,or_false] at d;rcases d with rfl | rfl | rfl | rfl<;>rfl
theorem acN (l:List cW):Flat (jX l):=qO fun r e c d=>by
 obtain⟨x,_,rfl⟩:=aZQ.1 e;simp only[cW.cells,aYY,aZI,or_false] at d;rcases d with rfl | rfl | rfl | rfl<;>rfl
theorem Zo (l:List cE):Flat (kF l):=qO fun r e c d=>by
 obtain⟨x,_,rfl⟩:=aZQ.1 e;simp only[cE.cells,aYY,aZI,or_false] at d;rcases d with rfl | rfl | rfl | rfl | rfl | rfl | rfl<;>rfl
theorem Zq (l:List dL):Flat (mM l):=qO fun r e c d=>by
 obtain⟨x,_,rfl⟩:=aZQ.1 e;simp only[dL.cells,aYY,aZI,or_false] at d;rcases d with rfl | rfl | rfl<;>rfl
theorem aMI (l:List fE):Flat (oT l):=qO fun r e c d=>by
 obtain⟨x,_,rfl⟩:=aZQ.1 e;simp only[fE.cells,aYY,aZI,or_false] at d;rcases d with rfl | rfl<;>rfl
theorem afC (l:List bV):Flat (lZ l):=qO fun r e c d=>by
 obtain⟨x,_,rfl⟩:=aZQ.1 e;simp only[bV.cells,aYY,aZI,or_false] at d;rcases d with rfl | rfl | rfl | rfl | rfl | rfl | rfl | rfl | rfl | rfl | rfl | rfl | rfl | rfl | rfl | rfl | rfl<;>rfl
theorem aoL (l:List Nat) (mc i:Nat) {a:Nat} (h:a≤l.length):(mG l mc i a).2≤l.length:=by
 have d:=bW l 9 (GX l (bW l ((aG l 3 (aG l 2 a).2).1+1) (bW l 4 (bW l 3 (bW l 2 h)))) (max (aG l 3 (aG l 2 a).2).1 1));have c:=bW l mc (tZ l (tZ l (tZ l (tZ l d))));unfold mG;simp only;split
 ·split
  ·exact bW l 2 c
  ·exact bW l 2 c
 ·exact c
theorem AW (l:List Nat) (mc:Nat) {a:Nat} (h:a≤l.length):∀ k,(dQ l mc a k).2≤l.length∧(dQ l mc a k).1.length=k
 | 0=>⟨h,rfl⟩
 | k+1=>by obtain⟨c,d⟩:=AW l mc h k;exact⟨aoL l mc k c,by simp only[dQ,aYU,aZB,d]⟩
theorem ZU (l:List Nat) (pc:Nat) {a:Nat} (h:a≤l.length):∀ k,(eS l pc a k).2≤l.length∧(eS l pc a k).1.length=k
 | 0=>⟨h,rfl⟩
 | k+1=>by obtain⟨c,d⟩:=ZU l pc h k;exact⟨bW l pc c,by simp only[eS,aYU,aZB,d]⟩
theorem Qg {C:Ctx} (Lb:nH C) {l:List Nat} {v:PV} (T:Tp l v) (E:FE) (mc n a:Nat) (hn:n≤10) (θ:0<mc) (Y:mc≤50) (ha:a≤l.length) (N:Int) (d e u y:PV) (R:List cG) (S:List cW) (O:List cE) (Q:List dL) (K:bT) (F:PF) (H:PH)
  (J:PAt E mc n 0 F) (V:aM H (E.boxes v (.int .i64 N) d e u y .aB .aB a) [(d,4,iU R),(e,4,jX S),(u,7,kF O),(y,3,mM Q)])
  (hK:∀ U F' H',(fY E).le F'→aM H' (E.boxes v (.int .i64 N) d e u y U .aB (dQ l mc a n).2) (FE.lists d e u y U R S O Q (lZ (dQ l mc a n).1))→K (.exit 4) F' H') :
  aC.wp C (.loop KE) K F H:=by
 refine wp_loop (α:=Nat × PV × PH) (fun t=>wy E mc n t.1) (fun t=>t.2.2) (fun t=>t.1≤n∧aM t.2.2 (E.boxes v (.int .i64 N) d e u y t.2.1 .aB (dQ l mc a t.1).2) (FE.lists d e u y t.2.1 R S O Q (lZ (dQ l mc a t.1).1))) (fun t=>n-t.1) (0,.aB,H) ⟨aYS _,V.mY 17⟩ ?_ b_ ?_
 ·unfold wy fY
  (repeat' (first|exact c_|refine d_ ?_ ?_))<;>first|(simp only[go_sem,J.f0,J.f1,J.f2,J.f6,J.f7,J.f11,J.f13,J.f14]<;>rfl)|rfl
 rintro⟨i,U,H0⟩ ⟨hi,V⟩;simp only at hi V ⊢;obtain⟨k1,k2⟩:=AW l mc ha i;have B:dQ l mc a (i+1)=((dQ l mc a i).1++[(mG l mc i (dQ l mc a i).2).1],(mG l mc i (dQ l mc a i).2).2):=rfl;simp only[go_sem,KE,mw,wy,fY];by_cases hlt:i<n
 ·have A:(i:Int)<(n:Nat):=Om;generalize hg:dQ l mc a i=g at *
  simp only[go_sem,A];refine aCC (C:=C) Lb T E mc n i g.2 k1 Om (.int .i64 N) d e u y U .aB _ _ _ _ H0 ⟨by simp only[go_sem],by simp only[go_sem],by simp only[go_sem],by simp only[go_sem],by simp only[go_sem],by simp only[go_sem],by simp only[go_sem],by simp only[go_sem]⟩ V ?_;intro p F1 H1 γ β W;simp only at W;have ι:mG l mc i g.2=_:=rfl;have X:=bW l 9 (GX l (bW l ((aG l 3 (aG l 2 g.2).2).1+1) (bW l 4 (bW l 3 (bW l 2 k1)))) (max (aG l 3 (aG l 2 g.2).2).1 1));refine aCD (C:=C) Lb T E mc n i _ X θ Y (.int .i64 N) d e u y U R S O Q _ (by rw[aYN,k2]; omega) _ _ _ _ (mkT 0 1) _ _ _ p _ F1 H1 γ β W ?_;intro M f b ms w c F2 H2 B' δ hw ε;obtain⟨o,rfl⟩:=hw;have hP:mG l mc i g.2=(⟨[112]++cB i,(1+(aG l 2 g.2).1:Nat),((aG l 3 (aG l 2 g.2).2).1:Nat),(1+(aG l 2 g.2).1+(aG l ((aG l 3 (aG l 2 g.2).2).1+1) (aG l 4 (aG l 3 (aG l 2 g.2).2).2).2).1:Nat),0,M.1.getD 0 0,M.1.getD 1 0,M.1.getD 2 0,M.1.getD 3 0,ms.1,(kL l (aG l ((aG l 3 (aG l 2 g.2).2).1+1) (aG l 4 (aG l 3 (aG l 2 g.2).2).2).2).2 (max (aG l 3 (aG l 2 g.2).2).1 1)).1,mkT ((aG l 9 (kL l (aG l ((aG l 3 (aG l 2 g.2).2).1+1) (aG l 4 (aG l 3 (aG l 2 g.2).2).2).2).2 (max (aG l 3 (aG l 2 g.2).2).1 1)).2).1:Nat) 8,mkT ((1+(aG l 4 (aG l 3 (aG l 2 g.2).2).2).1:Nat):Int) 1⟩,ms.2):=rfl;rw[hP] at B;generalize ζ:(⟨[112]++cB i,(1+(aG l 2 g.2).1:Nat),((aG l 3 (aG l 2 g.2).2).1:Nat),(1+(aG l 2 g.2).1+(aG l ((aG l 3 (aG l 2 g.2).2).1+1) (aG l 4 (aG l 3 (aG l 2 g.2).2).2).2).1:Nat),0,M.1.getD 0 0,M.1.getD 1 0,M.1.getD 2 0,M.1.getD 3 0,ms.1,(kL l (aG l ((aG l 3 (aG l 2 g.2).2).1+1) (aG l 4 (aG l 3 (aG l 2 g.2).2).2).2).2 (max (aG l 3 (aG l 2 g.2).2).1 1)).1,mkT ((aG l 9 (kL l (aG l ((aG l 3 (aG l 2 g.2).2).1+1) (aG l 4 (aG l 3 (aG l 2 g.2).2).2).2).2 (max (aG l 3 (aG l 2 g.2).2).1 1)).2).1:Nat) 8,mkT ((1+(aG l 4 (aG l 3 (aG l 2 g.2).2).2).1:Nat):Int) 1⟩:bV)=P at *
  have η:P.aXD=ms.1:=by rw[← ζ]
  obtain⟨rs,z1,z2,z3,Z,z5⟩:=ε.frz 5 rfl;have y1:=Z 0 _ (by decide) rfl;have y2:=Z 1 _ (by decide) rfl;have y3:=Z 2 _ (by decide) rfl;have y4:=Z 3 _ (by decide) rfl;have y5:=Z 4 _ (by decide) rfl;simp only at y1 y2 y3 y4 y5;have y0:=T.frz o 1 rs;obtain⟨f0,f1,f2,f6,f7,f11,f13,f14⟩:=δ;simp only[go_sem,m6,f14,wZz i];refine Cf (i+1,c,H2.frz o 1 rs) z1 ⟨hlt,?_⟩ (by simp only; omega) ?_ b_
  ·rw[B];have eB:(E.boxes v (.int .i64 N) d e u y c .aB ms.2).map (fun b=>(b.1,b.2.frz o 1 rs))=E.boxes v (.int .i64 N) d e u y c .aB ms.2:=by show [(E.o,cF.rows 2 [[PV.dK o 1 rs v,.int .i64 ms.2]]),(E.o7,cF.rows 7 [[.int .i64 N,PV.dK o 1 rs d,PV.dK o 1 rs e,PV.dK o 1 rs u,PV.dK o 1 rs y,PV.dK o 1 rs c,.aB]]),(E.o6,flZ)]=_;rw[y0,y1,y2,y3,y4,y5]
   have e5:(lZ g.1++[xA P (.osl o 1 0 ms.1.length)]).map (fun r=>r.map (PV.dK o 1 rs))=lZ (g.1++[P]):=by
    rw[aZO,afC];have:([xA P (.osl o 1 0 ms.1.length)]:List (List PV)).map (fun r=>r.map (PV.dK o 1 rs))=[P.cells]:=by show [[PV.str P.name,.int .i64 P.k,.int .i64 P.m,.int .i64 P.aYA,.int .i64 P.s0,.int .i64 P.s1,.int .i64 P.s2,.int .i64 P.s3,.int .i64 P.s4,PV.dK o 1 rs (.osl o 1 0 ms.1.length),frs P.repair,.bool P.target.neg,aJ P.target.num,aJ P.target.den,.bool P.aXM.neg,aJ P.aXM.num,aJ P.aXM.den]]=_;rw[z2,← η];rfl
    rw[this];simp[lZ]
   have eL:(FE.lists d e u y c R S O Q (lZ g.1++[xA P (.osl o 1 0 ms.1.length)])).map (fun x=>(x.1,x.2.1,x.2.2.map fun r=>r.map (PV.dK o 1 rs)))=FE.lists d e u y c R S O Q (lZ (g.1++[P])):=by show [(d,4,(iU R).map _),(e,4,(jX S).map _),(u,7,(kF O).map _),(y,3,(mM Q).map _),(c,17,(lZ g.1++[xA P (.osl o 1 0 ms.1.length)]).map _)]=_;rw[acM,acN,Zo,Zq,e5]
   rw[← eB,← eL];exact z5.sub (by rw[aZO]; exact List.sublist_append_left ..) (a0U.refl _)
  ·(repeat' (first|exact c_|refine d_ ?_ ?_))<;>first|(simp only[go_sem,f0,f1,f2,f6,f7,f11,f13]<;>rfl)|rfl
 ·have A:¬ (i:Int)<(n:Nat):=Om;have:i=n:=Om;subst this;simp only[go_sem,A];exact hK U _ _ (WM Sq Sq Sq Sq Sq) V
theorem X6 {C:Ctx} (S:nH C) {l:List Nat} {v:PV} (T:Tp l v) (E:FE) (pc n a:Nat) (hn:n≤60) (β:pc≤50) (ha:a≤l.length) (ext y A B J c:PV) (x:List bV) (Q:x.length=pc) (L:List LI) (K:bT) (F:PF) (H:PH)
  (Y:(((fY E).set 18 (.int .i64 n)).set 19 (.int .i64 0)).le F) (u:aM H (E.boxes v ext y A B J c .aB a) ((c,17,lZ x)::L))
  (Z:∀ p R H',(fY E).le R→aM H' (E.boxes v ext y A B J c p (eS l pc a n).2) ((c,17,lZ x)::L++[(p,2,oT (eS l pc a n).1)])→K (.exit 8) R H') :
  aC.wp C (.loop KF) K F H:=by
 refine wp_loop (α:=Nat × PV × PH) (fun t=>((fY E).set 18 (.int .i64 n)).set 19 (.int .i64 t.1)) (fun t=>t.2.2) (fun t=>t.1≤n∧aM t.2.2 (E.boxes v ext y A B J c t.2.1 (eS l pc a t.1).2) ((c,17,lZ x)::L++[(t.2.1,2,oT (eS l pc a t.1).1)])) (fun t=>n-t.1) (0,.aB,H) ⟨aYS _,u.mY 2⟩ Y b_ ?_;rintro⟨i,p,W⟩ ⟨hi,u⟩;simp only at hi u ⊢;obtain⟨k1,k2⟩:=ZU l pc ha i;have w:eS l pc a (i+1)=((eS l pc a i).1++[⟨[118]++cB i,((aG l pc (eS l pc a i).2).1:Nat)⟩],(aG l pc (eS l pc a i).2).2):=rfl;simp only[go_sem,KF,m9,fY];by_cases hlt:i<n
 ·have d:(i:Int)<(n:Nat):=Om;generalize hg:eS l pc a i=g at *
  have U:=u.set 0 rfl (bR v (aG l pc g.2).2);generalize N:aG l pc g.2=z at *
  have b1:=u.at 1 rfl;have V:=(u.own 0 rfl).tF;rw[aYN,Q] at V;have M:(PH.nil.set E.o7 (flB ext y A B J c p)).le W:=PH.aK a_ b1;simp only[go_sem,d];refine bO (PH.nil.set E.o7 (flB ext y A B J c p)) (mkS l v) M ?_;simp only[go_sem,na];refine IL S.tosT (s:=[118]) (n:=i) (by decide) Om rfl M ?_;simp only[go_sem,V];refine rS S.toHI T (o:=E.o) (n:=pc) (a:=g.2) Om k1 rfl (u.at 0 rfl) ?_ ?_
  ·rw[N]; exact PH.aK a_ (U.at 1 rfl)
  rw[N];have O:(1:Nat)*2≤16777216:=by decide
  simp only[go_sem,O,aYY,aZI,or_false,forall_eq,forall_eq_or_imp];refine U.append (v:=p) (s:=2) (rows:=oT g.1) (L.length+1) (src:=[(⟨[118]++cB i,(z.1:Nat)⟩:fE).cells]) (by simp) rfl (by unfold roomFor; rw[aYN]; simp only[aZB,maxLen]; omega) fun w' H2 h5 hw=>?_;obtain⟨q,rfl⟩:=hw (by simp);rw[show ((c,17,lZ x)::L++[(p,2,oT g.1)])=((c,17,lZ x)::L)++[(p,2,oT g.1)] from rfl,a1M _ _ (by simp),show L.length+1-((c,17,lZ x)::L).length=0 by simp] at h5;have b2:=h5.at 1 rfl;refine⟨PH.aK a_ b2,?_⟩;refine bO .nil dT a_ ?_;simp only[go_sem,nb,b2,aYY,aZI,or_false,forall_eq];have X:=h5.set 1 rfl (flB ext y A B J c (.osl q 2 0 (oT g.1++[(⟨[118]++cB i,(z.1:Nat)⟩:fE).cells]).length));refine⟨a_,?_⟩;simp only[go_sem,nc,wZz i];refine aD (i+1,.osl q 2 0 (oT g.1++[(⟨[118]++cB i,(z.1:Nat)⟩:fE).cells]).length,_) ⟨hlt,?_⟩ (by simp only; omega) ?_ b_
  ·rw[w];have e:oT (g.1++[⟨[118]++cB i,(z.1:Nat)⟩])=oT g.1++[(⟨[118]++cB i,(z.1:Nat)⟩:fE).cells]:=by simp[oT]
   simp only;rw[e];exact X
  ·exact Lq
 ·have d:¬ (i:Int)<(n:Nat):=Om;have:i=n:=Om;subst this;simp only[go_sem,d];exact Z p _ _ (WM rfl rfl rfl rfl rfl) u
def PU (l:List Nat) (v:PV) (o aXC aXE a:Nat) (r:PV) (H:PH):Prop:=Co r (.agg (iR l aXC aXE a).1.cells)∧H=PH.nil.set o (bR v (iR l aXC aXE a).2)
structure Jx (C:Ctx):Prop extends nH C where
 grow:∀ (l:List Nat) (v:PV),Tp l v→∀ (mc aXC:Nat),0<mc→mc≤1000→aXC≤60→ic C l v mc aXC 4
theorem atG {C:Ctx} (N:Jx C) {l:List Nat} {v:PV} (T:Tp l v) (o aXC aXE a:Nat) (ω:aXC≤60) (Ξ:aXE≤50) (ha:a≤l.length) :
  DY.wp C (aR Qh.res (PU l v o aXC aXE a)) (PF.args [.ptr o 2 0 0,.int .i64 aXC,.int .i64 aXE]) (PH.nil.set o (bR v a)):=by
 have hT:iR l aXC aXE a=iR l aXC aXE a:=rfl
 conv at hT=>rhs; unfold iR
 dsimp only at hT;have hR:∀ r H,PU l v o aXC aXE a r H↔Co r (.agg (iR l aXC aXE a).1.cells)∧H=PH.nil.set o (bR v (iR l aXC aXE a).2):=fun _ _=>Iff.rfl;have ne:=cM l (show 0<2 by decide) a;have ae:=bW l 2 ha;generalize he:aG l 2 a=e at *
 have Φ:=cM l (show 0<2 by decide) e.2;have δ:=bW l 2 ae;generalize Γ:aG l 2 e.2=M at *
 obtain⟨O,β⟩:=ck l δ (1+M.1);generalize Y:jA l M.2 (1+M.1)=aXJ at *
 have Ψ:=cM l (show 0<2 by decide) aXJ.2;have ε:=bW l 2 O;generalize Δ:aG l 2 aXJ.2=d at *
 obtain⟨Q,V⟩:=KV l (1+M.1) ε (1+d.1);generalize S:eP l (1+M.1) d.2 (1+d.1)=aXD at *
 have θ:GOk l aXC ⟨[mR],[],aXD.2⟩:=⟨by simp,aYS _,Q⟩;obtain⟨hG,-⟩:=bu (mc:=1+d.1) 4 0 θ;generalize hg:fA l (1+d.1) aXC 4 0 ⟨[mR],[],aXD.2⟩=g at *
 have Ω:=cM l (show 0<2 by decide) g.a;have ζ:=bW l 2 hG.a;generalize Λ:aG l 2 g.a=pl at *
 obtain⟨R,γ⟩:=AW l (1+d.1) ζ (1+pl.1);generalize Z:dQ l (1+d.1) pl.2 (1+pl.1)=pols at *
 have a':=cM l (Om:0<aXE+1) pols.2;have ο:=bW l (aXE+1) R;generalize ν:aG l (aXE+1) pols.2=vo at *
 generalize α:eS l (1+pl.1) vo.2 vo.1=vols at *
 have ee:IntKind.i64.wrap (1+(e.1:Int))=((1+e.1:Nat):Int):=by rw[wrap_i64 Om Om]; omega
 have ρ:IntKind.i64.wrap (1+(M.1:Int))=((1+M.1:Nat):Int):=by rw[wrap_i64 Om Om]; omega
 have σ:IntKind.i64.wrap (1+(d.1:Int))=((1+d.1:Nat):Int):=by rw[wrap_i64 Om Om]; omega
 have τ:IntKind.i64.wrap (1+(pl.1:Int))=((1+pl.1:Nat):Int):=by rw[wrap_i64 Om Om]; omega
 have υ:IntKind.i64.wrap ((aXE:Int)+1)=((aXE+1:Nat):Int):=dC Om;have h0:aM (PH.nil.set o (bR v a)) [(o,bR v a)] []:=aM.nil.new (H:=PH.nil) rfl (bR v a);simp only[go_sem,DY,Cm,Qh];refine aN fun o6 ι=>?_;have i:=h0.new ι flZ;simp only[go_sem,Cn];refine dP N.toHI T (o:=o) (n:=2) (a:=a) (by decide) ha rfl (i.at 0 rfl) ?_;have u:=i.set 0 rfl (bR v e.2);rw[he];simp only[go_sem,ee];refine aN fun o7 κ=>?_;have B:=u.new κ (flB (.int .i64 (1+e.1:Nat)) .aB .aB .aB .aB .aB .aB);simp only[go_sem,Cp,aYY,aZI,or_false,forall_eq,forall_eq_or_imp];refine dP N.toHI T (o:=o) (n:=2) (a:=e.2) (by decide) ae rfl (B.at 0 rfl) ?_;have h4:=B.set 0 rfl (bR v M.2);rw[Γ];have h5:=h4.perm (B':=FE.boxes ⟨o,o6,o7,aXC,aXE⟩ v (.int .i64 (1+e.1:Nat)) .aB .aB .aB .aB .aB .aB M.2) (L':=[]) (List.Perm.cons _ (List.Perm.swap _ _ _)) (List.Perm.refl _);obtain⟨E,c⟩:∃ E:FE,E=⟨o,o6,o7,aXC,aXE⟩:=⟨_,rfl⟩;rw[← c] at h5;simp only[go_sem,ρ,Cq];refine aCB (C:=C) N.tonH T E (1+M.1) M.2 Om δ _ _ _ _ ?_ h5 ?_
 ·rw[c];unfold fY;exact Lq
 clear h5 h4 B u i h0 ι κ;intro p F1 H1 F i;rw[Y] at i;have f0:F1 0=some (.ptr o 2 0 0):=F 0 _ (by rw[c]; unfold fY; simp only[go_sem]);have f1:F1 1=some (.int .i64 aXC):=F 1 _ (by rw[c]; unfold fY; simp only[go_sem]);have f2:F1 2=some (.int .i64 aXE):=F 2 _ (by rw[c]; unfold fY; simp only[go_sem]);have f6:F1 6=some (.ptr o6 7 0 0):=F 6 _ (by rw[c]; unfold fY; simp only[go_sem]);have f7:F1 7=some (.ptr o7 7 0 0):=F 7 _ (by rw[c]; unfold fY; simp only[go_sem]);have W:=i.at 0 rfl;rw[c] at W;simp only[go_sem,mh,f0];refine dP N.toHI T (o:=o) (n:=2) (a:=aXJ.2) (by decide) O rfl W ?_;have u:=i.set 0 rfl (bR v d.2);rw[Δ];simp only[go_sem,σ,mi];refine anG (C:=C) N.tonH T E (1+d.1) d.2 (1+M.1) Om Om ε (.int .i64 (1+e.1:Nat)) p aXJ.1 β _ _ _ ?_ (by rw[c] at u ⊢; exact u) ?_
 ·rw[c];unfold fY;exact Lq
 clear W u i f0 f1 f2 f6 f7 F;intro w2 F2 H2 J f11 u;rw[S] at u;have f0:F2 0=some (.ptr o 2 0 0):=J 0 _ (by rw[c]; unfold fY; simp only[go_sem]);have f1:F2 1=some (.int .i64 aXC):=J 1 _ (by rw[c]; unfold fY; simp only[go_sem]);have f2:F2 2=some (.int .i64 aXE):=J 2 _ (by rw[c]; unfold fY; simp only[go_sem]);have f6:F2 6=some (.ptr o6 7 0 0):=J 6 _ (by rw[c]; unfold fY; simp only[go_sem]);have f7:F2 7=some (.ptr o7 7 0 0):=J 7 _ (by rw[c]; unfold fY; simp only[go_sem]);obtain⟨qm,μ⟩:=(u.own 1 rfl).one (by rw[aYN]; omega);rw[aYN,V] at μ;subst μ;have χ:(1:Nat)*7≤16777216:=by decide
 simp only[go_sem,mp];refine aA (N.int 0 (by unfold cK; omega)) rfl ?_;simp only[go_sem,aYY,aZI,or_false,forall_eq,forall_eq_or_imp,χ];refine aN fun od Θ=>?_;have B:=u.anV (s:=7) (rows:=kF [mR]) Θ;have b7:=u.at 1 rfl;rw[c] at b7;have n7:¬ o7=od:=by have:=B.neL 1 2 rfl rfl rfl;rw[c] at this; exact this
 simp only[go_sem,f7,b7,n7,aYY,aZI,or_false,forall_eq];have h4:=(B.set 1 rfl (flB (.int .i64 (1+e.1:Nat)) p (.osl qm 4 0 (1+d.1)) (.osl od 7 0 1) .aB .aB .aB)).mY 3;rw[c] at h4;have h5:=h4.perm (B':=(GE.mk o o7 qm (.int .i64 (1+e.1:Nat)) p .aB .aB).boxes v (1+d.1) (.osl od 7 0 1) .aB aXD.2++[(o6,flZ)]) (L':=lW ⟨[mR],[],aXD.2⟩ (.osl od 7 0 1) .aB++[(p,4,iU aXJ.1),(.osl qm 4 0 (1+d.1),4,jX aXD.1)]) (List.Perm.refl _)
  (List.perm_append_comm (l₁:=[(p,4,iU aXJ.1),(.osl qm 4 0 (1+d.1),4,jX aXD.1)]) (l₂:=lW ⟨[mR],[],aXD.2⟩ (.osl od 7 0 1) .aB))
 simp only[go_sem,mq,f0,f1,f7];refine FX h5 (fun H0 ψ=>N.grow l v T (1+d.1) aXC Om Om ω (GE.mk o o7 qm (.int .i64 (1+e.1:Nat)) p .aB .aB) (.osl od 7 0 1) .aB ⟨[mR],[],aXD.2⟩ 0 mR θ rfl rfl H0 ψ) (by simp only[go_sem,f0,f1,f7]; rfl) ?_;rintro r B' L' H3 ⟨rfl,y,A,rfl,rfl⟩ h6;rw[hg] at h6;have h7:=h6.perm (B':=E.boxes v (.int .i64 (1+e.1:Nat)) p (.osl qm 4 0 (1+d.1)) y A .aB .aB g.a) (L':=[(p,4,iU aXJ.1),(.osl qm 4 0 (1+d.1),4,jX aXD.1),(y,7,kF g.aXL),(A,3,mM g.aXV)]) (by rw[c]; exact List.Perm.refl _)
  (List.perm_append_comm (l₁:=lW g y A) (l₂:=[(p,4,iU aXJ.1),(.osl qm 4 0 (1+d.1),4,jX aXD.1)]))
 have W:=h7.at 0 rfl;rw[c] at W;simp only[go_sem,mr,f0];refine dP N.toHI T (o:=o) (n:=2) (a:=g.a) (by decide) hG.a rfl W ?_;have h8:=h7.set 0 rfl (bR v pl.2);rw[Λ];simp only[go_sem,τ,mu];refine Qg (C:=C) N.tonH T E (1+d.1) (1+pl.1) pl.2 Om Om Om ζ ((1+e.1:Nat):Int) p (.osl qm 4 0 (1+d.1)) y A aXJ.1 aXD.1 g.aXL g.aXV _ _ _ (by rw[c]; exact⟨by simp only[go_sem,f0],by simp only[go_sem,f1],by simp only[go_sem,f2],by simp only[go_sem,f6],by simp only[go_sem,f7],by simp only[go_sem,f11],by simp only[go_sem],by simp only[go_sem]; rfl⟩) (by rw[c] at h8 ⊢; exact h8) ?_;clear h8 h7 h6 h5 h4 B u W b7 f0 f1 f2 f6 f7 J;intro X F4 H4 K i;rw[Z] at i;have f0:F4 0=some (.ptr o 2 0 0):=K 0 _ (by rw[c]; unfold fY; simp only[go_sem]);have f1:F4 1=some (.int .i64 aXC):=K 1 _ (by rw[c]; unfold fY; simp only[go_sem]);have f2:F4 2=some (.int .i64 aXE):=K 2 _ (by rw[c]; unfold fY; simp only[go_sem]);have f6:F4 6=some (.ptr o6 7 0 0):=K 6 _ (by rw[c]; unfold fY; simp only[go_sem]);have f7:F4 7=some (.ptr o7 7 0 0):=K 7 _ (by rw[c]; unfold fY; simp only[go_sem]);have W:=i.at 0 rfl;rw[c] at W;simp only[go_sem,m7,f0,f2,υ];refine dP N.toHI T (o:=o) (n:=aXE+1) (a:=pols.2) Om R rfl W ?_;have u:=i.set 0 rfl (bR v vo.2);rw[ν];have B:=u.perm (B':=E.boxes v (.int .i64 (1+e.1:Nat)) p (.osl qm 4 0 (1+d.1)) y A X .aB vo.2) (L':=(X,17,lZ pols.1)::[(p,4,iU aXJ.1),(.osl qm 4 0 (1+d.1),4,jX aXD.1),(y,7,kF g.aXL),(A,3,mM g.aXV)]) (List.Perm.refl _)
  (List.perm_append_comm (l₁:=[(p,4,iU aXJ.1),(.osl qm 4 0 (1+d.1),4,jX aXD.1),(y,7,kF g.aXL),(A,3,mM g.aXV)]) (l₂:=[(X,17,lZ pols.1)]))
 simp only[go_sem,m8];refine X6 (C:=C) N.tonH T E (1+pl.1) vo.1 vo.2 Om Om ο _ _ _ _ _ X pols.1 γ _ _ _ _ ?_ (by rw[c] at B ⊢; exact B) ?_
 ·rw[c];unfold fY;exact Lq
 clear B u i W f0 f1 f2 f6 f7 K;intro w6 F5 H5 η i;rw[α] at i;have f6:F5 6=some (.ptr o6 7 0 0):=η 6 _ (by rw[c]; unfold fY; simp only[go_sem]);have f7:F5 7=some (.ptr o7 7 0 0):=η 7 _ (by rw[c]; unfold fY; simp only[go_sem]);rw[c] at i;have b7:=i.at 1 rfl;have b6:=i.at 2 rfl;have one:∀ (x:PV),x∈[p,y,A,X,w6]→(∃ q s n,x=.osl q s 0 n)∨x=.aB:=by
  intro x hx;have U:∀ {s:Nat} {rows:List (List PV)},bU H5 s x rows→(∃ q s n,x=.osl q s 0 n)∨x=.aB:=by
   rintro s rows (⟨_,h⟩ | ⟨q,rs,h,_⟩)
   ·exact .inr h
   ·exact .inl ⟨q,s,_,h⟩
  simp only[aYY,aZI,or_false] at hx;rcases hx with rfl | rfl | rfl | rfl | rfl
  ·exact U (i.own 1 rfl)
  ·exact U (i.own 3 rfl)
  ·exact U (i.own 4 rfl)
  ·exact U (i.own 0 rfl)
  ·exact U (i.own 5 rfl)
 have w:∀ (x:PV),x∈[p,y,A,X,w6]→PV.one x=true:=fun x hx=>by rcases one x hx with ⟨q,s,n,rfl⟩ | rfl<;>rfl
 have o1:=w p (by simp);have o3:=w y (by simp);have o4:=w A (by simp);have o5:=w X (by simp);have ξ:=w w6 (by simp);simp only[PV.one] at o1 o3 o4 o5 ξ;simp only[go_sem,ni,f6,f7,b7,b6,aYY,aZI,or_false,forall_eq,forall_eq_or_imp,o1,o3,o4,o5,ξ];have u:=i.set 2 rfl (flB (.int .i64 (1+e.1:Nat)) p (.osl qm 4 0 (1+d.1)) y A X w6);have B:=u.sub (B':=[(o,bR v vols.2)]) (a0U.cons_cons _ (List.nil_sublist _)) (a0U.refl _);obtain⟨φ,H6,k1,k2,k3,k4⟩:=aM.giveUp _ B (fun x hx=>by
  simp only[List.cons_append,a2G,aYY,aZI,or_false] at hx;rcases hx with rfl | rfl | rfl | rfl | rfl | rfl
  ·exact afC _
  ·exact acM _
  ·exact acN _
  ·exact Zo _
  ·exact Zq _
  ·exact aMI _) (fun b hb q s rs=>by
  simp only[aYY,aZI,or_false] at hb;subst hb;simp only[cF.frz,a0D,a0X,T.frz];rfl)
 refine zQ (vs:=[.agg [.int .i64 (1+e.1:Nat),p,.osl qm 4 0 (1+d.1),y,A,X,w6]]) (.inr rfl) (by simp only[go_sem,f6]) (k4 _ _ (.done (H2:=PH.nil.set o (bR v vols.2)) ?_ (PH.aK a_ (k3.at 0 rfl))));rw[hR,hT];refine⟨CoL.agg ?_,rfl⟩;have s5:=k1 (X,17,lZ pols.1) (by simp);have s1:=k1 (p,4,iU aXJ.1) (by simp);have s2:=k1 (.osl qm 4 0 (1+d.1),4,jX aXD.1) (by simp);have s3:=k1 (y,7,kF g.aXL) (by simp);have s4:=k1 (A,3,mM g.aXV) (by simp);have s6:=k1 (w6,2,oT vols.1) (by simp);have s0:φ (.int .i64 (1+e.1:Nat))=.int .i64 (1+e.1:Nat):=k2 _ rfl;show CoL [φ (.int .i64 (1+e.1:Nat)),φ p,φ (.osl qm 4 0 (1+d.1)),φ y,φ A,φ X,φ w6] _;rw[s0];exact CoL.cons (.refl _) (CoL.cons s1.co (CoL.cons s2.co (CoL.cons s3.co (CoL.cons s4.co (CoL.cons s5.co (CoL.cons s6.co .nil))))))
structure aqS (C:Ctx):Prop extends Jx C where
 new:∀ (l:List Nat),(∀ x∈l,x<256)→l.length≤9223372036854775807→aH C 28 [.sl 1 (kO l)] .nil (akD l)
 fleet:∀ (l:List Nat) (v:PV),Tp l v→∀ (o aXC aXE a:Nat),aXC≤60→aXE≤50→a≤l.length →
  aH C 0 [.ptr o 2 0 0,.int .i64 aXC,.int .i64 aXE] (PH.nil.set o (bR v a)) (fun r H=>r=.agg (iR l aXC aXE a).1.cells∧H=PH.nil.set o (bR v (iR l aXC aXE a).2))
theorem PU.exact {C:Ctx} {name:Nat} {args:List PV} {H:PH} {l:List Nat} {v:PV} {o aXC aXE a:Nat} (h:aH C name args H (PU l v o aXC aXE a)):aH C name args H (fun r H=>r=.agg (iR l aXC aXE a).1.cells∧H=PH.nil.set o (bR v (iR l aXC aXE a).2)) :=
 h.post fun r H' c=>⟨_,c.1,rfl,c.2⟩
theorem atD {C:Ctx} (p:aqS C) (l:List Nat) (w:∀ x∈l,x<256) (y:l.length≤9223372036854775807) (aXC aXE:Nat) (c:aXC≤60) (i:aXE≤50) :
  DW.wp C (aR P8.res (cA (.agg (iR (l.take 400) aXC aXE 0).1.cells))) (PF.args [.sl 1 (kO l),.int .i64 aXC,.int .i64 aXE]) .nil:=by
 simp only[go_sem,DW,Cg,P8];refine aN fun o6 A=>?_;simp only[go_sem,Ch];refine lF (p.new l w y) rfl a_ ?_;rintro r H' ⟨o,v,rfl,T,rfl⟩ u;have d:¬ o6=o:=by intro e;subst e;have:=u o6 (bR v 0) (by rw[aT,if_pos rfl]) rfl;rw[aT,if_pos rfl] at this;cases this
 rw[PH.pU];simp only[go_sem];refine nA (p.fleet _ v T o aXC aXE 0 c i (aYS _)) (by rw[aT,if_pos rfl]) rfl ?_;simp only[go_sem,d];exact aZ (vs:=[.agg (iR (l.take 400) aXC aXE 0).1.cells]) (.inr rfl) .nil Sq a_ ⟨.refl _,rfl⟩
theorem CoL.aUR:CoL [] []:=⟨rfl,fun j p q h=>by simp at h⟩
theorem CoL.alC {p q:PV} {ps d:List PV} (h:Co p q) (c:CoL ps d):CoL (p::ps) (q::d):=by
 refine⟨by simp[c.len],fun j x y a b=>?_⟩;cases j with
 | zero =>simp only[List.getElem?_cons_zero,a0Y.injEq] at a b;subst a; subst b; exact h
 | succ j=>exact c.at_ j x y (by simpa using a) (by simpa using b)
theorem aH.seen {C:Ctx} {name:Nat} {args:List PV} {H:PH} {v:PV} (h:aH C name args H (cA v)):aH C name args H (aF v) :=
 h.post fun r H' c=>⟨v,c.1,rfl,c.2⟩
def WU (x:RF):Bool:=(x.num.all (fun n=>decide (n<4294967296))&&x.den.all fun n=>decide (n<4294967296))&&(decide (x.num.length≤9)&&decide (x.den.length≤9))
theorem MN {x:RF} (h:WU x=true):x.Ok:=by
 simp only[WU,aZD,aZC,decide_eq_true_eq] at h;exact⟨h.1.1,h.1.2,by omega,by omega⟩
def GY (l:List RF):Bool:=decide (l.length≤9)&&l.all WU
theorem CQ {l:List RF} (h:GY l=true):jR l:=by
 simp only[GY,aZD,aZC,decide_eq_true_eq] at h;exact⟨by unfold Fits; omega,fun x c=>MN (h.2 x c)⟩
def Ps (x:cG):Bool:=(GY x.start&&GY x.exit)&&(decide (x.aXH.length≤9)&&x.aXH.all GY)
theorem asS {x:cG} (h:Ps x=true):x.Ok:=by
 simp only[Ps,aZD,aZC,decide_eq_true_eq] at h;exact⟨CQ h.1.1,CQ h.1.2,by unfold Fits; omega,fun r c=>CQ (h.2.2 r c)⟩
def S4 (x:bV):Bool:=(decide (cK x.k∧cK x.m∧cK x.aYA)&&(decide (x.aXD.length≤9)&&x.aXD.all fun m=>decide (cK m)))&&(GY x.repair&&(WU x.target&&WU x.aXM))
theorem auU {x:bV} (h:S4 x=true):x.Ok:=by
 simp only[S4,aZD,aZC,decide_eq_true_eq] at h;exact⟨h.1.1.1,h.1.1.2.1,h.1.1.2.2,by unfold Fits; omega,h.1.2.2,CQ h.2.1,MN h.2.2.1,MN h.2.2.2⟩
def okB (f:aE):Bool:=(decide (f.aXJ.length≤99∧f.aXD.length≤99∧f.aXF.length≤99∧f.aXC.length≤99∧f.aXG.length≤99∧f.aXE.length≤99)&&(f.aXJ.all Ps&&f.aXG.all S4)) &&
 (f.aXF.all (fun x=>WU x.aXR&&decide (cK x.level∧cK x.parent))&&(f.aXC.all (fun x=>decide (cK x.model∧cK x.machine))&&f.aXE.all fun x=>decide (cK x.aXO)))
theorem aON {f:aE} (h:okB f=true):f.Ok:=by
 simp only[okB,aZD,aZC,decide_eq_true_eq] at h;obtain⟨⟨⟨p,u,w,y,A,B⟩,e,i⟩,d,l,h5⟩:=h;exact⟨by unfold Fits; omega,by unfold Fits; omega,by unfold Fits; omega,by unfold Fits; omega,by unfold Fits; omega,by unfold Fits; omega,fun x c=>asS (e x c),fun x c=>⟨MN (d x c).1,(d x c).2⟩,l,fun x c=>auU (i x c),h5⟩
end Go.PM
