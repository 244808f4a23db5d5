/-
  Texts of ours, joined. No condition.
-/
import Derived.Test.YtkknafmijabgaaaGreatDoorFN1
import Derived.Test.YtkknafmijabgaaaGreatDoorFN2
import Derived.Lib.ItoaNum
set_option linter.unusedSimpArgs false
set_option linter.unusedVariables false
open Nat renaming reduceEqDiff → γ, reduceAdd → δ, reduceSub → ε, reduceMul → ζ, reduceLT → η, reduceLeDiff → θ, reduceBEq → τ
open Int renaming reduceLT → ι, reduceLE → κ, reduceEq → μ, reduceToNat → ν, reduceAdd → ξ, reduceNeg → ο, reduceBEq → ρ, reduceBNe → σ
open List renaming reduceReplicate → υ
open List renaming range → aTI, length_map → aTJ, replicate → aTK, length_append → aTM, getElem_mem → aTN, getElem?_eq_getElem → aTP, getD_eq_getElem?_getD → aTR, length_singleton → aTT, mem_cons → aTW, length_take → aUA, take_of_length_le → aUB, mem_range → aUD, getElem?_map → aUG, all_eq_true → aUH, not_mem_nil → aUJ, mem_map → aUK, getElem?_eq_some_iff → aUN, append_assoc → aUP, map_cons → aUQ, mem_append → aUR, take_length → aUS, drop_zero → aUV, getElem?_eq_none → aUW, map_append → aUX, mem_singleton → aUY, append_nil → aVC, getElem_of_mem → aVD, mem_of_getElem? → aVH, length_set → aVJ, map_congr_left → aVN, Sublist → aVO, getElem_map → aVQ, length_nil → aVR, take_succ_eq_append_getElem → aVS, drop_eq_getElem_cons → aVV, Perm → aVX, map_nil → aVZ, range_succ → aWA, nodup_append → aWG, take_append_drop → aWH, getElem?_range → aWL, map_map → aWO, nil_append → aWP, mem_cons_of_mem → aWV, set_append_right → aWZ, drop_of_length_le → aXE, getElem?_set → aXF, sublist_append_left → aXG
open Nat renaming gcd → aTL, le_refl → aTO, zero_le → aTQ, lt_or_ge → aUE, zero_add → aUF, mod_eq_of_lt → aUZ, add_zero → aVB, mod_lt → aVF, eq_zero_or_pos → aVP, min_eq_left → aVT, pos_of_ne_zero → aWD, le_trans → aWI
open Bool renaming false_and → aTS, not_true → aTV, true_and → aTY, not_false → aTZ, and_eq_true → aUC, and_false → aUU, and_true → aVK, false_eq_true → aWM, and_assoc → aWU
open Option renaming map_some → aUO, some → aVU, getD_some → aWE
open Array renaming getElem?_eq_some_iff → aXH
open Int renaming toNat_natCast → aWN
namespace Go.PM
open Go Go.Na
theorem bB {t:Nat} {b j:Bool} {F:PF} {H:PH} (h:F t=some (.bool b)) (e:b=j):aR [.tmp t] (cB (.bool j)) .ret F H:=by
 subst e;exact aV (.inr rfl) .nil (vs:=[.bool b]) (by rw[lK,oI,h,pK]) a_ ⟨.refl _,rfl⟩
theorem aJB {C:Ctx} (n lo hi:Int):AX.wp C (aR gin.res (cB (.bool (within n lo hi)))) (PF.args [.int .i64 n,.int .i64 lo,.int .i64 hi]) .nil:=by
 by_cases a:lo≤n
 ·by_cases b:n≤hi
  ·simp only[go_sem,AX,jg,jh,gin,show n≥lo from a,b];exact bB Ev (by simp[within,a,b])
  ·simp only[go_sem,AX,jg,jh,gin,show n≥lo from a,b];exact bB Ev (by simp[within,a,b])
 ·have e:¬ n≥lo:=a;simp only[go_sem,AX,jg,jh,gin,e];exact bB Ev (by simp[within,a])
theorem anK {C:Ctx} (L:tQ C) (x:RF) (e:x.Ok):DS.wp C (aR Ic.res (cB (.bool (bJ x)))) (PF.args [.agg x.cells]) .nil:=by
 simp only[go_sem,DS,w8,w9,Ic];refine aA (L.bits x.num e.1 e.2.2.1) Ev ?_;simp only[go_sem];refine bB Ev ?_;have:=@kV (val x.num);rw[bJ,decide_eq_decide];omega
structure Dx (C:Ctx):Prop extends HL C where
 frac:∀ n d:Int,dN n→dN d→aG C 115 [.int .i64 n,.int .i64 d] .nil (aI (js n d))
 red:∀ x:RF,x.Ok→aG C 116 [.agg x.cells] .nil (aI (frV (pN x)))
 ord:∀ x y:RF,x.Ok→y.Ok→aG C 114 [.agg x.cells,.agg y.cells] .nil (aI (CD x.neg (val x.num) (val x.den) y.neg (val y.num) (val y.den)))
 plus:∀ x y:RF,x.Ok→y.Ok→aG C 113 [.agg x.cells,.agg y.cells] .nil (aI (frV (iW x.v y.v)))
 tot:∀ l:List RF,kR l→aG C 117 [frs l] .nil (aI (frV (oM (l.map RF.v))))
theorem JN {neg:Bool} {a b:Nat} {e:Int} (h:jN neg a b=.error e):e=2:=by
 unfold jN at h;split at h
 ·injection h with h; exact h.symm
 ·cases h
theorem Pj {x:RF} {e:Int} (h:pN x=.error e):e≠0:=by
 unfold pN at h;split at h
 ·rw[JN h]; decide
 ·injection h with h; subst h; decide
theorem aGJ {x:RF} {r:FV} (h:pN x=.ok r):r.rf.Ok:=by
 unfold pN at h;split at h
 ·exact (uC h).2
 ·cases h
theorem aDR {C:Ctx} (L:Dx C) (x:RF) (y:x.Ok):QB.wp C (aR auY.res (cB (.bool (dB x)))) (PF.args [.agg x.cells]) .nil:=by
 simp only[go_sem,QB,Xr,Xs,auY];refine aA (L.red x y) Ev ?_;unfold dB;cases u:pN x with
 | error e =>have:=bE (Pj u);simp only[go_sem,frV];refine aO fun o w=>?_;simp only[go_sem,UI,this];exact bB Ev rfl
 | ok r =>
  obtain⟨n,a,b⟩:=r;obtain⟨A,B,E,F⟩:=aGJ u;simp only[go_sem,frV];refine aO fun o w=>?_;cases n with
  | true =>simp only[go_sem,UI];exact bB Ev rfl
  | false =>
   simp only[go_sem,UI];refine aA (L.bits _ A E) Ev ?_;rw[show val (FV.rf (false,a,b)).num=a from aS a];by_cases l:cW a≤32
   ·have j:((cW a:Nat):Int)≤32:=Om;simp only[go_sem,j];refine aA (L.bits _ B F) Ev ?_;rw[show val (FV.rf (false,a,b)).den=b from aS b];simp only[go_sem];refine bB Ev ?_;rw[decide_eq_true l];simp;omega
   ·have j:¬ ((cW a:Nat):Int)≤32:=Om;simp only[go_sem,j];refine bB Ev ?_;rw[decide_eq_false l];rfl
theorem K5:jN false 1 1=.ok (false,1,1):=by
 have:cW 1=1:=by rw[pX (by decide),kJ]
 simp[jN,this]
theorem Lc:js 1 1=frV (.ok (false,1,1)):=by
 rw[js,if_neg (by decide),s9];show frV (jN false 1 1)=_;rw[K5]
theorem apR:(FV.rf (false,1,1)).Ok:=(uC K5).2
theorem B0:dC 1 1=true:=by
 have:cW 1=1:=by rw[pX (by decide),kJ]
 simp[dC,this]
theorem aDV {C:Ctx} (L:Dx C) (x:RF) (e:x.Ok):QD.wp C (aR gone.res (cB (.bool (xV x)))) (PF.args [.agg x.cells]) .nil:=by
 simp only[go_sem,QD,Xw,Xx,gone];refine aA (L.frac 1 1 (by decide) (by decide)) Ev ?_;rw[Lc];simp only[go_sem,frV];refine aO fun o j=>?_;simp only[go_sem,Xy];refine aA (L.ord x (FV.rf (false,1,1)) e apR) Ev ?_;rw[show val (FV.rf (false,1,1)).num=1 from aS 1,show val (FV.rf (false,1,1)).den=1 from aS 1,show (FV.rf (false,1,1)).neg=false from rfl];unfold CD xV;rw[B0,aVK];cases l:dC (val x.num) (val x.den) with
 | false =>simp only[go_sem,ss];exact bB Ev rfl
 | true =>simp only[go_sem,ss];exact bB Ev rfl
theorem auQ {C:Ctx} (p:RF→Bool) (fn:Nat) (l:List RF) (y:Fits l) (h:∀ x∈l,aG C fn [.agg x.cells] .nil (aI (.bool (p x)))) :
  IP.wp C (aR ahE.res (cB (.bool (l.all p)))) (PF.args [frs l,.fn fn []]) .nil:=by
 simp only[go_sem,IP,In,Io,ahE];refine wp_loop (α:=Nat) (fun k=>((((PF.nil.set 1 (.fn fn [])).set 7 (frs l)).set 8 (.int .i64 (l.length:Nat))).set 9 (.int .i64 k))) (fun _=>.nil) (fun k=>k≤l.length∧(l.take k).all p=true) (fun k=>l.length-k) 0 ⟨aTQ _,rfl⟩ ?_ a_ ?_
 ·(repeat' (first|exact c_|refine d_ ?_ ?_))<;>first|(simp only[go_sem,aTJ]<;>rfl)|rfl
 rintro k ⟨A,j⟩;simp only[go_sem,Im,Ip];by_cases hlt:k<l.length
 ·have e:(k:Int)<(l.length:Nat):=Om;have w:(l.map RF.cells)[k]?=some (l[k]).cells:=by simp[hlt]
  simp only[go_sem,e,Iq,w];refine aO fun o B=>?_;simp only[go_sem,Ir];refine aA (h _ (aTN hlt)) Ev ?_;cases u:p l[k] with
  | false =>simp only[go_sem,Is];exact bB (b:=false) Ev (pW (p:=p) hlt u).symm
  | true =>simp only[go_sem,It,wZz k];refine aH (k+1) ⟨hlt,aUH.1 (pV hlt j u)⟩ Om ?_ a_;exact Lq
 ·have e:¬ (k:Int)<(l.length:Nat):=Om;simp only[go_sem,e,Iu];have:k=l.length:=Om;subst this;rw[aUB (aTO _)] at j;exact bB Ev j.symm
theorem auS {C:Ctx} (p:Int→Bool) (fn:Nat) (l:List Int) (y:Fits l) (h:∀ x∈l,aG C fn [.int .i64 x] .nil (aI (.bool (p x)))) :
  IQ.wp C (aR ahF.res (cB (.bool (l.all p)))) (PF.args [ints l,.fn fn []]) .nil:=by
 simp only[go_sem,IQ,Iw,Ix,ahF];refine wp_loop (α:=Nat) (fun k=>((((PF.nil.set 1 (.fn fn [])).set 7 (ints l)).set 8 (.int .i64 (l.length:Nat))).set 9 (.int .i64 k))) (fun _=>.nil) (fun k=>k≤l.length∧(l.take k).all p=true) (fun k=>l.length-k) 0 ⟨aTQ _,rfl⟩ ?_ a_ ?_
 ·(repeat' (first|exact c_|refine d_ ?_ ?_))<;>first|(simp only[go_sem,aTJ]<;>rfl)|rfl
 rintro k ⟨A,j⟩;simp only[go_sem,Iv,Iy];by_cases hlt:k<l.length
 ·have e:(k:Int)<(l.length:Nat):=Om;have w:(l.map fun n=>[PV.int .i64 n])[k]?=some [.int .i64 l[k]]:=by simp[hlt]
  simp only[go_sem,e,Iz,w,I0];refine aA (h _ (aTN hlt)) Ev ?_;cases u:p l[k] with
  | false =>simp only[go_sem,I1];exact bB (b:=false) Ev (pW (p:=p) hlt u).symm
  | true =>simp only[go_sem,I2,wZz k];refine aH (k+1) ⟨hlt,aUH.1 (pV hlt j u)⟩ Om ?_ a_;exact Lq
 ·have e:¬ (k:Int)<(l.length:Nat):=Om;simp only[go_sem,e,I3];have:k=l.length:=Om;subst this;rw[aUB (aTO _)] at j;exact bB Ev j.symm
abbrev lD (l:List Bool):PV:=.sl 1 (l.map fun b=>[PV.bool b])
theorem auO {C:Ctx} (p:Bool→Bool) (fn:Nat) (l:List Bool) (y:Fits l) (h:∀ x∈l,aG C fn [.bool x] .nil (aI (.bool (p x)))) :
  IN.wp C (aR ahD.res (cB (.bool (l.all p)))) (PF.args [lD l,.fn fn []]) .nil:=by
 simp only[go_sem,IN,Ie,If,ahD];refine wp_loop (α:=Nat) (fun k=>((((PF.nil.set 1 (.fn fn [])).set 7 (lD l)).set 8 (.int .i64 (l.length:Nat))).set 9 (.int .i64 k))) (fun _=>.nil) (fun k=>k≤l.length∧(l.take k).all p=true) (fun k=>l.length-k) 0 ⟨aTQ _,rfl⟩ ?_ a_ ?_
 ·(repeat' (first|exact c_|refine d_ ?_ ?_))<;>first|(simp only[go_sem,aTJ]<;>rfl)|rfl
 rintro k ⟨A,j⟩;simp only[go_sem,Id,Ig];by_cases hlt:k<l.length
 ·have e:(k:Int)<(l.length:Nat):=Om;have w:(l.map fun b=>[PV.bool b])[k]?=some [.bool l[k]]:=by simp[hlt]
  simp only[go_sem,e,Ih,w,Ii];refine aA (h _ (aTN hlt)) Ev ?_;cases u:p l[k] with
  | false =>simp only[go_sem,Ij];exact bB (b:=false) Ev (pW (p:=p) hlt u).symm
  | true =>simp only[go_sem,Ik,wZz k];refine aH (k+1) ⟨hlt,aUH.1 (pV hlt j u)⟩ Om ?_ a_;exact Lq
 ·have e:¬ (k:Int)<(l.length:Nat):=Om;simp only[go_sem,e,Il];have:k=l.length:=Om;subst this;rw[aUB (aTO _)] at j;exact bB Ev j.symm
theorem anM {C:Ctx} (b:Bool):DT.wp C (aR I7.res (cB (.bool b))) (PF.args [.bool b]) .nil:=by
 simp only[go_sem,DT,xa,xb,I7];exact bB Ev rfl
theorem avA {C:Ctx} (e:∀ n lo hi:Int,aG C 104 [.int .i64 n,.int .i64 lo,.int .i64 hi] .nil (aI (.bool (within n lo hi)))) (n:Int):IU.wp C (aR ahL.res (cB (.bool (within n 0 8)))) (PF.args [.int .i64 n]) .nil:=by
 simp only[go_sem,IU,Jg,Jh,ahL];refine aA (e n 0 8) Ev ?_;simp only[go_sem];exact bB Ev rfl
theorem anP {C:Ctx} (j:∀ x:RF,x.Ok→aG C 105 [.agg x.cells] .nil (aI (.bool (dB x)))) (l:∀ x:RF,x.Ok→aG C 97 [.agg x.cells] .nil (aI (.bool (bJ x)))) (x:RF) (e:x.Ok) :
  DU.wp C (aR Jl.res (cB (.bool (dB x&&bJ x)))) (PF.args [.agg x.cells]) .nil:=by
 simp only[go_sem,DU,xg,xh,Jl];refine aA (j x e) Ev ?_;cases u:dB x with
 | false =>simp only[go_sem];exact bB Ev rfl
 | true =>simp only[go_sem];refine aA (l x e) Ev ?_;simp only[go_sem];exact bB Ev rfl
structure tM (C:Ctx):Prop extends Dx C where
 inn:∀ n lo hi:Int,aG C 104 [.int .i64 n,.int .i64 lo,.int .i64 hi] .nil (aI (.bool (within n lo hi)))
 rU:∀ x:RF,x.Ok→aG C 97 [.agg x.cells] .nil (aI (.bool (bJ x)))
 lim:∀ x:RF,x.Ok→aG C 105 [.agg x.cells] .nil (aI (.bool (dB x)))
 one:∀ x:RF,x.Ok→aG C 101 [.agg x.cells] .nil (aI (.bool (xV x)))
 allf:∀ (p:RF→Bool) (fn:Nat) (l:List RF),Fits l→(∀ x∈l,aG C fn [.agg x.cells] .nil (aI (.bool (p x))))→aG C 99 [frs l,.fn fn []] .nil (aI (.bool (l.all p)))
 alli:∀ (p:Int→Bool) (fn:Nat) (l:List Int),Fits l→(∀ x∈l,aG C fn [.int .i64 x] .nil (aI (.bool (p x))))→aG C 100 [ints l,.fn fn []] .nil (aI (.bool (l.all p)))
 allb:∀ (p:Bool→Bool) (fn:Nat) (l:List Bool),Fits l→(∀ x∈l,aG C fn [.bool x] .nil (aI (.bool (p x))))→aG C 98 [lD l,.fn fn []] .nil (aI (.bool (l.all p)))
 ends1:∀ b:Bool,aG C 103 [.bool b] .nil (aI (.bool b))
 num1:∀ n:Int,aG C 107 [.int .i64 n] .nil (aI (.bool (within n 0 8)))
 rate1:∀ x:RF,x.Ok→aG C 109 [.agg x.cells] .nil (aI (.bool (dB x&&bJ x)))
 name:∀ s:List UInt8,aG C 123 [.str s] .nil (aI (.bool (isName s)))
theorem tM.avU {C:Ctx} (L:tM C) (l:List RF) (h:kR l):aG C 99 [frs l,.fn 105 []] .nil (aI (.bool (l.all dB))) :=
 L.allf dB 105 l h.fits fun x e=>L.lim x (h.all x e)
theorem within_iff {n lo hi:Int}:within n lo hi=true↔lo≤n∧n≤hi:=by simp[within]
theorem aDT {C:Ctx} (L:tM C) (p:dD) (F:p.Ok) :
  QC.wp C (aR auZ.res (cB (.bool (KV p)))) (PF.args [.int .i64 p.k,.int .i64 p.m,.int .i64 p.aST,.agg [.int .i64 p.s0,.int .i64 p.s1,.int .i64 p.s2,.int .i64 p.s3,.int .i64 p.s4]]) .nil:=by
 simp only[go_sem,QC,Xt,Xu,auZ];refine aA (L.inn p.k 1 6) rfl ?_;unfold KV;cases y:within p.k 1 6 with
 | false =>simp only[go_sem,aTZ,zX];exact bB rfl (by simp only[aTS])
 | true =>
  obtain⟨k1,k2⟩:=within_iff.1 y;simp only[go_sem,aTV];refine aA (L.inn p.m 0 4) rfl ?_;cases A:within p.m 0 4 with
  | false =>simp only[go_sem,aTZ,zX];exact bB rfl (by simp only[aTS,aUU])
  | true =>
   obtain⟨I,J⟩:=within_iff.1 A;have w:IntKind.i64.wrap (p.k+p.m)=p.k+p.m:=wrap_i64 Om Om;by_cases u:p.k+p.m≤8
   ·have e:¬ p.k+p.m>8:=Om;simp only[go_sem,aTV,w,e];refine aA (L.inn p.aST p.k (p.k+p.m)) rfl ?_;cases E:within p.aST p.k (p.k+p.m) with
    | false =>simp only[go_sem,aTZ,zX];exact bB rfl (by simp only[aTS,aUU])
    | true =>
     have j:(0:Int)<((5:Nat):Int):=by decide
     by_cases h5:p.s0=0
     ·have l:chunks 1 5 [PV.int .i64 p.s0,.int .i64 p.s1,.int .i64 p.s2,.int .i64 p.s3,.int .i64 p.s4]=([p.s0,p.s1,p.s2,p.s3,p.s4].map fun n=>[PV.int .i64 n]):=rfl;have B:5≤maxLen:=by decide
      simp only[go_sem,aTV,j,bV h5,Xv,l,B];refine aA (L.alli (fun n=>within n 0 8) 107 [p.s0,p.s1,p.s2,p.s3,p.s4] (show 5≤9223372036854775807 by decide) fun x _=>L.num1 x) rfl ?_;simp only[go_sem];exact bB rfl (by rw[decide_eq_true u,decide_eq_true h5]; simp only[aTY])
     ·simp only[go_sem,aTV,j,dK h5,zX];exact bB rfl (by rw[decide_eq_false h5]; simp only[aTS,aUU])
   ·have e:p.k+p.m>8:=Om;simp only[go_sem,aTV,w,e,zX];exact bB rfl (by rw[decide_eq_false u]; simp only[aTS,aUU])
theorem max_eq (a b:Int):(if a<b then b else a)=max a b:=by
 rw[Int.max_def];by_cases h:a<b
 ·rw[if_pos h,if_pos Om]
 ·by_cases e:a≤b
  ·rw[if_neg h,if_pos e]; omega
  ·rw[if_neg h,if_neg e]
theorem avD {C:Ctx} (L:tM C) (p:dD) (e:p.Ok) :
  IV.wp C (aR ahM.res (cB (.bool (CS p)))) (PF.args [.int .i64 p.m,frs p.repair,.agg p.target.cells,.agg p.aSF.cells]) .nil:=by
 simp only[go_sem,IV,Jm,Jn,ahM,max_eq,aTJ];unfold CS;by_cases j:(p.repair.length:Int)=max p.m 1
 ·simp only[go_sem,bP j];refine aA (L.allf (fun x=>dB x&&bJ x) 109 p.repair e.repair.fits fun x l=>L.rate1 x (e.repair.all x l)) rfl ?_;rw[decide_eq_true j,aTY];cases u:p.repair.all fun x=>dB x&&bJ x with
  | false =>simp only[go_sem];exact bB rfl rfl
  | true =>
   simp only[go_sem];refine aA (L.lim _ e.target) rfl ?_;cases w:dB p.target with
   | false =>simp only[go_sem];exact bB rfl rfl
   | true =>
    simp only[go_sem];refine aA (L.one _ e.target) rfl ?_;cases y:xV p.target with
    | false =>simp only[go_sem];exact bB rfl rfl
    | true =>simp only[go_sem];refine aA (L.lim _ e.aSF) rfl ?_;simp only[go_sem];exact bB rfl rfl
 ·simp only[go_sem,bE j];exact bB rfl (by rw[decide_eq_false j]; rfl)
def rF (l:List (List UInt8)) (k:List KS):Option PV:=match k with
 | [.str s]=>if l.contains s then some (.bool true) else none
 | _=>none
theorem aqP (l:List (List UInt8)) (s:List UInt8):(fun k=>if k=[KS.str s] then some (PV.bool true) else rF l k)=rF (l++[s]):=by
 funext k
 match k with
 | []=>rfl
 | [.int a b]=>simp[rF]
 | [.bool a]=>simp[rF]
 | [.str t] =>
  by_cases h:t=s
  ·subst h; simp[rF]
  ·simp[rF,h]
 | a::b::c=>simp[rF]
abbrev texts (l:List (List UInt8)):PV:=.sl 1 (l.map fun s=>[PV.str s])
theorem aqO:rF []=(fun _=>none:kK):=by
 funext k
 match k with
 | []=>rfl
 | [.int a b]=>rfl
 | [.bool a]=>rfl
 | [.str t]=>rfl
 | a::b::c=>cases a<;>rfl
theorem aqQ (l:List (List UInt8)) (s:List UInt8):kK.upd (rF l) [KS.str s] (.bool true)=rF (l++[s]):=aqP l s
theorem Px (l:List (List UInt8)) (s:List UInt8):(rF l [KS.str s]).getD (.bool false)=.bool (l.contains s):=by
 show (if l.contains s then some (PV.bool true) else none).getD (.bool false)=_;cases l.contains s<;>rfl
theorem uv {p:Nat→Bool} {k:Nat} (h:(aTI k).all p=true) (e:p k=true):(aTI (k+1)).all p=true:=by
 rw[aWA,List.all_append,h]; simp[e]
theorem fK {p:Nat→Bool} {n k:Nat} (e:k<n) (j:p k=false):(aTI n).all p=false:=by
 rw[List.all_eq_false];exact⟨k,aUD.2 e,by simp[j]⟩
def rS (p:Nat→Bool) (k:Nat):Prop:=(aTI k).all p=true
theorem rS.zero {p:Nat→Bool}:rS p 0:=rfl
theorem rS.step {p:Nat→Bool} {k:Nat} (h:rS p k) (e:p k=true):rS p (k+1):=uv h e
def akQ (l:List (List UInt8)) (o k:Nat):PF:=((((PF.nil.set 3 (.map o)).set 7 (texts l)).set 8 (.int .i64 (l.length:Nat))).set 9 (.int .i64 k))
theorem avG {C:Ctx} (L:tM C) (l:List (List UInt8)) (F:Fits l):IW.wp C (aR ahP.res (cB (.bool (distinct l)))) (PF.args [texts l]) .nil:=by
 simp only[go_sem,IW,Jt,Ju,ahP];refine aO fun o J=>?_;simp only[go_sem,Jv];have A:(PH.nil.set o (.map (false,[.str]) (fun _=>none)))=PH.nil.set o (.map (false,[.str]) (rF (l.take 0))):=by rw[List.take_zero,aqO]
 unfold distinct;generalize B:(fun i=>isName (l.getD i [])&&!(l.take i).contains (l.getD i []))=p;have w:∀ k (h:k<l.length),p k=(isName l[k]&&!(l.take k).contains l[k]):=by intro k h;rw[← B];simp only[aTR,aTP h,aWE]
 refine wp_loop (α:=Nat) (fun k=>akQ l o k) (fun k=>PH.nil.set o (.map (false,[.str]) (rF (l.take k)))) (fun k=>k≤l.length∧rS p k) (fun k=>l.length-k) 0 ⟨aTQ _,.zero⟩ ?_ ?_ ?_
 ·unfold akQ
  (repeat' (first|exact c_|refine d_ ?_ ?_))<;>first|(simp only[go_sem,aTJ]<;>rfl)|rfl
 ·rw[A]; exact b_
 rintro k ⟨I,y⟩;simp only[go_sem,Js,Jw,akQ];by_cases hlt:k<l.length
 ·have j:(k:Int)<(l.length:Nat):=Om;have E:(l.map fun s=>[PV.str s])[k]?=some [.str l[k]]:=by simp[hlt]
  simp only[go_sem,j,Jx,E,Jy];refine aA (L.name l[k]) rfl ?_;have e:=w k hlt;cases x:isName l[k] with
  | false =>rw[x,aTS] at e;simp only[go_sem,aTZ,ZN];exact bB (b:=false) rfl (fK hlt e).symm
  | true =>
   rw[x,aTY] at e;cases u:(l.take k).contains l[k] with
   | true =>rw[u] at e;simp only[go_sem,aTV,Px,u,ZN];exact bB (b:=false) rfl (fK hlt e).symm
   | false =>
    rw[u] at e;simp only[go_sem,aTV,Px,u,Jz,aqQ,J0,wZz k];refine aH (k+1) ⟨hlt,y.step e⟩ Om ?_ ?_
    ·exact Lq
    ·rw[aVS hlt];exact e_ a_ Sq
 ·have j:¬ (k:Int)<(l.length:Nat):=Om;simp only[go_sem,j,xi];have:k=l.length:=Om;subst this;exact bB (b:=true) rfl (show rS p l.length from y).symm
def marks (n:Nat) (l:List Int):List Bool:=(aTI n).map fun (i:Nat)=>l.contains (i:Int)
theorem aoF (n:Nat) (l:List Int):(marks n l).length=n:=by simp[marks]
theorem xx (n:Nat):marks n []=aTK n false:=by
 refine List.ext_getElem (by simp[marks]) fun i e j=>by simp[marks]
theorem ao {n:Nat} {l:List Int} {m:Int} (e:0≤m) (j:m<n):(marks n l)[m.toNat]?=some (l.contains m):=by
 have:m.toNat<n:=Om;simp only[marks,aUG,aWL this,aUO];rw[Int.toNat_of_nonneg e]
theorem xz {n:Nat} {l:List Int} {m:Int} (j:0≤m) (u:m<n):(marks n l).set m.toNat true=marks n (l++[m]):=by
 refine List.ext_getElem (by simp[marks]) fun i w x=>?_;simp only[marks,aVQ,List.getElem_range,List.getElem_set,List.contains_append];by_cases h:m.toNat=i
 ·subst h;rw[if_pos rfl,Int.toNat_of_nonneg j]; simp
 ·have e:((i:Nat):Int)≠m:=Om;rw[if_neg h]; simp[e]
abbrev bK (l:List Bool):List (List PV):=l.map fun b=>[PV.bool b]
theorem kW (l:List Bool) (i:Nat) (b:Bool):(bK l).set i [.bool b]=bK (l.set i b):=by unfold bK; rw[List.map_set]
structure Ek (C:Ctx):Prop extends tM C where
 num:∀ p:dD,p.Ok→aG C 106 [.int .i64 p.k,.int .i64 p.m,.int .i64 p.aST,.agg [.int .i64 p.s0,.int .i64 p.s1,.int .i64 p.s2,.int .i64 p.s3,.int .i64 p.s4]] .nil (aI (.bool (KV p)))
 rate:∀ p:dD,p.Ok→aG C 108 [.int .i64 p.m,frs p.repair,.agg p.target.cells,.agg p.aSF.cells] .nil (aI (.bool (CS p)))
 uniq:∀ l:List (List UInt8),Fits l→aG C 110 [texts l] .nil (aI (.bool (distinct l)))
def axY (p:dD) (aRV:Nat) (o k:Nat):PF:=(((((PF.nil.set 1 (.int .i64 aRV)).set 5 (.osl o 1 0 aRV)).set 39 (ints p.aRV)).set 40 (.int .i64 (p.aRV.length:Nat))).set 41 (.int .i64 k))
theorem aDX {C:Ctx} (L:Ek C) (p:dD) (I:p.Ok) (aRV:Nat) (V:aRV≤4):QE.wp C (aR avC.res (cB (.bool (kC aRV p)))) (PF.args [.agg p.cells,.int .i64 aRV]) .nil:=by
 simp only[go_sem,QE,Xz,X0,avC];refine aA (L.num p I) rfl ?_;unfold kC;cases x:KV p with
 | false =>simp only[go_sem,aTZ,UJ];exact bB rfl (by simp only[aTS])
 | true =>
  by_cases w:p.aRV.length=0
  ·simp only[go_sem,aTV,aTJ,bP (Om:(p.aRV.length:Int)=0),UJ];refine bB rfl ?_;have:decide (p.aRV.length≠0)=false:=by simp[w]
   rw[this]; simp only[aTS,aUU]
  ·have B:decide (p.aRV.length≠0)=true:=by simp[w]
   simp only[go_sem,aTV,aTJ,bE (Om:(p.aRV.length:Int)≠0)];refine aA (L.rate p I) rfl ?_;rw[B];cases S:CS p with
   | false =>simp only[go_sem,aTZ,UJ];exact bB rfl (by simp only[aTS,aUU])
   | true =>
    have E:((aRV:Nat):Int)*((1:Nat):Int)≤140737488355328:=Om;have F:((aRV:Nat):Int)≤9223372036854775807:=Om;simp only[aTY];simp only[go_sem,aTV,X1,E,F];refine aO fun o W=>?_;simp only[go_sem,X2];have N:aTK aRV [PV.bool false]=bK (marks aRV (p.aRV.take 0)):=by rw[List.take_zero,xx]; simp[bK]
    rw[N];generalize hq:(fun j=>within (p.aRV.getD j 0) 0 ((aRV:Int)-1)&&!(p.aRV.take j).contains (p.aRV.getD j 0))=q;have J:∀ k (h:k<p.aRV.length),q k=(within p.aRV[k] 0 ((aRV:Int)-1)&&!(p.aRV.take k).contains p.aRV[k]):=by intro k h;rw[← hq];simp only[aTR,aTP h,aWE]
    refine wp_loop (α:=Nat) (fun k=>axY p aRV o k) (fun k=>PH.nil.set o (.rows 1 (bK (marks aRV (p.aRV.take k))))) (fun k=>k≤p.aRV.length∧rS q k) (fun k=>p.aRV.length-k) 0 ⟨aTQ _,.zero⟩ ?_ (b_) ?_
    ·unfold axY
     (repeat' (first|exact c_|refine d_ ?_ ?_))<;>first|(simp only[go_sem,aTJ]<;>rfl)|rfl
    rintro k ⟨U,K⟩;simp only[go_sem,Ji,X3,axY];have M:=I.aRV;by_cases hlt:k<p.aRV.length
    ·have l:(k:Int)<(p.aRV.length:Nat):=Om;have O:(p.aRV.map fun n=>[PV.int .i64 n])[k]?=some [.int .i64 p.aRV[k]]:=by simp[hlt]
     have R:IntKind.i64.wrap ((aRV:Int)-1)=(aRV:Int)-1:=wrap_i64 Om Om;simp only[go_sem,l,X4,O,X5,R];refine aA (L.inn p.aRV[k] 0 ((aRV:Int)-1)) rfl ?_;have e:=J k hlt;cases x:within p.aRV[k] 0 ((aRV:Int)-1) with
     | false =>rw[x,aTS] at e;simp only[go_sem,aTZ,su];exact bB (b:=false) rfl (fK hlt e).symm
     | true =>
      rw[x,aTY] at e;obtain⟨y,X⟩:=within_iff.1 x;have A:p.aRV[k]<(aRV:Nat):=Om;have u:(bK (marks aRV (p.aRV.take k)))[p.aRV[k].toNat]?=some [.bool ((p.aRV.take k).contains p.aRV[k])]:=by unfold bK;rw[aUG,ao y A]; rfl
      cases w:(p.aRV.take k).contains p.aRV[k] with
      | true =>rw[w] at e u;simp only[go_sem,aTV,y,A,aUF,u,su];exact bB (b:=false) rfl (fK hlt e).symm
      | false =>
       rw[w] at e u;simp only[go_sem,aTV,y,A,aUF,u,X6,kW,xz y A,Jj,wZz k];refine aH (k+1) ⟨hlt,K.step e⟩ Om ?_ ?_
       ·exact Lq
       ·rw[aVS hlt];exact e_ a_ Sq
    ·have l:¬ (k:Int)<(p.aRV.length:Nat):=Om;simp only[go_sem,l,Jk];have:k=p.aRV.length:=Om;subst this;exact bB (b:=true) rfl (show rS q p.aRV.length from K).symm
def atQ:PV→RF
 | .agg [.bool n,a,b]=>⟨n,jY a,jY b⟩
 | _=>⟨false,[],[]⟩
theorem agK (x:RF):atQ (.agg x.cells)=x:=by
 show (⟨x.neg,jY (aK x.num),jY (aK x.den)⟩:RF)=x;rw[eS,eS]
def flS:Spec:=fun name vs=>match name,vs with
 | 104,[.int _ n,.int _ lo,.int _ hi]=>some ([],fun _=>aI (.bool (within n lo hi)))
 | 105,[x]=>some ([],fun _=>aI (.bool (dB (atQ x))))
 | 97,[x]=>some ([],fun _=>aI (.bool (bJ (atQ x))))
 | _,_=>none
theorem Gc (n lo hi:Int):flS 104 [.int .i64 n,.int .i64 lo,.int .i64 hi]=some ([],fun _=>aI (.bool (within n lo hi))):=rfl
theorem aDE (x:RF):flS 105 [.agg x.cells]=some ([],fun _=>aI (.bool (dB x))):=by
 show some _=_; rw[agK]
def ahI (f:aD) (t:List cN) (k:Nat):PF:=((((PF.nil.set 1 (.bN f.cells)).set 45 (.sl 7 (t.map cN.cells))).set 46 (.int .i64 (t.length:Nat))).set 47 (.int .i64 k))
theorem aDN {C:Ctx} (L:tM C) (f:aD) (hf:f.Ok):CG.wp C (aR ahH.res (cB (.bool (oT f)))) (PF.args [.agg f.cells]) .nil:=by
 obtain⟨aTA,aSC,aRV,aRX,aRU,aRY,aRW⟩:=f;cases aRX with
 | nil =>rw[show oT ⟨aTA,aSC,aRV,[],aRU,aRY,aRW⟩=false from rfl];simp only[go_sem,CG,sn,sr,ahH,aVZ,aVR];have:(((0:Nat):Int)==0)=true:=rfl;simp only[go_sem,this,Xd];exact bB rfl rfl
 | cons r t =>
  generalize hF:(⟨aTA,aSC,aRV,r::t,aRU,aRY,aRW⟩:aD)=f at *
  have B:f.aRX=r::t:=by rw[← hF]
  have hP:oT f=CC f r t:=by unfold oT; rw[B]
  rw[hP];unfold CC;have j:f.aRX.length=t.length+1:=by rw[B]; rfl
  have β:=hf.aRX;have J:(f.aRX.map cN.cells)[0]?=some r.cells:=by rw[B]; rfl
  have γ:(f.aRX.map cN.cells)[Int.toNat 0]?=some r.cells:=J;have F:=hf.dom;have w:=F r (by rw[B]; exact List.mem_cons_self ..);simp only[go_sem,CG,sn,sr,ahH,aTJ,j,bE (Om:((t.length+1:Nat):Int)≠0),Xe,J];refine aO fun o ho=>?_;by_cases x:r.name=[]
  ·rw[decide_eq_true x];by_cases A:r.level=0
   ·rw[decide_eq_true A];by_cases E:r.parent=-1
    ·rw[decide_eq_true E];by_cases K:r.aSP=0
     ·rw[decide_eq_true K];simp only[go_sem,zV,qO x,aTV,bV A,bV E,bV K];refine aA (L.lim r.aSK w.1) rfl ?_;cases c5:dB r.aSK with
      | false =>simp only[go_sem,aTZ,vM];exact bB rfl (by simp only[aUU,aTS])
      | true =>
       simp only[go_sem,aTV];refine aA (L.rU r.aSK w.1) rfl ?_;cases c6:bJ r.aSK with
       | true =>simp only[go_sem,vM];exact bB rfl (by simp only[aTV,aUU,aTS])
       | false =>
        have V:(0:Int)≤1∧(1:Int)≤((t.length+1:Nat):Int):=Om;have y:((f.aRX.map cN.cells).take (t.length+1)).drop (Int.toNat 1)=t.map cN.cells:=by rw[aUB (by simp[j]),B]; rfl
        have u:((f.aRX.map cN.cells).take (t.length+1)).drop 1=t.map cN.cells:=y;simp only[go_sem,Xf,aTJ,j,V,u,aWN];generalize hq:(fun i=>match t[i]? with | some d=>HX f i d | none=>false)=q;have S:∀ k (h:k<t.length),q k=HX f k t[k]:=by intro k h;rw[← hq];simp only[aTP h]
        refine wp_loop (α:=Nat) (fun k=>ahI f t k) (fun k=>.nil) (fun k=>k≤t.length∧rS q k) (fun k=>t.length-k) 0 ⟨aTQ _,.zero⟩ ?_ a_ ?_
        ·unfold ahI
         (repeat' (first|exact c_|refine d_ ?_ ?_))<;>first|(simp only[go_sem,aTJ]<;>rfl)|rfl
        rintro k ⟨hk,Z⟩;simp only[go_sem,I4,Xg,ahI];by_cases hlt:k<t.length
        ·have l:(k:Int)<(t.length:Nat):=Om;have U:(t.map cN.cells)[k]?=some (t[k]).cells:=by simp[hlt]
         have O:=F t[k] (by rw[B]; exact aWV _ (aTN hlt));have e:=S k hlt;unfold HX at e;simp only[go_sem,l,Xh,U];refine aO fun o2 δ=>?_;simp only[go_sem];refine bC .nil flS a_ ?_;simp only[go_sem,Xi];refine bX (Gc _ 0 k) (L.inn (t[k]).parent 0 k) rfl a_ ?_;cases N:within (t[k]).parent 0 k with
         | false =>simp only[N,aTS] at e;simp only[go_sem,aTZ,vL];exact bB (b:=false) rfl (fK hlt e).symm
         | true =>
          obtain⟨i1,i2⟩:=within_iff.1 N;have i3:(t[k]).parent.toNat<f.aRX.length:=Om;have I:(f.aRX.map cN.cells)[(t[k]).parent.toNat]?=some (f.aRX[(t[k]).parent.toNat]).cells:=by simp[i3]
          have R:(f.aRX.map cN.level).getD (t[k]).parent.toNat 0=(f.aRX[(t[k]).parent.toNat]).level:=by simp[i3]
          rw[R,N,aTY] at e;by_cases M:(f.aRX[(t[k]).parent.toNat]).level=IntKind.i64.wrap ((t[k]).level-1)
          ·rw[decide_eq_true M,aTY] at e;simp only[go_sem,aTV,i1,I,bV M];refine bX (Gc _ 1 4) (L.inn (t[k]).level 1 4) rfl a_ ?_;cases W:within (t[k]).level 1 4 with
           | false =>simp only[W,aTS] at e;simp only[go_sem,aTZ,vL];exact bB (b:=false) rfl (fK hlt e).symm
           | true =>
            rw[W,aTY] at e;simp only[go_sem,aTV];refine bX (Gc _ 1 64) (L.inn (t[k]).aSP 1 64) rfl a_ ?_;cases X:within (t[k]).aSP 1 64 with
            | false =>simp only[X,aTS] at e;simp only[go_sem,aTZ,vL];exact bB (b:=false) rfl (fK hlt e).symm
            | true =>
             rw[X,aTY] at e;simp only[go_sem,aTV];refine bX (aDE (t[k]).aSK) (L.lim _ O.1) rfl a_ ?_;cases Y:dB (t[k]).aSK with
             | false =>rw[Y] at e;simp only[go_sem,aTZ,vL];exact bB (b:=false) rfl (fK hlt e).symm
             | true =>rw[Y] at e;simp only[go_sem,aTV,I5,wZz k];refine aH (k+1) ⟨hlt,Z.step e⟩ Om ?_ a_;exact Lq
          ·simp only[decide_eq_false M,aTS] at e;simp only[go_sem,aTV,i1,I,dK M,vL];exact bB (b:=false) rfl (fK hlt e).symm
        ·have l:¬ (k:Int)<(t.length:Nat):=Om;simp only[go_sem,l,I6];have:k=t.length:=Om;subst this;exact bB (b:=true) rfl (show rS q t.length from Z).symm
     ·simp only[go_sem,zV,qO x,aTV,bV A,bV E,dK K,vM];exact bB rfl (by rw[decide_eq_false K]; simp only[aUU,aTS])
    ·simp only[go_sem,zV,qO x,aTV,bV A,dK E,vM];exact bB rfl (by rw[decide_eq_false E]; simp only[aUU,aTS])
   ·simp only[go_sem,zV,qO x,aTV,dK A,vM];exact bB rfl (by rw[decide_eq_false A]; simp only[aUU,aTS])
  ·simp only[go_sem,zV,gy x,aTZ,vM];exact bB rfl (by rw[decide_eq_false x]; simp only[aUU,aTS])
theorem uM (R:List Bool) (i:Nat) (row:List RF):∀ k,(cT R i row k).length=R.length
 | 0=>rfl
 | k+1=>by simp only[cT,aVJ,uM R i row k]
theorem Pi (l:cI) (R:List Bool) (i:Nat):(lJ l R i).length=R.length:=by
 unfold lJ; rw[uM,aVJ]
theorem rD (l:cI) (R:List Bool):∀ i,(dE l R i).length=R.length
 | 0=>rfl
 | i+1=>by simp only[dE,Pi,rD l R i]
theorem rC (l:cI):∀ r,(dH l r).length=l.exit.length
 | 0=>by simp[dH]
 | r+1=>by simp only[dH,rD,rC l r]
theorem jM {R:List Bool} {i:Nat} (h:i<R.length):(bK R)[i]?=some [.bool (R.getD i false)]:=by
 unfold bK;rw[aUG,aTP h,aTR,aTP h]; rfl
theorem jO (R:List Bool):(bK R).length=R.length:=by simp[bK]
def UC (l:cI) (o r:Nat):PF:=(((PF.nil.set 1 (.bN l.cells)).set 3 (.osl o 1 0 l.exit.length)).set 4 (.int .i64 r))
def HY (l:cI) (o r i:Nat):PF:=(((((PF.nil.set 1 (.bN l.cells)).set 3 (.osl o 1 0 l.exit.length)).set 4 (.int .i64 r)).set 19 (.int .i64 (l.exit.length:Nat))).set 20 (.int .i64 i))
def tY (l:cI) (o r i:Nat) (row:List RF) (k:Nat):PF:=(((((((((PF.nil.set 1 (.bN l.cells)).set 3 (.osl o 1 0 l.exit.length)).set 4 (.int .i64 r)).set 19 (.int .i64 (l.exit.length:Nat))).set 20 (.int .i64 i)).set 5 (.int .i64 i)).set 42 (frs row)).set 43 (.int .i64 (row.length:Nat))).set 44 (.int .i64 k))
def jG (o:Nat) (R:List Bool):PH:=PH.nil.set o (.rows 1 (bK R))
theorem Uc {C:Ctx} (L:tM C) (l:cI) (o r i:Nat) (row:List RF) (I:kR row) (W:row.length=l.exit.length) (hi:i<l.exit.length) (hn:l.exit.length≤4) (e:List Bool) (X:e.length=l.exit.length) (K:cE) (F:PF) (H:PH)
  (N:(tY l o r i row 0).le F) (J:(jG o e).le H)
  (U:∀ F H,(tY l o r i row row.length).le F→(jG o (cT e i row row.length)).le H→K .normal F H) :
  aC.wp C (.block 4 (.loop CH)) K F H:=by
 simp only[go_sem];refine wp_loop (α:=Nat) (fun k=>tY l o r i row k) (fun k=>jG o (cT e i row k)) (fun k=>k≤row.length) (fun k=>row.length-k) 0 (aTQ _) N J ?_;intro k Z;simp only[go_sem,CH,Je,tY,jG];have O:=uM e i row k;by_cases hlt:k<row.length
 ·have j:(k:Int)<(row.length:Nat):=Om;have V:(row.map RF.cells)[k]?=some (row[k]).cells:=by simp[hlt]
  simp only[go_sem,j,xd,V];refine aO fun o7 E=>?_;have M:o≠o7:=by rintro rfl; simp only[aT,if_true] at E; cases E
  have w:(i:Int)<(l.exit.length:Nat):=Om;have B:(k:Int)<(l.exit.length:Nat):=Om;have u:=jM (R:=cT e i row k) (i:=i) Om;have x:=jM (R:=cT e i row k) (i:=k) Om;have y:cT e i row (k+1)=(cT e i row k).set i ((cT e i row k).getD i false||bJ row[k]&&(cT e i row k).getD k false):=by simp only[cT,aTR,aUG,aTP hlt,aUO,aWE]
  have fin:∀ (b:Bool) (F:PF) (H:PH),b=((cT e i row k).getD i false||bJ row[k]&&(cT e i row k).getD k false)→(tY l o r i row (k+1)).le F→H o=some (.rows 1 ((bK (cT e i row k)).set i [.bool b])) →
    fN (fun k=>tY l o r i row k) (fun k=>jG o (cT e i row k)) (fun k=>k≤row.length) (fun k=>row.length-k) (row.length-k) (fA 4 K) .normal F H:=by
   intro b F H hb N J;refine aH (k+1) hlt Om N ?_;rw[kW,hb,← y] at J;exact e_ a_ J
  unfold tY jG at fin;generalize hb:(cT e i row k).getD i false=b at *
  generalize Y:(cT e i row k).getD k false=c at *
  generalize S:bJ row[k]=A at *
  cases b with
  | true =>simp only[go_sem,PY,M,w,aUF,u,CJ,wZz k];exact fin true _ _ (by simp) Lq Sq
  | false =>
   simp only[go_sem,PY,M,w,aUF,u];refine aA (L.rU _ (I.all _ (aTN hlt))) rfl ?_;rw[S];cases A with
   | false =>simp only[go_sem,w,B,M,aUF,u,x,CJ,wZz k];exact fin false _ _ (by simp) Lq Sq
   | true =>simp only[go_sem,w,B,M,aUF,u,x,CJ,wZz k];exact fin c _ _ (by simp) Lq Sq
 ·have j:¬ (k:Int)<(row.length:Nat):=Om;simp only[go_sem,j];have:k=row.length:=Om;subst this;exact U _ _ (by unfold tY; exact Lq) (b_)
structure BZ (l:cI):Prop where
 n:l.exit.length≤4
 aRZ:l.aRZ.length=l.exit.length
 row:∀ r∈l.aRZ,r.length=l.exit.length
theorem Ud {C:Ctx} (L:tM C) (l:cI) (U:l.Ok) (he:BZ l) (o r:Nat) (R:List Bool) (hR:R.length=l.exit.length) (K:cE) (F:PF) (H:PH)
  (x:(HY l o r 0).le F) (N:(jG o R).le H)
  (hK:∀ F H,(UC l o r).le F→(jG o (dE l R l.exit.length)).le H→K .normal F H) :
  aC.wp C (.block 2 (.loop CI)) K F H:=by
 simp only[go_sem];refine wp_loop (α:=Nat) (fun i=>HY l o r i) (fun i=>jG o (dE l R i)) (fun i=>i≤l.exit.length) (fun i=>l.exit.length-i) 0 (aTQ _) x N ?_;intro i hi;have V:=rD l R i;have hn:=he.n;by_cases hlt:i<l.exit.length
 ·have e:(i:Int)<(l.exit.length:Nat):=Om;have w:i<l.aRZ.length:=by rw[he.aRZ]; exact hlt
  have y:=jM (R:=dE l R i) (i:=i) Om;have hx:(l.exit.map RF.cells)[i]?=some (l.exit[i]).cells:=by simp[hlt]
  have I:(l.aRZ.map fun r=>[frs r])[i]?=some [frs l.aRZ[i]]:=by simp[w]
  have S:(l.aRZ[i]).length=l.exit.length:=he.row _ (aTN w);generalize u:(dE l R i).set i ((dE l R i).getD i false||bJ l.exit[i])=J;have E:J.length=l.exit.length:=by rw[← u,aVJ]; omega
  have A:dE l R (i+1)=cT J i l.aRZ[i] (l.aRZ[i]).length:=by
   simp only[dE,lJ];have X:(l.exit.map bJ).getD i false=bJ l.exit[i]:=by simp[aTR,hlt]
   have Y:l.aRZ.getD i []=l.aRZ[i]:=by simp[aTR,w]
   rw[X,Y,u]
  have j:∀ (F:PF) (H:PH),(((((((PF.nil.set 1 (.bN l.cells)).set 3 (.osl o 1 0 l.exit.length)).set 4 (.int .i64 r)).set 19 (.int .i64 (l.exit.length:Nat))).set 20 (.int .i64 i)).set 5 (.int .i64 i)):PF).le F→H o=some (.rows 1 (bK J)) →
    aC.wp C (.seq (.region ZI) (.block 4 (.loop CH))) (fA 3 (jV C (aC.wp C (.region PZ)) (fN (fun i=>HY l o r i) (fun i=>jG o (dE l R i)) (fun i=>i≤l.exit.length) (fun i=>l.exit.length-i) (l.exit.length-i) (fA 2 K)))) F H:=by
   intro F H x N;have f1:F 1=some (.bN l.cells):=x 1 _ rfl;have f3:F 3=some (.osl o 1 0 l.exit.length):=x 3 _ rfl;have f4:F 4=some (.int .i64 r):=x 4 _ rfl;have Z:F 19=some (.int .i64 (l.exit.length:Nat)):=x 19 _ rfl;have β:F 20=some (.int .i64 i):=x 20 _ rfl;have f5:F 5=some (.int .i64 i):=x 5 _ rfl;rw[vt];simp only[go_sem,ZI,f1,f5,I,aTJ];have inner:=Uc L l o r i l.aRZ[i] (U.row _ (aTN w)) S hlt hn J E;simp only[aC.wp,go_sem] at inner;refine inner _ _ _ ?_ (e_ a_ N) ?_
   ·unfold tY;exact Lq
   ·intro W H' B O;have M:W 20=some (.int .i64 i):=B 20 _ (by unfold tY; simp only[go_sem]);simp only[go_sem,PZ,M,wZz i];refine aH (i+1) hlt Om ?_ (by rw[A]; exact O);have g:=fun (q:Nat) v h=>B q v h;unfold HY;unfold tY at g;refine d_ (d_ (d_ (d_ (d_ c_ ?_) ?_) ?_) ?_) ?_
    ·simp only[go_sem]; exact g 1 _ rfl
    ·simp only[go_sem]; exact g 3 _ rfl
    ·simp only[go_sem]; exact g 4 _ rfl
    ·simp only[go_sem]; exact g 19 _ rfl
    ·simp only[go_sem]
  simp only[aC.wp,go_sem] at j;simp only[go_sem,CI,ZG,HY,jG,e,Jd];generalize hb:(dE l R i).getD i false=b at *
  cases b with
  | true =>simp only[go_sem,ZH,e,aUF,y];refine j _ _ Lq ?_;rw[← u];simp only[go_sem,kW,Bool.true_or]
  | false =>simp only[go_sem,ZH,e,aUF,y,hx];refine aA (L.rU _ (U.exit.all _ (aTN hlt))) rfl ?_;simp only[go_sem,e,aUF,y];refine j _ _ Lq ?_;rw[← u];simp only[go_sem,kW,Bool.false_or]
 ·have e:¬ (i:Int)<(l.exit.length:Nat):=Om;simp only[go_sem,CI,ZG,HY,jG,e];have:i=l.exit.length:=Om;subst this;exact hK _ _ (by unfold UC; exact Lq) b_
theorem auV {C:Ctx} (L:tM C) (l:cI) (I:l.Ok) (he:BZ l):IR.wp C (aR ahJ.res (cB (.bool (pO l)))) (PF.args [.agg l.cells]) .nil:=by
 have J:=he.n;have A:(l.exit.length:Int)*((1:Nat):Int)≤140737488355328:=Om;have B:(l.exit.length:Int)≤9223372036854775807:=Om;simp only[go_sem,IR,I8,I9,ahJ,aTJ,A,B];refine aO fun o K=>?_;simp only[go_sem,Ja];refine wp_loop (α:=Nat) (fun r=>UC l o r) (fun r=>jG o (dH l r)) (fun r=>r≤l.exit.length+1) (fun r=>l.exit.length+1-r) 0 (aTQ _) ?_ ?_ ?_
 ·unfold UC;exact Lq
 ·refine e_ a_ ?_;simp only[go_sem,dH];simp[bK]
 intro r M;have j:=rC l r;simp only[go_sem,xc,Jb,UC,jG];by_cases hlt:r≤l.exit.length
 ·have e:(r:Int)≤(l.exit.length:Nat):=Om;simp only[go_sem,e,Jc];have inner:=Ud L l I he o r (dH l r) j;simp only[aC.wp,go_sem] at inner;refine inner _ _ _ ?_ b_ ?_
  ·unfold HY;exact Lq
  ·intro E H' w y;have g:=fun (q:Nat) v h=>w q v h;unfold UC at g;have g4:E 4=some (.int .i64 r):=g 4 _ rfl;simp only[go_sem,xe,g4,wZz r];refine aH (r+1) Om Om ?_ y;refine d_ (d_ (d_ c_ ?_) ?_) ?_
   ·simp only[go_sem]; exact g 1 _ rfl
   ·simp only[go_sem]; exact g 3 _ rfl
   ·simp only[go_sem]
 ·have e:¬ (r:Int)≤(l.exit.length:Nat):=Om;have:r=l.exit.length+1:=Om;subst this;simp only[go_sem,e,xf];have u:=L.allb id 103 (dH l (l.exit.length+1)) (Om:(dH l (l.exit.length+1)).length≤_) fun x _=>L.ends1 x;have F:(bK (dH l (l.exit.length+1))).length=l.exit.length:=by rw[jO,j]
  refine rR u (rs:=bK (dH l (l.exit.length+1))) (o:=o) (s:=1) Sq ?_ ?_
  ·simp only[go_sem,vK (show l.exit.length≤(bK (dH l (l.exit.length+1))).length by omega),aUB (show (bK (dH l (l.exit.length+1))).length≤l.exit.length by omega)]
  ·simp only[go_sem];exact bB rfl rfl
structure gh (C:Ctx):Prop extends Ek C where
 ends:∀ l:cI,l.Ok→BZ l→aG C 102 [.agg l.cells] .nil (aI (.bool (pO l)))
def sM (l:cI) (i:Nat):Bool:=decide ((l.aRZ.getD i []).length=l.start.length)&&(l.aRZ.getD i []).all dB&&!((l.aRZ.getD i []).map bJ).getD i false
def wC (l:cI):Bool:=match oM (l.start.map RF.v) with
 | .ok (n,a,b)=>decide (qE n a b false 1 1=0)
 | .error _=>false
theorem Yf (l:cI):kY l=(within l.start.length 1 4&&decide (l.exit.length=l.start.length)&&decide (l.aRZ.length=l.start.length)&&l.start.all dB&&l.exit.all dB&&(aTI l.aRZ.length).all (sM l)&&wC l&&pO l):=rfl
theorem Qg {l:List FV} {e:Int} (h:oM l=.error e):e≠0:=by
 have:∀ (l:List FV) (b:FV) (e:Int),l.foldlM iW b=.error e→e≠0:=by
  intro l
  induction l with
  | nil=>intro b e h; cases h
  | cons x t w =>
   intro b e h;rw[List.foldlM_cons] at h;cases j:iW b x with
   | error u =>
    rw[j] at h;have:u=e:=by injection h
    subst this;obtain⟨E,a1,A⟩:=b;obtain⟨F,a2,B⟩:=x;simp only[iW] at j;split at j
    ·split at j
     ·rw[JN j]; decide
     ·split at j
      ·rw[JN j]; decide
      ·rw[JN j]; decide
    ·injection j with j; subst j; decide
   | ok y=>rw[j] at h; exact w y e h
 exact this l _ e h
theorem acB {l:List FV} {r:FV} (h:oM l=.ok r):r.rf.Ok:=by
 have:∀ (l:List FV) (b r:FV),b.rf.Ok→l.foldlM iW b=.ok r→r.rf.Ok:=by
  intro l
  induction l with
  | nil=>intro b r hb h; injection h with h; subst h; exact hb
  | cons x t j =>
   intro b r hb h;rw[List.foldlM_cons] at h;cases e:iW b x with
   | error u=>rw[e] at h; cases h
   | ok y=>rw[e] at h; exact j y r (rj e) h
 refine this l _ r ⟨aU _,aU _,?_,?_⟩ h
 ·show (aJ 0).length≤_;rw[gE]; simp
 ·show (aJ 1).length≤_;rw[pF (by decide) (by decide)]; simp
theorem JO {neg:Bool} {a b:Nat} {r:FV} (hb:b≠0) (h:jN neg a b=.ok r):dC r.2.1 r.2.2=true:=by
 unfold jN at h;split at h
 ·cases h
 ·rename_i u;injection h with h
  subst h;have e:aTL a b ∣ b:=Nat.gcd_dvd_right _ _;have j:b/aTL a b≠0:=by have:=Nat.div_pos (Nat.le_of_dvd (aWD hb) e) (aWD fun h=>hb (Nat.gcd_eq_zero_iff.1 h).2);omega
  have l:=@kV (b/aTL a b);simp only[dC,aUC,decide_eq_true_eq];omega
theorem afU {x y r:FV} (h:iW x y=.ok r):dC r.2.1 r.2.2=true:=by
 obtain⟨w,a1,l⟩:=x;obtain⟨A,a2,u⟩:=y;simp only[iW] at h;split at h
 ·rename_i j;rw[aUC] at j;have e:l*u≠0:=Nat.mul_ne_zero (gJ.1 j.1).1 (gJ.1 j.2).1;split at h
  ·exact JO e h
  ·split at h
   ·exact JO e h
   ·exact JO e h
 ·cases h
theorem akW:dC 0 1=true:=by
 have:cW 1=1:=by rw[pX (by decide),kJ]
 simp[dC,this,kJ]
theorem my {l:List FV} {r:FV} (h:oM l=.ok r):dC r.2.1 r.2.2=true:=by
 have:∀ (l:List FV) (b r:FV),dC b.2.1 b.2.2=true→l.foldlM iW b=.ok r→dC r.2.1 r.2.2=true:=by
  intro l
  induction l with
  | nil=>intro b r hb h; injection h with h; subst h; exact hb
  | cons x t j =>
   intro b r hb h;rw[List.foldlM_cons] at h;cases e:iW b x with
   | error u=>rw[e] at h; cases h
   | ok y=>rw[e] at h; exact j y r (afU e) h
 exact this l _ r akW h
theorem atV:(⟨false,[],[]⟩:RF).Ok:=⟨fun _ h=>absurd h (aUJ),fun _ h=>absurd h (aUJ),show 0≤35184372087808 by decide,show 0≤35184372087808 by decide⟩
def avN (l:cI) (k:Nat):PF:=(((((PF.nil.set 1 (.bN l.cells)).set 3 (.int .i64 (l.start.length:Nat))).set 45 (ajV l.aRZ)).set 46 (.int .i64 (l.aRZ.length:Nat))).set 47 (.int .i64 k))
theorem anO {C:Ctx} (L:gh C) (l:cI) (E:l.Ok) (he:BZ l) (F:PF) (B:F 1=some (.bN l.cells)) :
  aC.wp C (.seq (.region ZJ) (.seq (.region IS) (.seq (.region IT) (.seq (.region vN) .ret)))) (aR [.tmp 2] (cB (.bool (wC l&&pO l)))) F .nil:=by
 simp only[go_sem,ZJ,B];refine aA (L.tot l.start E.start) rfl ?_;obtain⟨I,x,y,e,S⟩:=vI (oM (l.start.map RF.v));have go:∀ (z:RF) (e:Int),z.Ok→(e=0→(CD z.neg (val z.num) (val z.den) false 1 1=.tup [.int .i64 (qE z.neg (val z.num) (val z.den) false 1 1),.int .i64 0])∧wC l=decide (qE z.neg (val z.num) (val z.den) false 1 1=0))→(e≠0→wC l=false) →
   frV (oM (l.start.map RF.v))=.tup [.agg z.cells,.int .i64 e] →
   wpOps C [⟨(some 69),.mv (.tmp 72),none⟩,⟨(some 73),.extract (.tmp 69) 0,none⟩,⟨(some 74),.extract (.tmp 69) 1,none⟩,⟨(some 6),.alloc [(.bool false),.aB,.aB],none⟩,⟨none,.store 3 (.tmp 6) (.tmp 73),none⟩,⟨(some 7),.mv (.tmp 74),none⟩]
    (aC.wp C (.seq (.region IS) (.seq (.region IT) (.seq (.region vN) .ret))) (aR [.tmp 2] (cB (.bool (wC l&&pO l))))) ((((F.set 70 (.bN [frs l.start,ajV l.aRZ,frs l.exit])).set 71 (frs l.start))).set 72 (.tup [.agg z.cells,.int .i64 e])) .nil:=by
  intro z e O J K _;simp only[go_sem];refine aO fun o6 M=>?_;simp only[go_sem,IS];refine aA (L.frac 1 1 (by decide) (by decide)) rfl ?_;rw[Lc];simp only[go_sem,frV];refine aO fun o8 u=>?_;have R:o6≠o8:=by rintro rfl; simp only[aT,if_true] at u; cases u
  simp only[go_sem,IT,R];refine aA (L.ord z (FV.rf (false,1,1)) O apR) rfl ?_;rw[show val (FV.rf (false,1,1)).num=1 from aS 1,show val (FV.rf (false,1,1)).den=1 from aS 1,show (FV.rf (false,1,1)).neg=false from rfl];by_cases c:e=0
  ·obtain⟨g1,g2⟩:=J c;rw[g1,g2];by_cases d:qE z.neg (val z.num) (val z.den) false 1 1=0
   ·simp only[go_sem,vN,bP c,bP d,B];refine aA (L.ends l E he) rfl ?_;simp only[go_sem];exact bB rfl (by rw[decide_eq_true d,aTY])
   ·simp only[go_sem,vN,bP c,bE d];exact bB rfl (by rw[decide_eq_false d,aTS])
  ·rw[K c];have:∃ v w,CD z.neg (val z.num) (val z.den) false 1 1=.tup [.int .i64 v,.int .i64 w]:=by
    unfold CD;split
    ·exact⟨_,_,rfl⟩
    ·exact⟨_,_,rfl⟩
   obtain⟨v,w,A⟩:=this;rw[A];simp only[go_sem,vN,bE c];exact bB rfl rfl
 cases j:oM (l.start.map RF.v) with
 | error e =>rw[j] at go;exact go ⟨false,[],[]⟩ e atV (fun h=>absurd h (Qg j)) (fun _=>by rw[wC,j]) rfl
 | ok r =>obtain⟨n,a,b⟩:=r;rw[j] at go;have N:=acB j;refine go (FV.rf (n,a,b)) 0 N (fun _=>?_) (fun h=>absurd rfl h) rfl;rw[show val (FV.rf (n,a,b)).num=a from aS a,show val (FV.rf (n,a,b)).den=b from aS b,show (FV.rf (n,a,b)).neg=n from rfl];refine⟨?_,by rw[wC,j]⟩;have A:dC a b=true:=my j;rw[CD,A,B0];rfl
theorem aDP {C:Ctx} (L:gh C) (l:cI) (A:l.Ok):QA.wp C (aR auX.res (cB (.bool (kY l)))) (PF.args [.agg l.cells]) .nil:=by
 rw[Yf];simp only[go_sem,QA,Xj,Xk,auX,Xl,aTJ];refine aA (L.inn l.start.length 1 4) rfl ?_;cases O:within l.start.length 1 4 with
 | false =>simp only[go_sem,aTZ,zW];exact bB rfl (by simp only[aTS])
 | true =>
  obtain⟨W,X⟩:=within_iff.1 O;by_cases F:l.exit.length=l.start.length
  ·rw[decide_eq_true F];by_cases I:l.aRZ.length=l.start.length
   ·rw[decide_eq_true I];simp only[go_sem,aTV,aTJ,bV (Om:(l.exit.length:Int)=(l.start.length:Nat)),bV (Om:(l.aRZ.length:Int)=(l.start.length:Nat))];refine aA (L.avU l.start A.start) rfl ?_;cases S:l.start.all dB with
    | false =>simp only[go_sem,aTZ,zW];exact bB rfl (by simp only[aTS])
    | true =>
     simp only[go_sem,aTV];refine aA (L.avU l.exit A.exit) rfl ?_;cases U:l.exit.all dB with
     | false =>simp only[go_sem,aTZ,zW];exact bB rfl (by simp only[aTS])
     | true =>
      simp only[go_sem,aTV,Xm,aTJ];have y:∀ k (h:k<l.aRZ.length),sM l k=(decide ((l.aRZ[k]).length=l.start.length)&&(l.aRZ[k]).all dB&&!((l.aRZ[k]).map bJ).getD k false):=by
       intro k h;have:l.aRZ.getD k []=l.aRZ[k]:=by simp[aTR,h]
       rw[sM,this]
      refine wp_loop (α:=Nat) (fun k=>avN l k) (fun _=>.nil) (fun k=>k≤l.aRZ.length∧rS (sM l) k) (fun k=>l.aRZ.length-k) 0 ⟨aTQ _,.zero⟩ ?_ a_ ?_
      ·unfold avN
       (repeat' (first|exact c_|refine d_ ?_ ?_))<;>first|(simp only[go_sem,aTJ]<;>rfl)|rfl
      rintro k ⟨V,N⟩;simp only[go_sem,Jf,Xn,avN];by_cases hlt:k<l.aRZ.length
      ·have j:(k:Int)<(l.aRZ.length:Nat):=Om;have E:(l.aRZ.map fun r=>[frs r])[k]?=some [frs l.aRZ[k]]:=by simp[hlt]
       have e:=y k hlt;have w:=A.row l.aRZ[k] (aTN hlt);simp only[go_sem,j,Xo,E,Xp,aTJ];by_cases J:(l.aRZ[k]).length=l.start.length
       ·rw[decide_eq_true J,aTY] at e;simp only[go_sem,bV (show (((l.aRZ[k]).length:Nat):Int)=(l.start.length:Nat) by omega)];refine aA (L.avU _ w) rfl ?_;cases K:(l.aRZ[k]).all dB with
        | false =>rw[K,aTS] at e;simp only[go_sem,aTZ,UH];refine bB (b:=false) rfl ?_;have:(aTI l.aRZ.length).all (sM l)=false:=fK hlt e;rw[this]; simp only[aTS,aUU]
        | true =>
         have x:k<(l.aRZ[k]).length:=Om;have R:((l.aRZ[k]).map RF.cells)[k]?=some ((l.aRZ[k])[k]).cells:=by simp[x]
         have B:((l.aRZ[k]).map bJ).getD k false=bJ (l.aRZ[k])[k]:=by simp[aTR,x]
         rw[K,aTY,B] at e;simp only[go_sem,aTV,R];refine aA (L.rU _ (w.all _ (aTN x))) rfl ?_;cases M:bJ (l.aRZ[k])[k] with
         | true =>rw[M] at e;simp only[go_sem,UH];refine bB (b:=false) rfl ?_;have:(aTI l.aRZ.length).all (sM l)=false:=fK hlt e;rw[this]; simp only[aTS,aUU]
         | false =>rw[M] at e;simp only[go_sem,Xq,wZz k];refine aH (k+1) ⟨hlt,N.step e⟩ Om ?_ a_;exact Lq
       ·simp only[decide_eq_false J,aTS] at e;simp only[go_sem,dK (show (((l.aRZ[k]).length:Nat):Int)≠(l.start.length:Nat) by omega),UH];refine bB (b:=false) rfl ?_;have:(aTI l.aRZ.length).all (sM l)=false:=fK hlt e;rw[this]; simp only[aTS,aUU]
      ·have j:¬ (k:Int)<(l.aRZ.length:Nat):=Om;have:k=l.aRZ.length:=Om;subst this;have u:(aTI l.aRZ.length).all (sM l)=true:=N;have he:BZ l:=⟨by omega,by omega,fun r E=>by obtain⟨i,hi,rfl⟩:=aVD E;have:=aUH.1 u i (aUD.2 hi);rw[y i hi] at this;simp only[aUC,decide_eq_true_eq] at this;omega⟩
       have tail:=anO L l A he;simp only[aC.wp,go_sem] at tail;rw[u];simp only[go_sem,j,aTY,aVK];exact tail _ rfl
   ·simp only[go_sem,aTV,aTJ,bV (Om:(l.exit.length:Int)=(l.start.length:Nat)),dK (Om:(l.aRZ.length:Int)≠(l.start.length:Nat)),zW];exact bB rfl (by rw[decide_eq_false I]; simp only[aTS,aUU])
  ·simp only[go_sem,aTV,aTJ,dK (Om:(l.exit.length:Int)≠(l.start.length:Nat)),zW];exact bB rfl (by rw[decide_eq_false F]; simp only[aTS,aUU])
structure lN (C:Ctx):Prop extends gh C where
 law:∀ l:cI,l.Ok→aG C 95 [.agg l.cells] .nil (aI (.bool (kY l)))
 pol:∀ (p:dD) (n:Nat),p.Ok→n≤4→aG C 112 [.agg p.cells,.int .i64 n] .nil (aI (.bool (kC n p)))
 aSE:∀ f:aD,f.Ok→aG C 111 [.agg f.cells] .nil (aI (.bool (oT f)))
abbrev fO (l:List (List UInt8)):List (List PV):=l.map fun s=>[PV.str s]
theorem xL (l:List (List UInt8)) {k:Nat} (h:k<l.length):fO (l.take k)++[[.str l[k]]]=fO (l.take (k+1)):=by
 unfold fO;rw[aVS h,aUX]; rfl
theorem tG {l:List (List UInt8)} (h:l.length≤1000):roomFor (fO l).length 1 16:=by
 unfold roomFor fO;simp only[aTJ,maxLen]; omega
def jS {α:Type} (l:List α) (p:α→Bool) (k:Nat):Bool:=(l.take k).all p
theorem tU {α:Type} (l:List α) (p:α→Bool):jS l p 0=true:=rfl
theorem tT {α:Type} (l:List α) (p:α→Bool) {k:Nat} (h:k<l.length):jS l p (k+1)=(jS l p k&&p l[k]):=by
 unfold jS;rw[aVS h,List.all_append]; simp
theorem wY {α:Type} (l:List α) (p:α→Bool):jS l p l.length=l.all p:=by unfold jS; rw[aUS]
def jW (f:aD) (e j l u w:PV) (ok:Bool):PF:=(((((((PF.nil.set 1 (.bN f.cells)).set 3 (e)).set 4 (j)).set 5 (l)).set 6 (u)).set 7 (w)).set 8 (.bool ok))
structure lT (F:PF) (f:aD) (w3 w4 w5 w6 w7:PV) (ok:Bool):Prop where
 a1:F 1=some (.bN f.cells)
 a3:F 3=some w3
 a4:F 4=some w4
 a5:F 5=some w5
 a6:F 6=some w6
 a7:F 7=some w7
 a8:F 8=some (.bool ok)
theorem ahQ {C:Ctx} (L:lN C) (f:aD) (S:f.Ok) (Y:f.aSC.length≤4) (I J M N:PV) (K:cE) (F:PF) (H:PH) (u:lT F f .aB I J M N true)
  (A:F 67=some (.sl 4 (f.aSC.map cI.cells))) (B:F 68=some (.int .i64 (f.aSC.length:Nat))) (E:F 69=some (.int .i64 0))
  (R:∀ v O H',lT O f v I J M N (f.aSC.all kY)→cA H' 1 v (fO (f.aSC.map cI.name))→K (.exit 0) O H') :
  aC.wp C (.loop IX) K F H:=by
 refine wp_loop (α:=Nat × PV × PH) (fun t=>(((jW f t.2.1 I J M N (jS f.aSC kY t.1)).set 67 (.sl 4 (f.aSC.map cI.cells))).set 68 (.int .i64 (f.aSC.length:Nat))).set 69 (.int .i64 t.1)) (fun t=>t.2.2)
  (fun t=>t.1≤f.aSC.length∧cA t.2.2 1 t.2.1 (fO ((f.aSC.map cI.name).take t.1))) (fun t=>f.aSC.length-t.1) (0,.aB,.nil) ⟨aTQ _,.nil⟩ ?_ a_ ?_
 ·unfold jW
  (repeat' (first|exact c_|refine d_ ?_ ?_))<;>first|(simp only[go_sem,u.a1,u.a3,u.a4,u.a5,u.a6,u.a7,u.a8,A,B,E,tU]<;>rfl)|rfl
 rintro⟨k,v,X⟩ ⟨U,y⟩;simp only at U y ⊢;simp only[go_sem,IX,Yb,jW];by_cases hlt:k<f.aSC.length
 ·have j:(k:Int)<(f.aSC.length:Nat):=Om;have W:(f.aSC.map cI.cells)[k]?=some (f.aSC[k]).cells:=by simp[hlt]
  have x:=xL (f.aSC.map cI.name) (k:=k) (by simpa using hlt);rw[aVQ] at x;simp only[go_sem,j,Yc,W];refine aO fun o V=>?_;simp only[go_sem,Yd];refine nZ y V (tG (by simp; omega)) fun v' H' l w=>?_;rw[x] at l;have e:=tT f.aSC kY hlt;cases hb:jS f.aSC kY k with
  | false =>rw[hb,aTS] at e;simp only[go_sem,sw,w,ZO,wZz k];refine aH (k+1,v',H') ⟨hlt,l⟩ (by simp only; omega) ?_ b_;simp only[e];exact Lq
  | true =>rw[hb,aTY] at e;simp only[go_sem,sw,w];refine aA (L.law _ (S.law _ (aTN hlt))) Ev ?_;simp only[go_sem,ZO,wZz k];refine aH (k+1,v',H') ⟨hlt,l⟩ (by simp only; omega) ?_ b_;simp only[e];exact Lq
 ·have j:¬ (k:Int)<(f.aSC.length:Nat):=Om;have:k=f.aSC.length:=Om;subst this;rw[aUB (by simp)] at y;rw[wY];simp only[go_sem,j];exact R v _ _ ⟨by simp only[go_sem],by simp only[go_sem],by simp only[go_sem],by simp only[go_sem],by simp only[go_sem],by simp only[go_sem],by simp only[go_sem]⟩ y
theorem DH {n:Nat} (h:n≤1000):IntKind.i64.wrap ((n:Int)-1)=(n:Int)-1:=wrap_i64 Om Om
theorem ahR {C:Ctx} (L:lN C) (f:aD) (hs:f.aRV.length≤4) (hl:f.aSC.length≤4) (x:Bool) (E I J M:PV) (K:cE) (F:PF) (H:PH) (u:lT F f E .aB I J M x)
  (R:F 85=some (.sl 4 (f.aRV.map cZ.cells))) (S:F 86=some (.int .i64 (f.aRV.length:Nat))) (U:F 87=some (.int .i64 0))
  (X:∀ v w H',lT w f E v I J M (x&&f.aRV.all (kZ f))→cA H' 1 v (fO (f.aRV.map cZ.name))→K (.exit 2) w H') :
  aC.wp C (.loop IY) K F H:=by
 refine wp_loop (α:=Nat × PV × PH) (fun t=>(((jW f E t.2.1 I J M (x&&jS f.aRV (kZ f) t.1)).set 85 (.sl 4 (f.aRV.map cZ.cells))).set 86 (.int .i64 (f.aRV.length:Nat))).set 87 (.int .i64 t.1)) (fun t=>t.2.2)
  (fun t=>t.1≤f.aRV.length∧cA t.2.2 1 t.2.1 (fO ((f.aRV.map cZ.name).take t.1))) (fun t=>f.aRV.length-t.1) (0,.aB,.nil) ⟨aTQ _,.nil⟩ ?_ a_ ?_
 ·unfold jW
  (repeat' (first|exact c_|refine d_ ?_ ?_))<;>first|(simp only[go_sem,u.a1,u.a3,u.a4,u.a5,u.a6,u.a7,u.a8,R,S,U,tU,aVK]<;>rfl)|rfl
 rintro⟨k,v,H0⟩ ⟨Z,N⟩;simp only at Z N ⊢;simp only[go_sem,IY,J1,jW];by_cases hlt:k<f.aRV.length
 ·have e:(k:Int)<(f.aRV.length:Nat):=Om;have hr:(f.aRV.map cZ.cells)[k]?=some (f.aRV[k]).cells:=by simp[hlt]
  have B:=xL (f.aRV.map cZ.name) (k:=k) (by simpa using hlt);rw[aVQ] at B;simp only[go_sem,e,J2,hr];refine aO fun o ho=>?_;simp only[go_sem,J3];refine nZ N ho (tG (by simp; omega)) fun v' H' y j=>?_;rw[B] at y;have l:=tT f.aRV (kZ f) hlt;have fin:∀ (c:Bool) (w:PF),c=(x&&jS f.aRV (kZ f) (k+1))→((((jW f E v' I J M c).set 85 (.sl 4 (f.aRV.map cZ.cells))).set 86 (.int .i64 (f.aRV.length:Nat))).set 87 (.int .i64 (k+1:Nat))).le w →
    fN (fun (t:Nat × PV × PH)=>(((jW f E t.2.1 I J M (x&&jS f.aRV (kZ f) t.1)).set 85 (.sl 4 (f.aRV.map cZ.cells))).set 86 (.int .i64 (f.aRV.length:Nat))).set 87 (.int .i64 t.1)) (fun (t:Nat × PV × PH)=>t.2.2)  (fun (t:Nat × PV × PH)=>t.1≤f.aRV.length∧cA t.2.2 1 t.2.1 (fO ((f.aRV.map cZ.name).take t.1))) (fun (t:Nat × PV × PH)=>f.aRV.length-t.1) (f.aRV.length-k) K .normal w H':=by
   intro c w Y A;refine aH (α:=Nat × PV × PH) (k+1,v',H') ⟨hlt,y⟩ (by simp only; omega) ?_ b_;rw[Y] at A;exact A
  unfold jW at fin;rw[l,← aWU] at fin;have V:kZ f f.aRV[k]=(within (f.aRV[k]).aSL 1 16&&within (f.aRV[k]).port 1 64&&within (f.aRV[k]).law 0 ((f.aSC.length:Int)-1)):=rfl;cases hb:(x&&jS f.aRV (kZ f) k) with
  | false =>rw[hb,aTS] at fin;simp only[go_sem,ZQ,j,BA,wZz k];refine fin false _ rfl ?_;exact Lq
  | true =>
   rw[hb,aTY] at fin;simp only[go_sem,ZQ,j];refine aA (L.inn _ 1 16) Ev ?_;cases O:within (f.aRV[k]).aSL 1 16 with
   | false =>simp only[go_sem,BA,wZz k];refine fin false _ (by rw[V,O]; simp only[aTS]) ?_;exact Lq
   | true =>
    simp only[go_sem,j];refine aA (L.inn _ 1 64) Ev ?_;cases W:within (f.aRV[k]).port 1 64 with
    | false =>simp only[go_sem,BA,wZz k];refine fin false _ (by rw[V,O,W]; simp only[aTS,aUU]) ?_;exact Lq
    | true =>simp only[go_sem,j,aTJ,DH (Om:f.aSC.length≤1000)];refine aA (L.inn _ 0 _) Ev ?_;simp only[go_sem,BA,wZz k];refine fin (within (f.aRV[k]).law 0 ((f.aSC.length:Int)-1)) _ (by rw[V,O,W]; simp only[aTY]) ?_;exact Lq
 ·have e:¬ (k:Int)<(f.aRV.length:Nat):=Om;have:k=f.aRV.length:=Om;subst this;rw[aUB (by simp)] at N;rw[wY];simp only[go_sem,e];exact X v _ _ ⟨by simp only[go_sem],by simp only[go_sem],by simp only[go_sem],by simp only[go_sem],by simp only[go_sem],by simp only[go_sem],by simp only[go_sem]⟩ N
theorem ahS {C:Ctx} (L:lN C) (f:aD) (t:List cN) (X:t.length≤40) (x:Bool) (E I J M:PV) (K:cE) (F:PF) (H:PH) (j:lT F f E I .aB J M x)
  (y:F 119=some (.sl 7 (t.map cN.cells))) (A:F 120=some (.int .i64 (t.length:Nat))) (B:F 121=some (.int .i64 0))
  (O:∀ v N H',lT N f E I v J M x→cA H' 1 v (fO (t.map cN.name))→K (.exit 4) N H') :
  aC.wp C (.loop IZ) K F H:=by
 refine wp_loop (α:=Nat × PV × PH) (fun a=>(((jW f E I a.2.1 J M x).set 119 (.sl 7 (t.map cN.cells))).set 120 (.int .i64 (t.length:Nat))).set 121 (.int .i64 a.1)) (fun a=>a.2.2)
  (fun a=>a.1≤t.length∧cA a.2.2 1 a.2.1 (fO ((t.map cN.name).take a.1))) (fun a=>t.length-a.1) (0,.aB,.nil) ⟨aTQ _,.nil⟩ ?_ a_ ?_
 ·unfold jW
  (repeat' (first|exact c_|refine d_ ?_ ?_))<;>first|(simp only[go_sem,j.a1,j.a3,j.a4,j.a5,j.a6,j.a7,j.a8,y,A,B]<;>rfl)|rfl
 rintro⟨k,v,W⟩ ⟨R,w⟩;simp only at R w ⊢;simp only[go_sem,IZ,J4,jW];by_cases hlt:k<t.length
 ·have e:(k:Int)<(t.length:Nat):=Om;have V:(t.map cN.cells)[k]?=some (t[k]).cells:=by simp[hlt]
  have u:=xL (t.map cN.name) (k:=k) (by simpa using hlt);rw[aVQ] at u;simp only[go_sem,e,J5,V];refine aO fun o S=>?_;simp only[go_sem,J6];refine nZ w S (tG (by simp; omega)) fun v' H' l U=>?_;rw[u] at l;simp only[go_sem,J7,wZz k];refine aH (k+1,v',H') ⟨hlt,l⟩ (by simp only; omega) ?_ b_;exact Lq
 ·have e:¬ (k:Int)<(t.length:Nat):=Om;have:k=t.length:=Om;subst this;rw[aUB (by simp)] at w;simp only[go_sem,e];exact O v _ _ ⟨by simp only[go_sem],by simp only[go_sem],by simp only[go_sem],by simp only[go_sem],by simp only[go_sem],by simp only[go_sem],by simp only[go_sem]⟩ w
theorem ahT {C:Ctx} (L:lN C) (f:aD) (e:List (List UInt8)) (hn:e.length≤40) (hs:f.aRU.length≤24) (hm:f.aRV.length≤4) (hd:f.aRX.length≤40) (A:Bool) (J M v0 N O:PV) (K:cE) (F:PF) (H:PH) (x:lT F f J M v0 N O A)
  (h0:cA H 1 v0 (fO e))
  (W:F 132=some (.sl 3 (f.aRU.map dQ.cells))) (X:F 133=some (.int .i64 (f.aRU.length:Nat))) (Y:F 134=some (.int .i64 0))
  (hK:∀ v y H',lT y f J M v N O (A&&f.aRU.all (jP f))→cA H' 1 v (fO (e++f.aRU.map dQ.name))→K (.exit 6) y H') :
  aC.wp C (.loop JA) K F H:=by
 refine wp_loop (α:=Nat × PV × PH) (fun t=>(((jW f J M t.2.1 N O (A&&jS f.aRU (jP f) t.1)).set 132 (.sl 3 (f.aRU.map dQ.cells))).set 133 (.int .i64 (f.aRU.length:Nat))).set 134 (.int .i64 t.1)) (fun t=>t.2.2)
  (fun t=>t.1≤f.aRU.length∧cA t.2.2 1 t.2.1 (fO (e++(f.aRU.map dQ.name).take t.1))) (fun t=>f.aRU.length-t.1) (0,v0,H) ⟨aTQ _,by rw[List.take_zero,aVC]; exact h0⟩ ?_ b_ ?_
 ·unfold jW
  (repeat' (first|exact c_|refine d_ ?_ ?_))<;>first|(simp only[go_sem,x.a1,x.a3,x.a4,x.a5,x.a6,x.a7,x.a8,W,X,Y,tU,aVK]<;>rfl)|rfl
 rintro⟨k,v,H0⟩ ⟨hk,V⟩;simp only at hk V ⊢;simp only[go_sem,JA,J8,jW];by_cases hlt:k<f.aRU.length
 ·have j:(k:Int)<(f.aRU.length:Nat):=Om;have hr:(f.aRU.map dQ.cells)[k]?=some (f.aRU[k]).cells:=by simp[hlt]
  have β:fO (e++(f.aRU.map dQ.name).take k)++[[.str (f.aRU[k]).name]]=fO (e++(f.aRU.map dQ.name).take (k+1)):=by rw[aVS (by simpa using hlt),← aUP,aVQ];unfold fO;simp only[aUX,aUQ,aVZ]
  simp only[go_sem,j,J9,hr];refine aO fun o ho=>?_;simp only[go_sem,Ka];refine nZ V ho (tG (by simp; omega)) fun v' H' B u=>?_;rw[β] at B;have w:=tT f.aRU (jP f) hlt;have fin:∀ (c:Bool) (y:PF),c=(A&&jS f.aRU (jP f) (k+1))→((((jW f J M v' N O c).set 132 (.sl 3 (f.aRU.map dQ.cells))).set 133 (.int .i64 (f.aRU.length:Nat))).set 134 (.int .i64 (k+1:Nat))).le y →
    fN (fun (t:Nat × PV × PH)=>(((jW f J M t.2.1 N O (A&&jS f.aRU (jP f) t.1)).set 132 (.sl 3 (f.aRU.map dQ.cells))).set 133 (.int .i64 (f.aRU.length:Nat))).set 134 (.int .i64 t.1)) (fun (t:Nat × PV × PH)=>t.2.2)  (fun (t:Nat × PV × PH)=>t.1≤f.aRU.length∧cA t.2.2 1 t.2.1 (fO (e++(f.aRU.map dQ.name).take t.1))) (fun (t:Nat × PV × PH)=>f.aRU.length-t.1) (f.aRU.length-k) K .normal y H':=by
   intro c y hc E;refine aH (α:=Nat × PV × PH) (k+1,v',H') ⟨hlt,B⟩ (by simp only; omega) ?_ b_;rw[hc] at E;exact E
  unfold jW at fin;rw[w,← aWU] at fin;have l:jP f f.aRU[k]=(within (f.aRU[k]).model 0 ((f.aRV.length:Int)-1)&&within (f.aRU[k]).machine 0 ((f.aRX.length:Int)-1)&&decide ((f.aRX.map cN.level).getD (f.aRU[k]).machine.toNat 0=4)):=rfl;cases hb:(A&&jS f.aRU (jP f) k) with
  | false =>rw[hb,aTS] at fin;simp only[go_sem,ZT,u,vO,wZz k];refine fin false _ rfl ?_;exact Lq
  | true =>
   rw[hb,aTY] at fin;simp only[go_sem,ZT,u,aTJ,DH (Om:f.aRV.length≤1000)];refine aA (L.inn _ 0 _) Ev ?_;cases R:within (f.aRU[k]).model 0 ((f.aRV.length:Int)-1) with
   | false =>simp only[go_sem,vO,wZz k];refine fin false _ (by rw[l,R]; simp only[aTS]) ?_;exact Lq
   | true =>
    simp only[go_sem,u,aTJ,DH (Om:f.aRX.length≤1000)];refine aA (L.inn _ 0 _) Ev ?_;cases S:within (f.aRU[k]).machine 0 ((f.aRX.length:Int)-1) with
    | false =>simp only[go_sem,vO,wZz k];refine fin false _ (by rw[l,R,S]; simp only[aTS,aUU]) ?_;exact Lq
    | true =>
     obtain⟨i1,i2⟩:=within_iff.1 S;have i3:(f.aRU[k]).machine.toNat<f.aRX.length:=Om;have I:(f.aRX.map cN.cells)[(f.aRU[k]).machine.toNat]?=some (f.aRX[(f.aRU[k]).machine.toNat]).cells:=by simp[i3]
     have Z:(f.aRX.map cN.level).getD (f.aRU[k]).machine.toNat 0=(f.aRX[(f.aRU[k]).machine.toNat]).level:=by simp[i3]
     rw[Z] at l;by_cases U:(f.aRX[(f.aRU[k]).machine.toNat]).level=4
     ·simp only[go_sem,u,i1,I,bP U,vO,wZz k];refine fin true _ (by rw[l,R,S,decide_eq_true U]; rfl) ?_;exact Lq
     ·simp only[go_sem,u,i1,I,bE U,vO,wZz k];refine fin false _ (by rw[l,R,S,decide_eq_false U]; rfl) ?_;exact Lq
 ·have j:¬ (k:Int)<(f.aRU.length:Nat):=Om;have:k=f.aRU.length:=Om;subst this;rw[aUB (by simp)] at V;rw[wY];simp only[go_sem,j];exact hK v _ _ ⟨by simp only[go_sem],by simp only[go_sem],by simp only[go_sem],by simp only[go_sem],by simp only[go_sem],by simp only[go_sem],by simp only[go_sem]⟩ V
theorem ahU {C:Ctx} (L:lN C) (f:aD) (W:f.Ok) (hs:f.aRY.length≤4) (Y:f.aRV.length≤4) (w:Bool) (E I J M:PV) (K:cE) (F:PF) (H:PH) (l:lT F f E I J .aB M w)
  (O:F 174=some (.sl 17 (f.aRY.map dD.cells))) (R:F 175=some (.int .i64 (f.aRY.length:Nat))) (S:F 176=some (.int .i64 0))
  (U:∀ v u H',lT u f E I J v M (w&&f.aRY.all (kC f.aRV.length))→cA H' 1 v (fO (f.aRY.map dD.name))→K (.exit 8) u H') :
  aC.wp C (.loop JB) K F H:=by
 refine wp_loop (α:=Nat × PV × PH) (fun t=>(((jW f E I J t.2.1 M (w&&jS f.aRY (kC f.aRV.length) t.1)).set 174 (.sl 17 (f.aRY.map dD.cells))).set 175 (.int .i64 (f.aRY.length:Nat))).set 176 (.int .i64 t.1)) (fun t=>t.2.2)
  (fun t=>t.1≤f.aRY.length∧cA t.2.2 1 t.2.1 (fO ((f.aRY.map dD.name).take t.1))) (fun t=>f.aRY.length-t.1) (0,.aB,.nil) ⟨aTQ _,.nil⟩ ?_ a_ ?_
 ·unfold jW
  (repeat' (first|exact c_|refine d_ ?_ ?_))<;>first|(simp only[go_sem,l.a1,l.a3,l.a4,l.a5,l.a6,l.a7,l.a8,O,R,S,tU,aVK]<;>rfl)|rfl
 rintro⟨k,v,H0⟩ ⟨X,N⟩;simp only at X N ⊢;simp only[go_sem,JB,Kb,jW];by_cases hlt:k<f.aRY.length
 ·have e:(k:Int)<(f.aRY.length:Nat):=Om;have hr:(f.aRY.map dD.cells)[k]?=some (f.aRY[k]).cells:=by simp[hlt]
  have B:=xL (f.aRY.map dD.name) (k:=k) (by simpa using hlt);rw[aVQ] at B;simp only[go_sem,e,Kc,hr];refine aO fun o Z=>?_;simp only[go_sem,Kd];refine nZ N Z (tG (by simp; omega)) fun v' H' x A=>?_;rw[B] at x;have j:=tT f.aRY (kC f.aRV.length) hlt;have fin:∀ (c:Bool) (u:PF),c=(w&&jS f.aRY (kC f.aRV.length) (k+1))→((((jW f E I J v' M c).set 174 (.sl 17 (f.aRY.map dD.cells))).set 175 (.int .i64 (f.aRY.length:Nat))).set 176 (.int .i64 (k+1:Nat))).le u →
    fN (fun (t:Nat × PV × PH)=>(((jW f E I J t.2.1 M (w&&jS f.aRY (kC f.aRV.length) t.1)).set 174 (.sl 17 (f.aRY.map dD.cells))).set 175 (.int .i64 (f.aRY.length:Nat))).set 176 (.int .i64 t.1)) (fun (t:Nat × PV × PH)=>t.2.2)  (fun (t:Nat × PV × PH)=>t.1≤f.aRY.length∧cA t.2.2 1 t.2.1 (fO ((f.aRY.map dD.name).take t.1))) (fun (t:Nat × PV × PH)=>f.aRY.length-t.1) (f.aRY.length-k) K .normal u H':=by
   intro c u V y;refine aH (α:=Nat × PV × PH) (k+1,v',H') ⟨hlt,x⟩ (by simp only; omega) ?_ b_;rw[V] at y;exact y
  unfold jW at fin;rw[j,← aWU] at fin;cases hb:(w&&jS f.aRY (kC f.aRV.length) k) with
  | false =>rw[hb,aTS] at fin;simp only[go_sem,ZV,A,ZW,wZz k];refine fin false _ rfl ?_;exact Lq
  | true =>rw[hb,aTY] at fin;simp only[go_sem,ZV,A,aTJ];refine aA (L.pol _ _ (W.aSH _ (aTN hlt)) Y) Ev ?_;simp only[go_sem,ZW,wZz k];refine fin _ _ rfl ?_;exact Lq
 ·have e:¬ (k:Int)<(f.aRY.length:Nat):=Om;have:k=f.aRY.length:=Om;subst this;rw[aUB (by simp)] at N;rw[wY];simp only[go_sem,e];exact U v _ _ ⟨by simp only[go_sem],by simp only[go_sem],by simp only[go_sem],by simp only[go_sem],by simp only[go_sem],by simp only[go_sem],by simp only[go_sem]⟩ N
theorem ahV {C:Ctx} (L:lN C) (f:aD) (hs:f.aRW.length≤12) (hl:f.aRY.length≤4) (w:Bool) (E I J M:PV) (K:cE) (F:PF) (H:PH) (l:lT F f E I J M .aB w)
  (O:F 195=some (.sl 2 (f.aRW.map fE.cells))) (R:F 196=some (.int .i64 (f.aRW.length:Nat))) (S:F 197=some (.int .i64 0))
  (U:∀ v u H',lT u f E I J M v (w&&f.aRW.all (oZ f))→cA H' 1 v (fO (f.aRW.map fE.name))→K (.exit 10) u H') :
  aC.wp C (.loop JC) K F H:=by
 refine wp_loop (α:=Nat × PV × PH) (fun t=>(((jW f E I J M t.2.1 (w&&jS f.aRW (oZ f) t.1)).set 195 (.sl 2 (f.aRW.map fE.cells))).set 196 (.int .i64 (f.aRW.length:Nat))).set 197 (.int .i64 t.1)) (fun t=>t.2.2)
  (fun t=>t.1≤f.aRW.length∧cA t.2.2 1 t.2.1 (fO ((f.aRW.map fE.name).take t.1))) (fun t=>f.aRW.length-t.1) (0,.aB,.nil) ⟨aTQ _,.nil⟩ ?_ a_ ?_
 ·unfold jW
  (repeat' (first|exact c_|refine d_ ?_ ?_))<;>first|(simp only[go_sem,l.a1,l.a3,l.a4,l.a5,l.a6,l.a7,l.a8,O,R,S,tU,aVK]<;>rfl)|rfl
 rintro⟨k,v,H0⟩ ⟨W,N⟩;simp only at W N ⊢;simp only[go_sem,JC,Ke,jW];by_cases hlt:k<f.aRW.length
 ·have e:(k:Int)<(f.aRW.length:Nat):=Om;have Z:(f.aRW.map fE.cells)[k]?=some (f.aRW[k]).cells:=by simp[hlt]
  have B:=xL (f.aRW.map fE.name) (k:=k) (by simpa using hlt);rw[aVQ] at B;simp only[go_sem,e,Kf,Z];refine aO fun o Y=>?_;simp only[go_sem,Kg];refine nZ N Y (tG (by simp; omega)) fun v' H' x A=>?_;rw[B] at x;have j:=tT f.aRW (oZ f) hlt;have fin:∀ (c:Bool) (u:PF),c=(w&&jS f.aRW (oZ f) (k+1))→((((jW f E I J M v' c).set 195 (.sl 2 (f.aRW.map fE.cells))).set 196 (.int .i64 (f.aRW.length:Nat))).set 197 (.int .i64 (k+1:Nat))).le u →
    fN (fun (t:Nat × PV × PH)=>(((jW f E I J M t.2.1 (w&&jS f.aRW (oZ f) t.1)).set 195 (.sl 2 (f.aRW.map fE.cells))).set 196 (.int .i64 (f.aRW.length:Nat))).set 197 (.int .i64 t.1)) (fun (t:Nat × PV × PH)=>t.2.2)  (fun (t:Nat × PV × PH)=>t.1≤f.aRW.length∧cA t.2.2 1 t.2.1 (fO ((f.aRW.map fE.name).take t.1))) (fun (t:Nat × PV × PH)=>f.aRW.length-t.1) (f.aRW.length-k) K .normal u H':=by
   intro c u V y;refine aH (α:=Nat × PV × PH) (k+1,v',H') ⟨hlt,x⟩ (by simp only; omega) ?_ b_;rw[V] at y;exact y
  unfold jW at fin;rw[j,← aWU] at fin;have X:oZ f f.aRW[k]=within (f.aRW[k]).aSH 0 ((f.aRY.length:Int)-1):=rfl;cases hb:(w&&jS f.aRW (oZ f) k) with
  | false =>rw[hb,aTS] at fin;simp only[go_sem,ZY,A,ZZ,wZz k];refine fin false _ rfl ?_;exact Lq
  | true =>rw[hb,aTY,X] at fin;simp only[go_sem,ZY,A,aTJ,DH (Om:f.aRY.length≤1000)];refine aA (L.inn _ 0 _) Ev ?_;simp only[go_sem,ZZ,wZz k];refine fin _ _ rfl ?_;exact Lq
 ·have e:¬ (k:Int)<(f.aRW.length:Nat):=Om;have:k=f.aRW.length:=Om;subst this;rw[aUB (by simp)] at N;rw[wY];simp only[go_sem,e];exact U v _ _ ⟨by simp only[go_sem],by simp only[go_sem],by simp only[go_sem],by simp only[go_sem],by simp only[go_sem],by simp only[go_sem],by simp only[go_sem]⟩ N
theorem oL {f:aD} (h:¬ (f.aSC.length≤4∧f.aRV.length≤4∧f.aRX.length≤40∧f.aRU.length≤24∧f.aRY.length≤4∧f.aRW.length≤12)):oK f=false:=by
 rw[← Bool.not_eq_true];intro e;simp only[oK,aUC,decide_eq_true_eq] at e;omega
theorem Uu {f:aD} (h:f.aSC.length≤4∧f.aRV.length≤4∧f.aRX.length≤40∧f.aRU.length≤24∧f.aRY.length≤4∧f.aRW.length≤12):oK f=within f.aTA 1 4:=by
 obtain⟨e,j,l,u,h5,w⟩:=h;simp[oK,e,j,l,u,h5,w]
theorem nM {t:Nat} {n m:Int} {F:PF} {H:PH} (h:F t=some (.int .i64 n)) (e:n=m):aR [.tmp t] (cB (.int .i64 m)) .ret F H:=by
 subst e;exact aV (.inr rfl) .nil (vs:=[.int .i64 n]) (by rw[lK,oI,h,pK]) a_ ⟨.refl _,rfl⟩
def xZ (f:aD):Int:=if dA f then 0 else 1
theorem nw {f:aD} (h:dA f=false):xZ f=1:=by rw[xZ,h]; rfl
theorem uV {C:Ctx} {F:PF} {H:PH} {name t s:Nat} {v r:PV} {rows:List (List PV)} {d:Option Nat} {K:PF→PH→Prop} (h:aG C name [.sl s rows] .nil (aI r)) (x:cA H s v rows) (l:F t=some v)
  (j:∀ (e:PF) (w:PH),(∀ i u,F i=some u→Pure u→e i=some u)→K (e.put d r) w):hC C name [.tmp t] [] d K F H:=by
 rcases x with ⟨rfl,rfl⟩ | ⟨q,rs,rfl,h1,h2,h3⟩
 ·refine aA (h.ajW (.inl ⟨rfl,rfl⟩)) (by rw[AR,io,l,UD]) ?_;exact j F H fun i u hi _=>hi
 ·rw[← h3] at h;refine rH (k:=rows.length) h l h1 h2 (j _ _ fun i u hi y=>?_);rw[oF,hi,aUO,y q s rs]
theorem Seen.pure {s:Nat} {v:PV} {rows:List (List PV)} (h:Seen s v rows):Pure v:=by
 rcases h with ⟨_,rfl⟩ | rfl
 ·exact fun _ _ _=>rfl
 ·exact fun _ _ _=>rfl
def bI (b:Bool):Int:=if b then 0 else 1
abbrev US (f:aD):List (List UInt8):=(f.aRX.drop 1).map cN.name++f.aRU.map dQ.name
def wV (f:aD):Bool:=distinct (f.aSC.map cI.name)&&distinct (f.aRV.map cZ.name)&&distinct (US f)&&distinct (f.aRY.map dD.name)&&distinct (f.aRW.map fE.name)
structure Small (f:aD):Prop where
 aSC:f.aSC.length≤4
 aRV:f.aRV.length≤4
 aRX:f.aRX.length≤40
 aRU:f.aRU.length≤24
 aRY:f.aRY.length≤4
 aRW:f.aRW.length≤12
theorem CX {C:Ctx} (L:lN C) {v:PV} {l:List (List UInt8)} (h:Seen 1 v (fO l)) (e:l.length≤1000):aG C 110 [v] .nil (aI (.bool (distinct l))) :=
 (L.uniq l (Om:l.length≤9223372036854775807)).ajW h
theorem avJ {C:Ctx} (L:lN C) (f:aD) (J:Small f) (j l u w x:PV) (ok:Bool) (F:PF) (H:PH) (e:lT F f j l u w x ok)
  (A:Seen 1 j (fO (f.aSC.map cI.name))) (B:Seen 1 l (fO (f.aRV.map cZ.name))) (h5:Seen 1 u (fO (US f))) (E:Seen 1 w (fO (f.aRY.map dD.name))) (h7:cA H 1 x (fO (f.aRW.map fE.name))) :
  aC.wp C (.seq (.seq (.region BB) (.cond (.tmp 243) (.seq (.region oW) .ret) .skip)) (.seq (.region JD) .ret)) (aR [.tmp 2] (cB (.int .i64 (bI (ok&&wV f))))) F H:=by
 obtain⟨s1,s2,s3,s4,Z,s6⟩:=J;have K:(f.aSC.map cI.name).length≤1000:=by simp; omega
 have M:(f.aRV.map cZ.name).length≤1000:=by simp; omega
 have N:(US f).length≤1000:=by simp; omega
 have O:(f.aRY.map dD.name).length≤1000:=by simp; omega
 have R:(f.aRW.map fE.name).length≤9223372036854775807:=by simp; omega
 cases ok with
 | false =>simp only[go_sem,BB,e.a8,oW];exact nM rfl rfl
 | true =>
  simp only[go_sem,BB,e.a8,e.a3];refine aA (CX L A K) rfl ?_;unfold wV;cases U:distinct (f.aSC.map cI.name) with
  | false =>simp only[go_sem,oW,aTZ];exact nM rfl rfl
  | true =>
   simp only[go_sem,e.a4,aTV];refine aA (CX L B M) rfl ?_;cases V:distinct (f.aRV.map cZ.name) with
   | false =>simp only[go_sem,oW,aTZ];exact nM rfl rfl
   | true =>
    simp only[go_sem,e.a5,aTV];refine aA (CX L h5 N) rfl ?_;cases W:distinct (US f) with
    | false =>simp only[go_sem,oW,aTZ];exact nM rfl rfl
    | true =>
     simp only[go_sem,e.a6,aTV];refine aA (CX L E O) rfl ?_;cases X:distinct (f.aRY.map dD.name) with
     | false =>simp only[go_sem,oW,aTZ];exact nM rfl rfl
     | true =>
      simp only[go_sem,e.a7,aTV];refine uV (L.uniq _ R) h7 rfl fun y S I=>?_;have g:y 239=some (.bool false):=I 239 _ rfl fun _ _ _=>rfl;cases Y:distinct (f.aRW.map fE.name) with
      | false =>simp only[go_sem,oW,aTZ,g];exact nM rfl rfl
      | true =>simp only[go_sem,JD,aTV,g];exact nM rfl rfl
abbrev vg (b:Bool):cE:=aR [.tmp 2] (cB (.int .i64 (bI b)))
def Ee:aC:=.seq (.seq (.region ZX) (.block 10 (.loop JC))) (.seq (.seq (.region BB) (.cond (.tmp 243) (.seq (.region oW) .ret) .skip)) (.seq (.region JD) .ret))
def Ed:aC:=.seq (.seq (.region ZU) (.block 8 (.loop JB))) Ee
def Ec:aC:=.seq (.seq (.region ZS) (.block 6 (.loop JA))) Ed
def Eb:aC:=.seq (.seq (.region ZR) (.block 4 (.loop IZ))) Ec
def Ea:aC:=.seq (.seq (.region ZP) (.block 2 (.loop IY))) Eb
def akV:aC:=.seq (.seq (.region sv) (.block 0 (.loop IX))) Ea
theorem aEH {C:Ctx} (L:lN C) (f:aD) (y:Small f) (u w x K:PV) (ok:Bool) (F:PF) (H:PH) (l:lT F f u w x K .aB ok)
  (E:Seen 1 u (fO (f.aSC.map cI.name))) (I:Seen 1 w (fO (f.aRV.map cZ.name))) (h5:Seen 1 x (fO (US f))) (R:cA H 1 K (fO (f.aRY.map dD.name))) :
  aC.wp C Ee (vg (ok&&f.aRW.all (oZ f)&&wV f)) F H:=by
 unfold Ee;simp only[go_sem,ZX,l.a1,aTJ];refine rI R fun J B N O U j=>?_;refine ahV L f y.aRW y.aRY ok u w x J _ N O ⟨j 1 _ (by simp only[go_sem,l.a1]) fun _ _ _=>rfl,j 3 _ (by simp only[go_sem,l.a3]) E.pure,j 4 _ (by simp only[go_sem,l.a4]) I.pure,j 5 _ (by simp only[go_sem,l.a5]) h5.pure,U 6 (by simp only[go_sem,l.a6]),j 7 _ (by simp only[go_sem,l.a7]) fun _ _ _=>rfl,j 8 _ (by simp only[go_sem,l.a8]) fun _ _ _=>rfl⟩
  (j 195 _ rfl fun _ _ _=>rfl) (j 196 _ rfl fun _ _ _=>rfl) (j 197 _ rfl fun _ _ _=>rfl) fun v M H' A S=>?_
 have e:=avJ L f y u w x J v _ M H' A E I h5 B S;simp only[aC.wp,go_sem] at e;simp only[go_sem];exact e
theorem aEG {C:Ctx} (L:lN C) (f:aD) (O:f.Ok) (w:Small f) (l u I:PV) (ok:Bool) (F:PF) (H:PH) (j:lT F f l u I .aB .aB ok)
  (A:Seen 1 l (fO (f.aSC.map cI.name))) (B:Seen 1 u (fO (f.aRV.map cZ.name))) (h5:cA H 1 I (fO (US f))) :
  aC.wp C Ed (vg (ok&&f.aRY.all (kC f.aRV.length)&&f.aRW.all (oZ f)&&wV f)) F H:=by
 unfold Ed;simp only[go_sem,ZU,j.a1,aTJ];refine rI h5 fun E y K M R e=>?_;refine ahU L f O w.aRY w.aRV ok l u E .aB _ K M ⟨e 1 _ (by simp only[go_sem,j.a1]) fun _ _ _=>rfl,e 3 _ (by simp only[go_sem,j.a3]) A.pure,e 4 _ (by simp only[go_sem,j.a4]) B.pure,R 5 (by simp only[go_sem,j.a5]),e 6 _ (by simp only[go_sem,j.a6]) fun _ _ _=>rfl,e 7 _ (by simp only[go_sem,j.a7]) fun _ _ _=>rfl,e 8 _ (by simp only[go_sem,j.a8]) fun _ _ _=>rfl⟩
  (e 174 _ rfl fun _ _ _=>rfl) (e 175 _ rfl fun _ _ _=>rfl) (e 176 _ rfl fun _ _ _=>rfl) fun v J H' x N=>?_
 simp only[go_sem];exact aEH L f w l u E v _ J H' x A B y N
theorem aEF {C:Ctx} (L:lN C) (f:aD) (I:f.Ok) (j:Small f) (l u x:PV) (ok:Bool) (F:PF) (H:PH) (e:lT F f l u x .aB .aB ok)
  (A:Seen 1 l (fO (f.aSC.map cI.name))) (B:Seen 1 u (fO (f.aRV.map cZ.name))) (h5:cA H 1 x (fO ((f.aRX.drop 1).map cN.name))) :
  aC.wp C Ec (vg (ok&&f.aRU.all (jP f)&&f.aRY.all (kC f.aRV.length)&&f.aRW.all (oZ f)&&wV f)) F H:=by
 unfold Ec;simp only[go_sem,ZS,e.a1,aTJ];refine ahT L f ((f.aRX.drop 1).map cN.name) (by have:=j.aRX; simp; omega) j.aRU j.aRV j.aRX ok l u x .aB .aB _ _ H ⟨by simp only[go_sem,e.a1],by simp only[go_sem,e.a3],by simp only[go_sem,e.a4],by simp only[go_sem,e.a5],by simp only[go_sem,e.a6],by simp only[go_sem,e.a7],by simp only[go_sem,e.a8]⟩ h5
  rfl rfl rfl fun v y H' w E=>?_
 simp only[go_sem];exact aEG L f I j l u v _ y H' w A B E
theorem aEE {C:Ctx} (L:lN C) (f:aD) (R:f.Ok) (B:Small f) (V:0<f.aRX.length) (u I:PV) (ok:Bool) (F:PF) (H:PH) (j:lT F f u I .aB .aB .aB ok)
  (A:Seen 1 u (fO (f.aSC.map cI.name))) (N:cA H 1 I (fO (f.aRV.map cZ.name))) :
  aC.wp C Eb (vg (ok&&f.aRU.all (jP f)&&f.aRY.all (kC f.aRV.length)&&f.aRW.all (oZ f)&&wV f)) F H:=by
 unfold Eb;have w:(1:Int)≤(f.aRX.length:Nat):=Om;have S:=B.aRX;have l:((f.aRX.map cN.cells).take f.aRX.length).drop 1=(f.aRX.drop 1).map cN.cells:=by rw[aUB (by simp),List.map_drop]
 simp only[go_sem,ZR,j.a1,aTJ,w,aWN,l];refine rI N fun E y K M U e=>?_;refine ahS L f (f.aRX.drop 1) (by simp; omega) ok u E .aB .aB _ K M ⟨e 1 _ (by simp only[go_sem,j.a1]) fun _ _ _=>rfl,e 3 _ (by simp only[go_sem,j.a3]) A.pure,U 4 (by simp only[go_sem,j.a4]),e 5 _ (by simp only[go_sem,j.a5]) fun _ _ _=>rfl,e 6 _ (by simp only[go_sem,j.a6]) fun _ _ _=>rfl,e 7 _ (by simp only[go_sem,j.a7]) fun _ _ _=>rfl,e 8 _ (by simp only[go_sem,j.a8]) fun _ _ _=>rfl⟩
  (e 119 _ rfl fun _ _ _=>rfl) (e 120 _ rfl fun _ _ _=>rfl) (e 121 _ rfl fun _ _ _=>rfl) fun v J H' x O=>?_
 simp only[go_sem];exact aEF L f R B u E v _ J H' x A y O
theorem aED {C:Ctx} (L:lN C) (f:aD) (M:f.Ok) (l:Small f) (K:0<f.aRX.length) (y:PV) (ok:Bool) (F:PF) (H:PH) (j:lT F f y .aB .aB .aB .aB ok)
  (I:cA H 1 y (fO (f.aSC.map cI.name))) :
  aC.wp C Ea (vg (ok&&f.aRV.all (kZ f)&&f.aRU.all (jP f)&&f.aRY.all (kC f.aRV.length)&&f.aRW.all (oZ f)&&wV f)) F H:=by
 unfold Ea;simp only[go_sem,ZP,j.a1,aTJ];refine rI I fun x w B E N e=>?_;refine ahR L f l.aRV l.aSC ok x .aB .aB .aB _ B E ⟨e 1 _ (by simp only[go_sem,j.a1]) fun _ _ _=>rfl,N 3 (by simp only[go_sem,j.a3]),e 4 _ (by simp only[go_sem,j.a4]) fun _ _ _=>rfl,e 5 _ (by simp only[go_sem,j.a5]) fun _ _ _=>rfl,e 6 _ (by simp only[go_sem,j.a6]) fun _ _ _=>rfl,e 7 _ (by simp only[go_sem,j.a7]) fun _ _ _=>rfl,e 8 _ (by simp only[go_sem,j.a8]) fun _ _ _=>rfl⟩
  (e 85 _ rfl fun _ _ _=>rfl) (e 86 _ rfl fun _ _ _=>rfl) (e 87 _ rfl fun _ _ _=>rfl) fun v A H' u J=>?_
 simp only[go_sem];exact aEE L f M l K x v _ A H' u w J
theorem aEC {C:Ctx} (L:lN C) (f:aD) (l:f.Ok) (u:Small f) (y:0<f.aRX.length) (F:PF) (H:PH) (e:lT F f .aB .aB .aB .aB .aB true) :
  aC.wp C akV (vg (f.aSC.all kY&&f.aRV.all (kZ f)&&f.aRU.all (jP f)&&f.aRY.all (kC f.aRV.length)&&f.aRW.all (oZ f)&&wV f)) F H:=by
 unfold akV;simp only[go_sem,sv,e.a1,aTJ];refine ahQ L f l u.aSC .aB .aB .aB .aB _ _ H ⟨by simp only[go_sem,e.a1],by simp only[go_sem,e.a3],by simp only[go_sem,e.a4],by simp only[go_sem,e.a5],by simp only[go_sem,e.a6],by simp only[go_sem,e.a7],by simp only[go_sem,e.a8]⟩ rfl rfl rfl fun v w H' j x=>?_;simp only[go_sem];exact aED L f l u y v _ w H' j x
theorem aEA {C:Ctx} (L:lN C) (f:aD) (J:f.Ok):QF.wp C (aR avI.res (cB (.int .i64 (xZ f)))) (PF.args [.agg f.cells]) .nil:=by
 have he:dA f=(oK f&&oT f&&(f.aSC.all kY&&f.aRV.all (kZ f)&&f.aRU.all (jP f)&&f.aRY.all (kC f.aRV.length)&&f.aRW.all (oZ f))&&wV f):=rfl;simp only[go_sem,QF,X7,X8,avI];refine aA (L.inn f.aTA 1 4) rfl ?_;have j:∀ (F:PF) (H:PH),dA f=false→F 2=some (.int .i64 1)→aR [.tmp 2] (cB (.int .i64 (xZ f))) .ret F H:=fun F H N O=>nM O (nw N).symm;cases I:within f.aTA 1 4 with
 | false =>
  have:oK f=false:=by simp[oK,I]
  simp only[go_sem,aTZ,qR];exact j _ _ (by rw[he,this]; simp only[aTS]) rfl
 | true =>
  by_cases s1:f.aSC.length≤4
  ·have l:¬ (f.aSC.length:Int)>4:=Om;by_cases s2:f.aRV.length≤4
   ·have u:¬ (f.aRV.length:Int)>4:=Om;by_cases s3:f.aRX.length≤40
    ·have w:¬ (f.aRX.length:Int)>40:=Om;by_cases s4:f.aRU.length≤24
     ·have x:¬ (f.aRU.length:Int)>24:=Om;by_cases K:f.aRY.length≤4
      ·have y:¬ (f.aRY.length:Int)>4:=Om;by_cases M:f.aRW.length≤12
       ·have A:¬ (f.aRW.length:Int)>12:=Om;have B:=Uu ⟨s1,s2,s3,s4,K,M⟩;rw[I] at B;simp only[go_sem,aTV,aTJ,l,u,w,x,y,A];refine aA (L.aSE f J) rfl ?_;cases E:oT f with
        | false =>simp only[go_sem,aTZ,qR];exact j _ _ (by rw[he,E]; simp only[aUU,aTS]) rfl
        | true =>
         have R:0<f.aRX.length:=by
          rcases aVP f.aRX.length with h | h
          ·have:f.aRX=[]:=List.eq_nil_of_length_eq_zero h;rw[oT,this] at E;cases E
          ·exact h
         have U:xZ f=bI (f.aSC.all kY&&f.aRV.all (kZ f)&&f.aRU.all (jP f)&&f.aRY.all (kC f.aRV.length)&&f.aRW.all (oZ f)&&wV f):=by rw[xZ,he,B,E]; rfl
         rw[U];simp only[go_sem,aTV,X9,Ya];have e:=fun F H S=>aEC L f J ⟨s1,s2,s3,s4,K,M⟩ R F H S;simp only[akV,Ea,Eb,Ec,Ed,Ee,aC.wp,go_sem] at e;exact e _ _ ⟨by simp only[go_sem],by simp only[go_sem],by simp only[go_sem],by simp only[go_sem],by simp only[go_sem],by simp only[go_sem],by simp only[go_sem]⟩
       ·have A:(f.aRW.length:Int)>12:=Om;simp only[go_sem,aTV,aTJ,l,u,w,x,y,A,qR];exact j _ _ (by rw[he,oL Om]; simp only[aTS]) rfl
      ·have y:(f.aRY.length:Int)>4:=Om;simp only[go_sem,aTV,aTJ,l,u,w,x,y,qR];exact j _ _ (by rw[he,oL Om]; simp only[aTS]) rfl
     ·have x:(f.aRU.length:Int)>24:=Om;simp only[go_sem,aTV,aTJ,l,u,w,x,qR];exact j _ _ (by rw[he,oL Om]; simp only[aTS]) rfl
    ·have w:(f.aRX.length:Int)>40:=Om;simp only[go_sem,aTV,aTJ,l,u,w,qR];exact j _ _ (by rw[he,oL Om]; simp only[aTS]) rfl
   ·have u:(f.aRV.length:Int)>4:=Om;simp only[go_sem,aTV,aTJ,l,u,qR];exact j _ _ (by rw[he,oL Om]; simp only[aTS]) rfl
  ·have l:(f.aSC.length:Int)>4:=Om;simp only[go_sem,aTV,aTJ,l,qR];exact j _ _ (by rw[he,oL Om]; simp only[aTS]) rfl
def lvl (f:aD) (i:Nat):Int:=(f.aRX.map cN.level).getD i 0
def par (f:aD) (i:Nat):Int:=(f.aRX.map cN.parent).getD i 0
def gX (f:aD) (i:Nat):Nat:=(par f i).toNat
def eU (f:aD) (d:Nat):Nat:=((f.aRU.map dQ.machine).getD d 0).toNat
def mdl (f:aD) (d:Nat):Nat:=((f.aRU.map dQ.model).getD d 0).toNat
def ext (f:aD) (d:Nat):Int:=(f.aRV.map cZ.aSL).getD (mdl f d) 0
def xX (f:aD) (v:Nat):Nat:=((f.aRW.map fE.aSH).getD v 0).toNat
def aMP:dD:=⟨[],0,0,0,0,0,0,0,0,[],[],⟨false,[],[]⟩,⟨false,[],[]⟩⟩
def bZ (f:aD) (v:Nat):dD:=f.aRY.getD (xX f v) aMP
def upN (f:aD):Nat→Nat→Nat
 | 0,i=>i
 | k+1,i=>gX f (upN f k i)
theorem getD_at {α β:Type} {l:List α} {g:α→β} {i:Nat} {b:β} (h:i<l.length):(l.map g).getD i b=g l[i]:=by
 simp[aTR,h]
structure VF (f:aD):Prop where
 small:Small f
 root:0<f.aRX.length∧lvl f 0=0∧par f 0=-1
 dom:∀ i,0<i→i<f.aRX.length→0≤par f i∧gX f i<i∧lvl f (gX f i)=lvl f i-1∧1≤lvl f i∧lvl f i≤4
 drive:∀ d (h:d<f.aRU.length),0≤(f.aRU[d]).model∧mdl f d<f.aRV.length∧0≤(f.aRU[d]).machine∧eU f d<f.aRX.length∧lvl f (eU f d)=4
 aSH:∀ p∈f.aRY,1≤p.k∧p.k≤6∧0≤p.m∧p.m≤4∧p.k+p.m≤8∧p.s0=0∧(∀ l,0≤p.spread l∧p.spread l≤8)∧∀ m∈p.aRV,0≤m∧m<f.aRV.length
 volume:∀ v (h:v<f.aRW.length),0≤(f.aRW[v]).aSH∧xX f v<f.aRY.length
 model:∀ m∈f.aRV,1≤m.aSL∧m.aSL≤16
theorem aGC {p:dD} {n:Nat} (h:kC n p=true):∀ m∈p.aRV,0≤m∧m<n:=by
 intro m j;simp only[kC,aUC] at h;obtain⟨i,hi,rfl⟩:=aVD j;have:=aUH.1 h.2 i (aUD.2 hi);rw[aUC] at this;have e:=within_iff.1 this.1;simp only[aTR,aTP hi,aWE] at e;omega
theorem po {x:Int} (e:1≤x) (j:x≤4):IntKind.i64.wrap (x-1)=x-1:=wrap_i64 Om Om
theorem VF.of {f:aD} (h:dA f=true):VF f:=by
 simp only[dA,aUC] at h;obtain⟨⟨⟨U,j⟩,⟨⟨⟨R,A⟩,y⟩,B⟩,E⟩,-⟩:=h;simp only[oK,aUC,decide_eq_true_eq] at U;obtain⟨⟨⟨⟨⟨⟨s0,s1⟩,s2⟩,s3⟩,s4⟩,s5⟩,s6⟩:=U;cases e:f.aRX with
 | nil=>rw[oT,e] at j; cases j
 | cons r t =>
  rw[oT,e] at j;simp only[CC,aUC,decide_eq_true_eq] at j;obtain⟨⟨⟨⟨⟨⟨r1,r2⟩,r3⟩,r4⟩,r5⟩,r6⟩,x⟩:=j;have S:f.aRX.length=t.length+1:=by rw[e]; rfl
  refine⟨⟨s1,s2,s3,s4,s5,s6⟩,⟨by omega,by rw[lvl,e]; exact r2,by rw[par,e]; exact r3⟩,?_,?_,?_,?_,?_⟩
  ·intro i h0 hi;obtain⟨k,rfl⟩:∃ k,i=k+1:=⟨i-1,by omega⟩;have I:k<t.length:=Om;have:=aUH.1 x k (aUD.2 I);rw[aTP I] at this;simp only[HX,aUC,decide_eq_true_eq] at this;obtain⟨⟨⟨⟨J,F⟩,K⟩,d4⟩,d5⟩:=this;obtain⟨p0,p1⟩:=within_iff.1 J;obtain⟨W,X⟩:=within_iff.1 K;have u:par f (k+1)=(t[k]).parent:=by rw[par,e]; simp[aTR,I]
   have w:lvl f (k+1)=(t[k]).level:=by rw[lvl,e]; simp[aTR,I]
   rw[po W X] at F;have Y:lvl f (t[k]).parent.toNat=(t[k]).level-1:=F;refine⟨by rw[u]; exact p0,?_,?_,by rw[w]; exact W,by rw[w]; exact X⟩
   ·rw[gX,u]; omega
   ·rw[gX,u,w]; exact Y
  ·intro d j;have:=aUH.1 y _ (aTN j);simp only[jP,aUC,decide_eq_true_eq] at this;obtain⟨⟨J,F⟩,K⟩:=this;have a1:=within_iff.1 J;have a2:=within_iff.1 F;have u:mdl f d=(f.aRU[d]).model.toNat:=by rw[mdl,getD_at j]
   have w:eU f d=(f.aRU[d]).machine.toNat:=by rw[eU,getD_at j]
   refine⟨a1.1,by rw[u]; omega,a2.1,by rw[w]; omega,by rw[w]; exact K⟩
  ·intro p hp;have M:=aUH.1 B p hp;have Z:=aGC M;simp only[kC,KV,aUC,decide_eq_true_eq,List.all_cons,List.all_nil,aVK] at M;obtain⟨⟨⟨⟨⟨⟨⟨⟨k1,m1⟩,km⟩,q1⟩,z0⟩,sp⟩,-⟩,-⟩,-⟩:=M;obtain⟨g0,g1,g2,g3,g4⟩:=sp;have N:=within_iff.1 k1;have O:=within_iff.1 m1;have b3:=within_iff.1 g0;have b4:=within_iff.1 g1;have b5:=within_iff.1 g2;have b6:=within_iff.1 g3;have b7:=within_iff.1 g4;refine⟨N.1,N.2,O.1,O.2,km,z0,fun l=>?_,Z⟩;unfold dD.spread;split<;>omega
  ·intro v V;have:=aUH.1 E _ (aTN V);have a1:=within_iff.1 this;have u:xX f v=(f.aRW[v]).aSH.toNat:=by rw[xX,getD_at V]
   exact⟨a1.1,by rw[u]; omega⟩
  ·intro m hm;have:=aUH.1 A m hm;simp only[kZ,aUC] at this;exact within_iff.1 this.1.1
theorem TD {f:aD} (h:VF f) {d:Nat} (j:d<f.aRU.length):∀ {k:Nat},k≤4→upN f k (eU f d)<f.aRX.length∧lvl f (upN f k (eU f d))=4-(k:Int)
 | 0,_=>⟨(h.drive d j).2.2.2.1,by rw[upN,(h.drive d j).2.2.2.2]; rfl⟩
 | k+1,y=>by
  obtain⟨w,u⟩:=TD h j (k:=k) Om;have l:0<upN f k (eU f d):=by
   rcases aVP (upN f k (eU f d)) with e | e
   ·rw[e,h.root.2.1] at u; omega
   ·exact e
  obtain⟨g1,g2,g3,g4,x⟩:=h.dom _ l w;refine⟨by rw[upN]; omega,?_⟩;rw[upN,g3,u]; omega
def jX (f:aD) (d:Nat) (level:Int):Nat:=upN f (4-level.toNat) (eU f d)
def mR (f:aD) (v:Nat):Int:=(bZ f v).k+(bZ f v).m
def Bb:Rg:=[iA 1 (.box true (Tm 0)),iT 2 false]
def Bc:Rg:=[iO 3 7 1,iK 4 96 3,iC 5 .eql 4 0,iM 2 5]
def EW:aC:=(sq Bb (sq Bc .ret))
def arA:List Nat:=[1]
def Qy:aW:=⟨1,6,EW,[.tmp 2]⟩
def Qk:Rg:=[iA 2 (.box true (Tm 0)),iI 4 0]
def Ql:Rd:=[(iF 6 5 2,false),(iL 7 6,false),(iF 8 6 2,false),(iL 9 8,false),(iM 10 1,false),(iX 11 2 9 10,false),(iF 12 1 11,false),(iL 13 12,false),(iX 14 17 7 13,false),(iO 15 17 14,false),(iA 5 (.alloc [(.str []),zI,zI,zI,zI,zI,zI,zI,zI,.aB,.aB,zB,.aB,.aB,zB,.aB,.aB]),true),(iS 17 5 15,true)]
def Qm:Rg:=[iF 16 1 5,iL 17 16,iF 18 2 5,iL 19 18,iB 20 .add 17 19,iM 4 20]
def MC:aC:=(sq Qk (dq Ql (sq Qm .ret)))
def azB:List Nat:=[2]
def akG:aW:=⟨2,21,MC,[.tmp 4]⟩
def Qo:Rg:=[iA 2 (.box true (Tm 0)),iZ 4]
def Qp:Rg:=[iO 7 7 2,iK 8 161 7,iA 9 (.un .not (Tm 8))]
def Qq:Rg:=[iZ 4]
def Qr:Rg:=[iF 10 4 2,iL 11 10,iN 12 11,iA 13 (.aSD 1 8 [zI] (Tm 12) (Tm 12)),iM 5 13]
def Qs:Rg:=[iM 14 5,iN 15 14,iI 16 0]
def Qt:Rg:=[iB 17 .lss 16 15]
def Qu:Rg:=[iM 18 16,iM 6 18]
def Qv:Rd:=[(iM 19 5,false),(iM 20 6,false),(iF 21 2 2,false),(iL 22 21,false),(iF 23 4 2,false),(iL 24 23,false),(iM 25 6,false),(iX 26 3 24 25,false),(iF 27 1 26,false),(iL 28 27,false),(iX 29 4 22 28,false),(iF 30 1 29,false),(iL 31 30,false),(iX 32 1 19 20,false),(iS 1 32 31,true)]
def Qw:Rg:=[iM 33 1,iN 34 33,iM 35 5,iN 36 35,iB 37 .eql 34 36]
def Qx:Rd:=[(iM 38 5,false),(iM 39 6,false),(iM 40 1,false),(iM 41 6,false),(iX 42 1 40 41,false),(iL 43 42,false),(iA 44 (.aSQ true (Tm 43) (Ci 0)),false),(iM 45 5,false),(iM 46 6,false),(iX 47 1 45 46,false),(iL 48 47,false),(iA 49 (.aSQ false (Tm 44) (Tm 48)),false),(iX 50 1 38 39,false),(iS 1 50 49,true)]
def ST:Rg:=[iC 51 .add 16 1,iM 16 51]
def A9:aC:=(sq Qt (.seq (.cond (Tm 17) .skip (.exit 0)) (.seq (.block 1 (sq Qu (dq Qv (sq Qw (.cond (Tm 37) (.draw Qx) .skip))))) (.region ST))))
def Ba:Rg:=[iM 52 5,iM 4 52]
def MD:aC:=(sq Qo (.seq (sq Qp (.cond (Tm 9) (sq Qq .ret) .skip)) (sq Qr (.seq (sq Qs (.block 0 (.loop A9))) (sq Ba .ret)))))
def azF:List Nat:=[2]
def akH:aW:=⟨2,53,MD,[.tmp 4]⟩
theorem aqZ {C:Ctx} (h:∀ f:aD,f.Ok→aG C 96 [.agg f.cells] .nil (aI (.int .i64 (xZ f)))) (f:aD) (e:f.Ok) :
  EW.wp C (aR Qy.res (cB (.bool (dA f)))) (PF.args [.agg f.cells]) .nil:=by
 simp only[go_sem,EW,Bb,Bc,Qy];refine aA (h f e) Ev ?_;simp only[go_sem];refine bB Ev ?_;unfold xZ;cases dA f<;>rfl
theorem oO {f:aD} {d:Nat} (h:d<f.aRU.length):(f.aRU.map dQ.cells)[d]?=some (f.aRU[d]).cells:=by simp[h]
theorem lW {f:aD} {d:Nat} (h:d<f.aRX.length):(f.aRX.map cN.cells)[d]?=some (f.aRX[d]).cells:=by simp[h]
theorem uT {f:aD} {d:Nat} (h:d<f.aRW.length):(f.aRW.map fE.cells)[d]?=some (f.aRW[d]).cells:=by simp[h]
theorem pI {f:aD} {d:Nat} (h:d<f.aRY.length):(f.aRY.map dD.cells)[d]?=some (f.aRY[d]).cells:=by simp[h]
theorem yf {f:aD} {d:Nat} (h:d<f.aRV.length):(f.aRV.map cZ.cells)[d]?=some (f.aRV[d]).cells:=by simp[h]
theorem K8 {f:aD} {d:Nat} (h:d<f.aRX.length):(f.aRX[d]).level=lvl f d:=by rw[lvl,getD_at h]
theorem Ol {f:aD} {d:Nat} (h:d<f.aRX.length):(f.aRX[d]).parent=par f d:=by rw[par,getD_at h]
theorem VF.ta {f:aD} (h:VF f) {d:Nat} (e:d<f.aRU.length):(f.aRU[d]).machine=((eU f d:Nat):Int):=by
 have:=(h.drive d e).2.2.1;rw[eU,getD_at e]; omega
theorem VF.QP {f:aD} (h:VF f) {d:Nat} (e:d<f.aRU.length):(f.aRU[d]).model=((mdl f d:Nat):Int):=by
 have:=(h.drive d e).1;rw[mdl,getD_at e]; omega
theorem VF.SB {f:aD} (h:VF f) {v:Nat} (e:v<f.aRW.length):(f.aRW[v]).aSH=((xX f v:Nat):Int):=by
 have:=(h.volume v e).1;rw[xX,getD_at e]; omega
theorem VF.uq {f:aD} (h:VF f) {i:Nat} (e:0<i) (hi:i<f.aRX.length):par f i=((gX f i:Nat):Int):=by
 have:=(h.dom i e hi).1;rw[gX]; omega
theorem nL {f:aD} (h:VF f) {v:Nat} (j:v<f.aRW.length):∃ e:xX f v<f.aRY.length,f.aRY[xX f v]=bZ f v:=by
 have e:=(h.volume v j).2;exact⟨e,by simp[bZ,aTR,e]⟩
theorem azA {C:Ctx} (f:aD) (j:VF f) (v:Nat) (h:v<f.aRW.length) :
  MC.wp C (aR akG.res (cB (.int .i64 (mR f v)))) (PF.args [.agg f.cells,.int .i64 v]) .nil:=by
 obtain⟨l,he⟩:=nL j h;have e:=j.aSH _ (aTN l);rw[he] at e;have u:IntKind.i64.wrap ((bZ f v).k+(bZ f v).m)=(bZ f v).k+(bZ f v).m:=wrap_i64 Om Om;simp only[go_sem,MC,Qk,akG];refine bC .nil cX a_ ?_;simp only[go_sem,Ql,uT h,j.SB h,pI l,he];refine aO fun o w=>?_;simp only[go_sem,Qm,u];refine⟨a_,?_⟩;exact nM (n:=(bZ f v).k+(bZ f v).m) Ev rfl
structure aBI (C:Ctx):Prop where
 valid:∀ f:aD,f.Ok→aG C 161 [.agg f.cells] .nil (aI (.bool (dA f)))
 Hb:∀ (f:aD) (v:Nat),VF f→v<f.aRW.length→aG C 156 [.agg f.cells,.int .i64 v] .nil (aI (.int .i64 (mR f v)))
def pick (n:Nat) (p:Nat→Bool):List Int:=((aTI n).filter p).map fun (i:Nat)=>(i:Int)
theorem aiB (l:List Int) (x:Int):cQ l++[[.int .i64 x]]=cQ (l++[x]):=by unfold cQ; rw[aUX]; rfl
theorem hY (l:List Int):(cQ l).length=l.length:=by unfold cQ; rw[aTJ]
theorem uw {t:Nat} {H:PH} {v:PV} {l:List Int} {F:PF} (h:cA H 1 v (cQ l)) (e:F t=some v):aR [.tmp t] (cB (ints l)) .ret F H:=LJ (.inr rfl) h e
theorem Pn {t:Nat} {H:PH} {F:PF} (e:F t=some .aB):aR [.tmp t] (cB (ints [])) .ret F H:=LJ (rows:=[]) (.inr rfl) .nil e
section
variable (o s:Nat) (rs:List (List PV))
@[go_sem] theorem aPD (k:IntKind) (n:Int):PV.frz o s rs (.int k n)=.int k n:=(rfl)
@[go_sem] theorem aNM (b:Bool):PV.frz o s rs (.bool b)=.bool b:=(rfl)
@[go_sem] theorem aPH (l:List UInt8):PV.frz o s rs (.str l)=.str l:=(rfl)
@[go_sem] theorem aNN:PV.frz o s rs .aB=.aB:=(rfl)
@[go_sem] theorem aQE (n:Nat) (r:List (List PV)):PV.frz o s rs (.sl n r)=.sl n r:=(rfl)
@[go_sem] theorem aNO (c:List PV):PV.frz o s rs (.bN c)=.bN c:=(rfl)
@[go_sem] theorem aPG (q z i c:Nat):PV.frz o s rs (.ptr q z i c)=.ptr q z i c:=(rfl)
@[go_sem] theorem aQD (n:Nat) (c:List PV):PV.frz o s rs (.fn n c)=.fn n c:=(rfl)
@[go_sem] theorem aPE (q:Nat):PV.frz o s rs (.map q)=.map q:=(rfl)
@[go_sem] theorem aPF (q z e len:Nat):PV.frz o s rs (.osl q z e len)=if q=o then (if z=s∧e+len≤rs.length then .sl s ((rs.drop e).take len) else .junk) else .osl q z e len:=(rfl)
end
def nO (s:Nat) (rows:List (List PV)) (r:PV) (H:PH):Prop :=
 (rows=[]∧r=.aB∧H=PH.nil)∨∃ q rs,r=.osl q s 0 rows.length∧H=PH.nil.set q (.rows s rs)∧rows.length≤rs.length∧rs.take rows.length=rows
theorem sg (q s:Nat) (rs:List (List PV)):(PH.nil.set q (.rows s rs)).frz q s rs=PH.nil:=PH.ext fun o=>by
 rw[zY];by_cases e:o=q
 ·rw[if_pos e]; rfl
 ·rw[if_neg e,aT,if_neg e]; rfl
section
variable {C:Ctx} {K:cE} {F:PF} {H:PH} {s:Nat} {v:PV} {rows:List (List PV)}
theorem nO.over {r:PV} {H':PH} (h:nO s rows r H') (u:lS H .nil H'):cA (H.over .nil H') s r rows∧∀ o x,H o=some x→(H.over .nil H') o=some x:=by
 rcases h with ⟨e,l,rfl⟩ | ⟨q,rs,e,rfl,h3,h4⟩
 ·rw[PH.nJ]; exact⟨.inl ⟨e,l⟩,fun o x h=>h⟩
 ·rw[PH.qG];have hq:H q=none:=u q (.rows s rs) (by simp only[aT,if_true]) rfl;refine⟨.inr ⟨q,rs,e,by simp only[aT,if_true],h3,h4⟩,fun o x j=>?_⟩;have:o≠q:=by rintro rfl; rw[hq] at j; cases j
  simp only[aT,if_neg this,j]
theorem LH {t:Nat} {e:kT} (he:e=.normal∨e=.ret) (h:cA H s v rows) (j:F t=some v):aR [.tmp t] (nO s rows) e F H:=by
 rcases h with ⟨rfl,rfl⟩ | ⟨q,rs,rfl,h1,h2,h3⟩
 ·exact aV (vs:=[.aB]) he .nil (by rw[lK,oI,j,pK]) a_ (.inl ⟨rfl,rfl,rfl⟩)
 ·exact aV (vs:=[.osl q s 0 rows.length]) he (PH.nil.set q (.rows s rs)) (by rw[lK,oI,j,pK]) (e_ a_ h1) (.inr ⟨q,rs,rfl,rfl,h2,h3⟩)
theorem HD {t:Nat} {e:kT} (he:e=.normal∨e=.ret) (j:F t=some .aB):aR [.tmp t] (nO s []) e F H:=LH he .nil j
theorem aqH {t:Nat} {e:kT} {r:PV} {H':PH} (he:e=.normal∨e=.ret) (h:nO s rows r H') (l:F t=some r):aR [.tmp t] (nO s rows) e F (H.over .nil H'):=by
 refine aV (vs:=[r]) he H' (by rw[lK,oI,l,pK]) (fun o x j=>?_) h;rw[pH,j]
theorem aG.freeze {name:Nat} {args:List PV} (h:aG C name args H (nO s rows)):aG C name args H (aI (.sl s rows)) :=
 ⟨h.1,fun E w vs J hW x=>(h.2 E w vs J hW x).mono fun e R he=>by
  obtain⟨u,pv,B,H',rfl,j,A,y,M⟩:=he;rcases M with ⟨rfl,rfl,rfl⟩ | ⟨q,rs,rfl,rfl,h3,h4⟩
  ·exact⟨u,_,B,_,rfl,j,(Co.nil s).sound A,y,rfl,rfl⟩
  ·have N:jE (PF.nil.set 0 (.osl q s 0 rows.length)) (PH.nil.set q (.rows s rs)) _ _:=.step q (s:=s) (rs:=rs) (by simp only[aT,if_true]) (.refl _ _);obtain⟨I,k1,k2,O⟩:=N.sound j;have l:=O (fun _=>u) (fun i p hi=>by
    rw[mQ] at hi;split at hi
    ·cases hi; exact A
    ·cases hi) 0 (.sl s rows) (by rw[oF,mQ,if_pos rfl,aUO,vK h3,h4])
   rw[sg] at k1 k2;exact⟨u,_,I,_,rfl,k1,l,y.trans k2,rfl,rfl⟩⟩
theorem eX.of:∀ {E:Env} (ps:List PV) (vs:List Value),vs.length=ps.length→(∀ (i:Nat) p v,ps[i]?=some p→vs[i]?=some v→aX E p v)→eX E ps vs
 | _,[],[],_,_=>.nil
 | _,[],_::_,h,_=>by simp at h
 | _,_::_,[],h,_=>by simp at h
 | _,p::ps,v::vs,h,k=>.cons (k 0 p v rfl rfl) (eX.of ps vs (by simpa using h) fun i q u a b=>k (i+1) q u (by simpa using a) (by simpa using b))
theorem bR.same {E:Env} {w y:World} (hW:bR E H w) (J:w.heap.size≤y.heap.size) (hb:∀ b,b<w.heap.size→H b=none→y.heap[b]?=w.heap[b]?) (I:∀ o x,H o=some x→y.heap[o]?=w.heap[o]?):bR E H y:=by
 have l:∀ b,b<w.heap.size→y.heap[b]?=w.heap[b]?:=fun b hlt=>by
  cases e:H b with
  | none=>exact hb b hlt e
  | some x=>exact I b x e
 refine⟨fun b cs h=>?_,fun o x h=>?_,fun o n h=>?_⟩
 ·obtain⟨j,ty,B,u⟩:=hW.g b cs h;exact⟨j,ty,B,(l b (aXH.1 u).1).trans u⟩
 ·obtain⟨j,u⟩:=hW.h o x h;exact⟨Nat.lt_of_lt_of_le j J,u.mono (.refl E) (l o j)⟩
 ·obtain⟨A,ty,B,j,u⟩:=hW.s o n h;exact⟨A,ty,B,(l o (aXH.1 j).1).trans j,u⟩
inductive Plain:PV→Prop
 | int (k:IntKind) (n:Int):Plain (.int k n)
 | bool (b:Bool):Plain (.bool b)
 | str (l:List UInt8):Plain (.str l)
theorem Plain.rep {v:PV} (h:Plain v) {E e:Env} {u:Value} (r:aX E v u):aX e v u:=by
 cases h<;>cases r
 ·exact .int _ _
 ·exact .bool _
 ·exact .str _
theorem aG.aJH {name o:Nat} {rs:List (List PV)} {args:List PV} (X:Plain v) (h:aG C name (args.map (PV.frz o s rs)) .nil (aI v)) :
  aG C name args (PH.nil.set o (.rows s rs)) (fun r H'=>r=v∧H'=PH.nil.set o (.rows s rs)):=by
 refine⟨h.1,fun E w vs O hW I=>?_⟩;have Y:jE (PF.args args) (PH.nil.set o (.rows s rs)) _ _:=.step o (s:=s) (rs:=rs) (by simp only[aT,if_true]) (.refl _ _);obtain⟨M,k1,k2,Z⟩:=Y.sound hW;rw[sg] at k1 k2;have B:=I.len;have J:eX M (args.map (PV.frz o s rs)) vs.toList:=by
  refine eX.of _ _ (by rw[aTJ]; exact B) fun i p u U W=>?_;have:=Z (fun i=>(vs.toList[i]?).getD undef) (fun j q N=>by have S:=(aUN.1 N).1;have A:j<vs.toList.length:=Om;simp only[aTP A,aWE];exact I.at_ j q _ N (aTP A)) i p (by rw[oF,args_at,← aUG]; exact U)
  simp only[W,aWE] at this;exact this
 refine (h.2 M w vs (k2.env.num.trans O) k1 J).mono fun e w' he=>?_;obtain⟨u,pv,E2,H2,rfl,R,V,y,rfl,rfl⟩:=he;have l:∀ b,b<w.heap.size→w'.heap[b]?=w.heap[b]?:=fun b hb=>y.block b hb rfl;refine⟨u,pv,E,_,rfl,hW.same y.size (fun b hb _=>l b hb) (fun q x hq=>l q (hW.h q x hq).1),X.rep V,⟨.refl E,y.os,y.tape,y.output,y.size,fun b hb _=>l b hb,fun q x hq=>.inl ⟨x,hq⟩,fun b cs hb=>.inl hb⟩,rfl,rfl⟩
theorem Uy {name o:Nat} {rs:List (List PV)} {args:List aN} {vs:List PV} {d:Option Nat} {K:PF→PH→Prop} (u:Plain v) (h:aG C name (vs.map (PV.frz o s rs)) .nil (aI v)) (e:H o=some (.rows s rs)) (j:aN.evs F args=some vs)
  (l:K (F.put d v) H):hC C name args [] d K F H:=by
 refine eO (h.aJH u) j (e_ a_ e) ?_;rintro r H' ⟨rfl,rfl⟩ -;rw[PH.over_self _ (e_ a_ e)];exact l
theorem atO {Hs:PH} {S:Spec} {name o:Nat} {rs:List (List PV)} {vs:List PV} {R:PH→PV→PH→Prop} {args:List aN} {st:Bool} {d:Option Nat} {K:PF→PH→Prop} (u:S name vs=some ([o],R)) (A:Plain v) (y:H o=some (.rows s rs))
  (h:aG C name (vs.map (PV.frz o s rs)) .nil (aI v)) (e:R (PH.nil.set o (.rows s rs)) v (PH.nil.set o (.rows s rs))) (j:∀ r H',R (PH.nil.set o (.rows s rs)) r H'→r=v∧H'=PH.nil.set o (.rows s rs)) (w:aN.evs F args=some vs) (l:Hs.le H) (x:K (F.put d v) H) :
  dOp C Hs S st (.call name args) d K F H:=HV u y (h.aJH A) e j w l x
theorem Dv {name t:Nat} {R:PV→PH→Prop} {d:Option Nat} {K:PF→PH→Prop} (h:aG C name [.sl s rows] .nil R) (x:cA H s v rows) (w:F t=some v)
  (l:∀ (e:PF) (j:PH),(∀ i u,F i=some u→Pure u→e i=some u)→∀ r H',R r H'→lS j .nil H'→K (e.put d r) (j.over .nil H')):hC C name [.tmp t] [] d K F H:=by
 rcases x with ⟨rfl,rfl⟩ | ⟨q,rs,rfl,h1,h2,h3⟩
 ·exact .inl ⟨[.aB],.nil,R,by rw[AR,io,w,UD]; rfl,a_,h.ajW (.inl ⟨rfl,rfl⟩),l F H fun i u hi _=>hi⟩
 ·refine .inr ⟨_,_,.step q h1 (.refl _ _),[.sl s rows],.nil,R,?_,a_,h,l _ _ fun i u hi y=>?_⟩
  ·simp only[AR,UD,io,oF,w,aUO,vK h2,h3,aVC]
  ·rw[oF,hi,aUO,y q s rs]
end
def oE (A:List Int) (k:Nat):List Int:=A.take k++aTK (A.length-k) 0
theorem Ua (A:List Int):oE A 0=aTK A.length 0:=by simp[oE]
theorem agQ (A:List Int):oE A A.length=A:=by simp[oE]
theorem Dj (A:List Int) {k:Nat} (h:k≤A.length):(oE A k).length=A.length:=by simp[oE]; omega
theorem agR (A:List Int) {k:Nat} (h:k<A.length):(oE A k).set k A[k]=oE A (k+1):=by
 unfold oE;rw[aWZ _ _ (by simp; omega),aUA,aVT Om,Nat.sub_self,show A.length-k=(A.length-(k+1))+1 by omega,List.replicate_succ,List.set_cons_zero,
  aVS h,aUP]
 rfl
theorem CK (l:List Int) (i:Nat) (x:Int):(cQ l).set i [.int .i64 x]=cQ (l.set i x):=by unfold cQ; rw[List.map_set]
theorem Uf (n:Nat):aTK n [PV.int .i64 0]=cQ (aTK n 0):=by simp[cQ]
theorem JG {l:List Int} {i:Nat} (h:i<l.length):(cQ l)[i]?=some [.int .i64 l[i]]:=by simp[cQ,h]
def mP (f:aD) (room:List Int) (d:Nat):Int:=if room.length=f.aRU.length then min (max (room.getD d 0) 0) (ext f d) else ext f d
def kM (f:aD) (room:List Int):List Int:=(aTI f.aRU.length).map (mP f room)
def CV (f:aD) (room:List Int):List Int:=if dA f then kM f room else []
theorem oP (f:aD) (room:List Int):(kM f room).length=f.aRU.length:=by simp[kM]
theorem LL (f:aD) (room:List Int) {d:Nat} (h:d<(kM f room).length):(kM f room)[d]=mP f room d:=by simp[kM]
theorem VF.Ft {f:aD} (h:VF f) {d:Nat} (j:d<f.aRU.length):∃ e:mdl f d<f.aRV.length,(f.aRV[mdl f d]).aSL=ext f d:=by
 have e:=(h.drive d j).2.1;exact⟨e,by rw[ext,getD_at e]⟩
def trF (f:aD) (room:List Int) (o k:Nat):PF:=(((((PF.nil.set 1 (ints room)).set 2 (.bN f.cells)).set 5 (.osl o 1 0 f.aRU.length)).set 15 (.int .i64 (f.aRU.length:Nat))).set 16 (.int .i64 k))
theorem Y0 (a b:Int):(if b<a then b else a)=min a b:=by
 rw[Int.min_def];by_cases h:b<a
 ·rw[if_pos h,if_neg Om]
 ·rw[if_neg h,if_pos Om]
theorem azE {C:Ctx} (L:aBI C) (f:aD) (N:f.Ok) (room:List Int) :
  MD.wp C (aR akH.res (nO 1 (cQ (CV f room)))) (PF.args [.agg f.cells,ints room]) .nil:=by
 simp only[go_sem,MD,Qo,Qp,akH];refine aA (L.valid f N) Ev ?_;unfold CV;cases S:dA f with
 | false =>simp only[go_sem,aTZ,Qq];exact HD (.inr rfl) Ev
 | true =>
  have hV:=VF.of S;have M:=hV.small.aRU;have F:(f.aRU.length:Int)*((8:Nat):Int)≤140737488355328:=Om;have I:(f.aRU.length:Int)≤9223372036854775807:=Om;simp only[go_sem,aTV,Qr,aTJ,F,I];refine aO fun o X=>?_;simp only[go_sem,Qs];have u:=oP f room;have E:=fun d h=>LL f room (d:=d) h;generalize V:kM f room=A at *
  refine wp_loop (α:=Nat) (fun k=>trF f room o k) (fun k=>PH.nil.set o (.rows 1 (cQ (oE A k)))) (fun k=>k≤f.aRU.length) (fun k=>f.aRU.length-k) 0 (aTQ _) ?_ ?_ ?_
  ·unfold trF;exact Lq
  ·refine e_ a_ ?_;simp only[go_sem];rw[Ua,u,Uf]
  intro k W;simp only[go_sem,A9,Qt,trF];by_cases hlt:k<f.aRU.length
  ·have e:(k:Int)<(f.aRU.length:Nat):=Om;obtain⟨R,he⟩:=hV.Ft hlt;have O:=Dj A (k:=k) Om;have w:k<A.length:=Om;have U:=JG (l:=oE A k) (i:=k) Om;have j:=agR A w;rw[E k w] at j;simp only[go_sem,e,Qu];refine bC .nil cX a_ ?_;simp only[go_sem,Qv,oO hlt,hV.QP hlt,yf R,he,e,aUF,U];refine⟨a_,?_⟩;simp only[go_sem,Qw,aTJ];by_cases c:room.length=f.aRU.length
   ·have y:((room.length:Int)==(f.aRU.length:Int))=true:=bP Om;have x:k<room.length:=Om;have J:(room.map fun n=>[PV.int .i64 n])[k]?=some [.int .i64 room[k]]:=by simp[x]
    simp only[go_sem,y];refine bC .nil cX a_ ?_;have K:(cQ ((oE A k).set k (ext f k)))[k]?=some [.int .i64 (ext f k)]:=by rw[← CK,List.getElem?_set_self (by rw[hY]; omega)]
    simp only[go_sem,Qx,J,e,aUF,K,max_eq,Y0,List.set_set,CK];refine⟨a_,?_⟩;simp only[go_sem,ST,wZz k];refine aH (k+1) hlt Om ?_ ?_
    ·exact Lq
    ·refine e_ a_ ?_;rw[← j,mP,if_pos c,aTR,aTP x,aWE];simp only[go_sem]
   ·have y:((room.length:Int)==(f.aRU.length:Int))=false:=bE Om;simp only[go_sem,y,ST,wZz k,CK];refine aH (k+1) hlt Om ?_ ?_
    ·exact Lq
    ·refine e_ a_ ?_;rw[← j,mP,if_neg c];simp only[go_sem]
  ·have e:¬ (k:Int)<(f.aRU.length:Nat):=Om;have:k=f.aRU.length:=Om;subst this;simp only[go_sem,e,Ba];have B:oE A f.aRU.length=A:=by rw[← u,agQ]
   rw[B];exact LH (.inr rfl) (v:=.osl o 1 0 f.aRU.length) (.inr ⟨o,cQ A,by rw[hY,u],by simp only[go_sem],aTO _,aUB (aTO _)⟩) Sq
def Fc (n:Nat) (xs:List Int):List Int:=(aTI n).map fun (d:Nat)=>((xs.count (d:Int):Nat):Int)
def K3 (f:aD) (l:List (List Int)):List Int:=Fc f.aRU.length l.flatten
structure aLF (l:List (List Int)):Prop where
 rows:l.length≤16777216
 all:l.flatten.length≤16777216
theorem amX (l:List (List Int)) {i:Nat} (h:i<l.length):(l.take (i+1)).flatten=(l.take i).flatten++l[i]:=by
 rw[aVS h,List.flatten_append];simp only[List.flatten_cons,List.flatten_nil,aVC]
structure HN where
 kind:Int
 vol:Int
 wher:Int
abbrev HN.cells (x:HN):List PV:=[.int .i64 x.kind,.int .i64 x.vol,.int .i64 x.wher]
def ID (p:Int→Bool):List Int→Nat→Option Nat
 | [],_=>none
 | x::t,i=>if p x then some i else ID p t (i+1)
def aIU (f:aD) (d:Int):Bool:=decide (d < -1)||decide (d≥(f.aRU.length:Nat))
def P2 (f:aD) (l:List (List Int)) (v:Nat):Option HN :=
 if ((l.getD v []).length:Int)=mR f v then (ID (aIU f) (l.getD v []) 0).map fun (i:Nat)=>⟨1,v,i⟩ else some ⟨1,v,((l.getD v []).length:Nat)⟩
section
variable {C:Ctx} {F:PF} {H:PH}
theorem cA.ne {s s':Nat} {v:PV} {rows:List (List PV)} {o:Nat} {y:List (List PV)} (h:cA H s v rows) (w:H o=some (.rows s' y)) (x:s≠s'):∀ l,v≠.osl o s 0 l:=by
 intro l e;rcases h with ⟨_,j⟩ | ⟨q,rs,h1,j,_⟩
 ·rw[j] at e; cases e
 ·rw[h1] at e;injection e with u
  subst u;rw[w] at j;injection j with j
  injection j with j
  exact x j.symm
theorem cA.set {s s':Nat} {v:PV} {rows:List (List PV)} {o:Nat} {y:List (List PV)} {x:bO} (h:cA H s v rows) (u:H o=some (.rows s' y)) (w:s≠s'):cA (H.set o x) s v rows:=by
 have l:=h.ne u w;rcases h with ⟨e,j⟩ | ⟨q,rs,e,j,h3,h4⟩
 ·exact .inl ⟨e,j⟩
 ·refine .inr ⟨q,rs,e,?_,h3,h4⟩;have:q≠o:=by rintro rfl; exact l _ e
  simp only[aT,if_neg this,j]
def Dis (s:Nat) (v u:PV):Prop:=∀ q l e j,v=.osl q s 0 l→u=.osl e s 0 j→q≠e
theorem Dis.nil {s:Nat}:Dis s .aB .aB:=fun _ _ _ _ h=>by cases h
theorem Dis.symm {s:Nat} {v u:PV} (h:Dis s v u):Dis s u v:=fun q l x w e j=>(h x w q l j e).symm
end
def wE (kind v:Int) (n:Nat) (p:Nat→Bool):List HN:=((aTI n).filter p).map fun (i:Nat)=>⟨kind,v,i⟩
def JE (f:aD) (i:Nat) (d:Int):Bool:=decide (0≤d)&&decide (jX f d.toNat (lvl f i)=i)
def rz (f:aD) (xs:List Int) (i:Nat):Int:=if i=0 then 0 else ((xs.countP (JE f i):Nat):Int)
def agL (f:aD) (xs:List Int):List Int:=(aTI f.aRX.length).map (rz f xs)
theorem VF.xt {f:aD} (h:VF f) {i:Nat} (hi:i<f.aRX.length):0≤lvl f i∧lvl f i≤4∧(lvl f i=0↔i=0):=by
 rcases aVP i with e | e
 ·subst e; rw[h.root.2.1]; simp
 ·have:=h.dom i e hi;omega
structure Obs where
 o5:Nat
 o7:Nat
 o8:Nat
 oD:Nat
 oB:Nat
structure Obs.Ne (o:Obs):Prop where
 a1:o.o5≠o.oD
 a2:o.o5≠o.oB
 a3:o.o7≠o.oD
 a4:o.o7≠o.oB
 a5:o.o8≠o.oD
 a6:o.o8≠o.oB
 a7:o.oD≠o.oB
structure asY (H:PH) (o:Obs) (v:Nat) (p:dD) (A:List Bool) (D B:List Int):Prop where
 h5:H o.o5=some (.rows 1 [[.int .i64 v]])
 h7:H o.o7=some (.rows 17 [p.cells])
 h8:H o.o8=some (.rows 1 (bK A))
 hD:H o.oD=some (.rows 1 (cQ D))
 hB:H o.oB=some (.rows 1 (cQ B))
theorem asY.keep {H H':PH} {o:Obs} {v:Nat} {p:dD} {A:List Bool} {D B:List Int} (h:asY H o v p A D B) (e:∀ q s' z,3≠s'→H q=some (.rows s' z)→H' q=some (.rows s' z)):asY H' o v p A D B :=
 ⟨e _ _ _ (by decide) h.h5,e _ _ _ (by decide) h.h7,e _ _ _ (by decide) h.h8,e _ _ _ (by decide) h.hD,e _ _ _ (by decide) h.hB⟩
def home (row:List Int) (i:Nat):Bool:=decide (row.getD i 0<0)
def me (f:aD) (p:dD) (row:List Int) (i:Nat):Bool:=decide (0≤row.getD i 0)&&!p.aRV.contains ((mdl f (row.getD i 0).toNat:Nat):Int)
def aBT (f:aD) (row:List Int) (d:Nat):Bool:=decide ((Fc f.aRU.length row).getD d 0>1)
def fD (f:aD) (p:dD) (i:Nat):Int:=p.spread (lvl f i).toNat
def aBM (f:aD) (p:dD) (row:List Int) (i:Nat):Bool:=decide (fD f p i>0)&&decide ((agL f row).getD i 0>fD f p i)
def TM (f:aD) (p:dD) (v:Nat) (row:List Int):List HN :=
 wE 2 v row.length (home row)++wE 3 v f.aRU.length (aBT f row)++wE 4 v row.length (me f p row)++wE 5 v f.aRX.length (aBM f p row)
theorem Fa (n:Nat):aTK n [PV.bool false]=bK (marks n []):=by rw[xx]; simp[bK]
def axT (f:aD) (l:List (List Int)) (v:Nat):List HN:=match P2 f l v with
 | some x=>[x]
 | none=>TM f (bZ f v) v (l.getD v [])
def agS (f:aD) (l:List (List Int)) (n:Nat):List HN:=(aTI n).flatMap (axT f l)
def over (f:aD) (l:List (List Int)) (room:List Int) (d:Nat):Bool:=decide ((K3 f l).getD d 0>(kM f room).getD d 0)
def aBU (f:aD) (l:List (List Int)) (room:List Int):List HN:=agS f l l.length++wE 6 (-1) f.aRU.length (over f l room)
def akZ (f:aD) (l:List (List Int)) (room:List Int):List HN :=
 if dA f then (if l.length=f.aRW.length then aBU f l room else [⟨1,-1,(l.length:Nat)⟩]) else []
def xF (f:aD) (l:List (List Int)) (room:List Int):Bool:=dA f&&decide ((akZ f l room).length=0)
def Y8:Rg:=[iA 2 (.mv (.const (.lit (.pointer none))))]
def Y9:Rg:=[iM 3 0,iN 4 3,iC 5 .gtr 4 400]
def Za:Rg:=[iM 6 0,iA 7 (.slice 1 (Tm 6) none (some (Ci 400)) none),iM 0 7]
def th:Rg:=[iM 8 0,iA 9 (.append 1 1 (.const .aB) (Tm 8)),iA 10 (.build [.aB,zI] [(0,1,(Tm 9))]),iA 11 (.box false (Tm 10)),iM 2 11]
def QU:aC:=(sq Y8 (.seq (sq Y9 (.cond (Tm 5) (.region Za) .skip)) (sq th .ret)))
def aEY:List Nat:=[]
def awT:aW:=⟨1,12,QU,[.tmp 2]⟩
def bw:Rg:=[iI 4 0]
def KG:Rd:=[(iM 5 0,false),(iA 6 (.aSI (Tm 5)),false),(iF 7 1 6,false),(iL 8 7,false),(iM 9 0,false),(iA 10 (.aSI (Tm 9)),false),(iF 11 0 10,false),(iL 12 11,false),(iN 13 12,false),(iB 14 .geq 8 13,false),(iM 15 14,false),(gM 16 1 15 false,false),(gC 17 .lss 16 2 15 false,false),(iQ 18 15 17,false)]
def bz:Rg:=[iI 4 0]
def Mp:Rg:=[iM 19 0,iA 20 (.aSI (Tm 19)),iF 21 1 20,iL 22 21,iC 23 .add 22 1,iA 24 (.aSI (Tm 19)),iF 25 1 24,iS 1 25 23]
def Mq:Rd:=[(iM 26 0,false),(iA 27 (.aSI (Tm 26)),false),(iF 28 0 27,false),(iL 29 28,false),(iM 30 0,false),(iA 31 (.aSI (Tm 30)),false),(iF 32 1 31,false),(iL 33 32,false),(iC 34 .sub 33 1,false),(iX 35 1 29 34,false),(iL 36 35,false),(iA 37 (.conv .i64 (Tm 36)),false),(iM 38 1,false),(iB 39 .rem 37 38,false),(iM 4 39,false)]
def yT:aC:=(sq bw (.seq (dq KG (.cond (Tm 18) (sq bz .ret) .skip)) (sq Mp (dq Mq .ret))))
def awV:List Nat:=[]
def D8:aW:=⟨2,40,yT,[.tmp 4]⟩
def Ly:Rg:=[iA 2 (.alloc [zB,.aB,.aB])]
def Lz:Rg:=[iM 6 0,iA 7 (.call 4 [(Tm 6),(Ci 6)]),iA 8 (.bin .add (Ci 1) (Tm 7)),iM 9 0,iA 10 (.call 4 [(Tm 9),(Ci 8)]),iA 11 (.bin .add (Ci 1) (Tm 10)),iK2 12 50 8 11,iM 5 12,iE 13 5 0,iE 14 5 1,iA 3 (.alloc [zB,.aB,.aB]),iS 3 3 13,iM 4 14]
def L3:Rg:=[iO 15 3 3,iS 3 2 15]
def KB:aC:=(sq Ly (sq Lz (sq L3 .ret)))
def awJ:List Nat:=[]
def aiJ:aW:=⟨1,16,KB,[.cell 2 (some 3)]⟩
def Y2:Rg:=[iA 4 (.alloc [(.str []),.aB,.aB,.aB])]
def Y3:Rg:=[iM 16 0,iM 17 1,iK2 18 4 16 17,iA 19 (.bin .add (Ci 1) (Tm 18)),iM 5 19]
def Y4:Rg:=[iA 6 (.alloc [(.str []),.aB,.aB,.aB])]
def Y5:Rg:=[iI 7 8]
def Y6:Rg:=[iI 8 0]
def Y7:Rg:=[iM 20 8,iM 21 5,iB 22 .lss 20 21]
def te:Rg:=[iM 25 7,iM 9 25]
def tf:Rg:=[iM 26 8,iC 27 .add 26 1,iM 28 5,iB 29 .lss 27 28]
def tg:Rg:=[iM 30 0,iM 31 7,iC 32 .add 31 1,iK2 33 4 30 32,iM 9 33]
def UR:Rg:=[iM 34 7,iM 35 9,iB 36 .sub 34 35,iM 7 36]
def bf:Rg:=[iM 38 9,iA 39 (.call 50 [(Tm 38),(Ci 8)]),iM 37 39,iE 40 37 0,iE 41 37 1,iA 10 (.alloc [zB,.aB,.aB]),iS 3 10 40,iM 11 41]
def bg:Rg:=[iF 42 1 6,iL 43 42,iO 44 3 10,iA 45 (.aSA true 3 1 [zB,.aB,.aB] [(0,(Tm 44))]),iA 46 (.append 3 56 (Tm 43) (Tm 45)),iF 47 1 6,iS 1 47 46]
def bi:Rg:=[iM 48 0,iK 49 1 48,iA 12 (.alloc [zB,.aB,.aB]),iS 3 12 49]
def bj:Rg:=[iM 50 8,iC 51 .add 50 1,iM 52 5,iB 53 .lss 51 52,iM 54 53,gM 55 0 54 true,iG 56 (.call 4 [(Tm 55),(Ci 3)]) 54 true,gC 57 .eql 56 0 54 true,iP 58 54 57]
def bk:Rg:=[iA 59 (.call 47 [(Ci 0)]),iS 3 12 59]
def KE:Rg:=[iF 60 3 6,iL 61 60,iO 62 3 12,iA 63 (.aSA true 3 1 [zB,.aB,.aB] [(0,(Tm 62))]),iA 64 (.append 3 56 (Tm 61) (Tm 63)),iF 65 3 6,iS 1 65 64]
def bn:Rg:=[iZ 13]
def bo:Rg:=[iI 14 0]
def Mi:Rg:=[iM 66 14,iM 67 5,iB 68 .lss 66 67]
def Mj:Rg:=[iA 71 (.call 47 [(Ci 0)]),iA 15 (.alloc [zB,.aB,.aB]),iS 3 15 71]
def Mk:Rg:=[iM 72 14,iM 73 8,iC 74 .add 73 1,iB 75 .eql 72 74,iM 76 75,gM 77 14 76 false,gM 78 8 76 false,gB 79 .neq 77 78 76 false,gM 80 79 76 false,gM 81 0 80 true,iG 82 (.call 4 [(Tm 81),(Ci 3)]) 80 true,gC 83 .eql 82 0 80 true,iG 84 (.pick (Tm 80) (Tm 83) (.const zB)) 76 false,iQ 85 76 84]
def br:Rg:=[iM 86 0,iK 87 1 86,iS 3 15 87]
def bs:Rg:=[iM 88 13,iO 89 3 15,iA 90 (.aSA true 3 1 [zB,.aB,.aB] [(0,(Tm 89))]),iA 91 (.append 3 56 (Tm 88) (Tm 90)),iM 13 91]
def bu:Rg:=[iM 69 14,iC 70 .add 69 1,iM 14 70]
def KD:aC:=(.seq (sq Mi (.cond (Tm 68) .skip (.exit 2))) (.seq (.block 3 (sq Mj (.seq (sq Mk (.cond (Tm 85) (.region br) .skip)) (.region bs)))) (.region bu)))
def bv:Rg:=[iF 92 2 6,iL 93 92,iM 94 13,iA 95 (.aSA true 1 1 [.aB] [(0,(Tm 94))]),iA 96 (.append 1 24 (Tm 93) (Tm 95)),iF 97 2 6,iS 1 97 96]
def Ml:Rg:=[iM 23 8,iC 24 .add 23 1,iM 8 24]
def Mh:aC:=(.seq (sq Y7 (.cond (Tm 22) .skip (.exit 0))) (.seq (.block 1 (sq te (.seq (sq tf (.cond (Tm 29) (.region tg) .skip)) (sq UR (sq bf (sq bg (sq bi (.seq (sq bj (.cond (Tm 58) (.region bk) .skip)) (sq KE (sq bn (.seq (sq bo (.block 2 (.loop KD))) (.region bv)))))))))))) (.region Ml)))
def Mm:Rg:=[iO 98 4 6,iS 4 4 98]
def QT:aC:=(sq Y2 (sq Y3 (sq Y4 (sq Y5 (.seq (sq Y6 (.block 0 (.loop Mh))) (sq Mm .ret))))))
def aEW:List Nat:=[45,63,90,95]
def awP:aW:=⟨2,99,QT,[.cell 4 (some 4)]⟩
def Zc:Rg:=[iZ 4]
def Zd:Rg:=[iZ 5]
def Ze:Rg:=[iI 6 0]
def Zf:Rg:=[iM 7 6,iM 8 1,iA 9 (.aSQ true (Tm 8) (Ci 1)),iB 10 .lss 7 9]
def Zg:Rg:=[iM 13 5,iM 14 0,iK 15 1 14,iA 16 (.aSA true 3 1 [zB,.aB,.aB] [(0,(Tm 15))]),iA 17 (.append 3 56 (Tm 13) (Tm 16)),iM 5 17]
def Zh:Rg:=[iM 11 6,iC 12 .add 11 1,iM 6 12]
def Zb:aC:=(.seq (sq Zf (.cond (Tm 10) .skip (.exit 0))) (.seq (.block 1 (.region Zg)) (.region Zh)))
def Zi:Rg:=[iM 18 5,iM 4 18]
def QV:aC:=(sq Zc (sq Zd (.seq (sq Ze (.block 0 (.loop Zb))) (sq Zi .ret))))
def aFA:List Nat:=[16]
def awY:aW:=⟨2,19,QV,[.tmp 4]⟩
def Mn:Rg:=[iA 4 (.mv (.const (.str [])))]
def Mo:Rg:=[iM 5 0,iM 6 1,iK 7 195 6,iB 8 .add 5 7,iM 4 8]
def KF:aC:=(sq Mn (sq Mo .ret))
def awS:List Nat:=[]
def aiM:aW:=⟨2,9,KF,[.tmp 4]⟩
def L6:Rg:=[iM 12 1,iA 13 (.aSI (Tm 12)),iF 14 3 13,iL 15 14,iM 16 2,iX 17 7 15 16,iF 18 1 17,iL 19 18,iC 20 .add 19 1,iM 8 20]
def L7:Rg:=[iM 21 0,iA 22 (.call 4 [(Tm 21),(Ci 2)]),iA 23 (.bin .add (Ci 1) (Tm 22)),iM 9 23]
def L8:Rg:=[iM 24 8,iC 25 .eql 24 2]
def L9:Rg:=[iI 9 1]
def KC:Rg:=[iI 10 0]
def bc:Rg:=[iM 26 10,iM 27 9,iB 28 .lss 26 27]
def bd:Rg:=[iM 31 8,iC 32 .eql 31 5]
def Ma:Rg:=[iM 33 1,iA 34 (.aSI (Tm 33)),iF 35 4 34,iL 36 35,iN 37 36,iM 38 3,iB 39 .lss 37 38]
def Mb:Rd:=[(iM 40 1,true),(iM 41 1,true),(iA 42 (.aSI (Tm 41)),true),(iF 43 4 42,true),(iL 44 43,true),(iM 45 1,false),(iA 46 (.aSI (Tm 45)),false),(iF 47 4 46,false),(iL 48 47,false),(iN 49 48,false),(iA 50 (.call 29 [(.const (.str [100])),(Tm 49)]),true),(iM 51 0,true),(iM 52 1,true),(iA 53 (.aSI (Tm 52)),true),(iF 54 2 53,true),(iL 55 54,true),(iN 56 55,true),(iK2 57 4 51 56,true),(iM 58 2,true),(iA 59 (.build [(.str []),zI,zI] [(0,1,(Tm 50)),(1,1,(Tm 57)),(2,1,(Tm 58))]),false),(iA 60 (.aSA true 3 1 [(.str []),zI,zI] [(0,(Tm 59))]),false),(iA 61 (.append 3 32 (Tm 44) (Tm 60)),true),(iA 62 (.aSI (Tm 40)),false),(iF 63 4 62,false)]
def Mc:Rd:=[(iS 1 63 61,true)]
def yb:Rg:=[iM 64 1,iA 65 (.aSI (Tm 64)),iF 66 4 65,iL 67 66,iN 68 67,iM 69 3,iB 70 .geq 68 69,iM 71 70,gM 72 1 71 false,iG 73 (.aSI (Tm 72)) 71 false,gF 74 3 73 71 false,gL 75 74 71 false,gN 76 75 71 false,gC 77 .geq 76 35 71 false,iQ 78 71 77]
def yc:Rd:=[(iM 79 8,false),(iA 80 (.aSX (.const (.str [45,115,114,107,109])) (Tm 79)),false),(iA 81 (.aSA true 1 1 [(.int .u8 0)] [(0,(Tm 80))]),false),(iA 82 (.aSJ (Tm 81)),false),(iM 83 1,false),(iA 84 (.aSI (Tm 83)),false),(iF 85 3 84,false),(iL 86 85,false),(iN 87 86,false),(iK2 88 29 82 87,true),(iM 89 8,true),(iM 90 2,true),(iM 91 0,true),(iA 92 (.call 4 [(Tm 91),(Ci 16)]),true),(iA 93 (.bin .add (Ci 1) (Tm 92)),true),(iA 94 (.call 47 [(Ci 0)]),true),(iA 95 (.build [(.str []),zI,zI,zI,zB,.aB,.aB] [(0,1,(Tm 88)),(1,1,(Tm 89)),(2,1,(Tm 90)),(3,1,(Tm 93)),(4,3,(Tm 94))]),false),(iA 11 (.alloc [(.str []),zI,zI,zI,zB,.aB,.aB]),true),(iS 7 11 95,true)]
def yd:Rg:=[iM 96 0,iA 97 (.call 4 [(Tm 96),(Ci 3)]),iC 98 .eql 97 0]
def ye:Rg:=[iM 100 0,iA 101 (.call 4 [(Tm 100),(Ci 6)]),iA 102 (.bin .add (Ci 2) (Tm 101)),iA 103 (.call 50 [(Ci 1),(Tm 102)]),iM 99 103,iE 104 99 0,iE 105 99 1,iF 106 4 11,iS 3 106 104]
def QR:Rd:=[(iM 107 1,true),(iM 108 1,false),(iA 109 (.aSI (Tm 108)),false),(iF 110 3 109,false),(iL 111 110,false),(iO 112 7 11,false),(iA 113 (.aSA true 7 1 [(.str []),zI,zI,zI,zB,.aB,.aB] [(0,(Tm 112))]),false),(iA 114 (.append 7 96 (Tm 111) (Tm 113)),true),(iA 115 (.aSI (Tm 107)),false),(iF 116 3 115,false),(iS 1 116 114,true)]
def QS:Rg:=[iM 117 0,iM 118 1,iM 119 1,iA 120 (.aSI (Tm 119)),iF 121 3 120,iL 122 121,iN 123 122,iC 124 .sub 123 1,iM 125 3,iA 126 (.call 7 [(Tm 117),(Tm 118),(Tm 124),(Tm 125)])]
def xJ:Rg:=[iM 29 10,iC 30 .add 29 1,iM 10 30]
def xI:aC:=(.seq (sq bc (.cond (Tm 28) .skip (.exit 0))) (.seq (.block 1 (.seq (sq bd (.cond (Tm 32) (.seq (sq Ma (.cond (Tm 39) (dq Mb (.draw Mc)) .skip)) (.exit 1)) .skip)) (.seq (sq yb (.cond (Tm 78) .ret .skip)) (dq yc (.seq (sq yd (.cond (Tm 98) (.region ye) .skip)) (dq QR (.region QS))))))) (.region xJ)))
def yS:aC:=(sq L6 (sq L7 (.seq (sq L8 (.cond (Tm 25) (.region L9) .skip)) (sq KC (.block 0 (.loop xI))))))
def awK:List Nat:=[60,81,113]
def D7:aW:=⟨4,127,yS,[]⟩
def x2:Rg:=[iA 6 (.alloc [zI,.aB,.aB,.aB,.aB,.aB,.aB])]
def x3:Rg:=[iM 20 0,iA 21 (.call 4 [(Tm 20),(Ci 2)]),iA 22 (.bin .add (Ci 1) (Tm 21)),iA 23 (.build [zI,.aB,.aB,.aB,.aB,.aB,.aB] [(0,1,(Tm 22))]),iA 7 (.alloc [zI,.aB,.aB,.aB,.aB,.aB,.aB]),iS 7 7 23]
def x4:Rg:=[iM 24 0,iA 25 (.call 4 [(Tm 24),(Ci 2)]),iA 26 (.bin .add (Ci 1) (Tm 25)),iM 8 26]
def x5:Rg:=[iI 9 0]
def x6:Rg:=[iM 27 9,iM 28 8,iB 29 .lss 27 28]
def x7:Rg:=[iM 32 0,iA 33 (.call 2 [(Tm 32),(Ci 2)]),iA 10 (.alloc [(.str []),.aB,.aB,.aB]),iS 4 10 33]
def x8:Rg:=[iM 34 9,iA 35 (.call 29 [(.const (.str [108,97,119])),(Tm 34)]),iF 36 0 10,iS 1 36 35]
def x9:Rg:=[iF 37 1 7,iL 38 37,iO 39 4 10,iA 40 (.aSA true 4 1 [(.str []),.aB,.aB,.aB] [(0,(Tm 39))]),iA 41 (.append 4 88 (Tm 38) (Tm 40)),iF 42 1 7,iS 1 42 41]
def ya:Rg:=[iM 30 9,iC 31 .add 30 1,iM 9 31]
def QQ:aC:=(.seq (sq x6 (.cond (Tm 29) .skip (.exit 0))) (.seq (.block 1 (sq x7 (sq x8 (.region x9)))) (.region ya)))
def ju:Rg:=[iM 43 0,iA 44 (.call 4 [(Tm 43),(Ci 2)]),iA 45 (.bin .add (Ci 1) (Tm 44)),iM 11 45]
def jv:Rg:=[iI 12 0]
def jw:Rg:=[iM 46 12,iM 47 11,iB 48 .lss 46 47]
def jx:Rd:=[(iF 51 2 7,true),(iL 52 51,true),(iM 53 12,false),(iA 54 (.call 29 [(.const (.str [109])),(Tm 53)]),true),(iM 55 0,true),(iA 56 (.call 4 [(Tm 55),(Ci 4)]),true),(iA 57 (.bin .add (Ci 1) (Tm 56)),true),(iM 58 0,true),(iA 59 (.call 4 [(Tm 58),(Ci 8)]),true),(iA 60 (.bin .add (Ci 1) (Tm 59)),true),(iM 61 0,true),(iF 62 1 7,true),(iL 63 62,true),(iN 64 63,true),(iK2 65 4 61 64,true),(iA 66 (.build [(.str []),zI,zI,zI] [(0,1,(Tm 54)),(1,1,(Tm 57)),(2,1,(Tm 60)),(3,1,(Tm 65))]),false),(iA 67 (.aSA true 4 1 [(.str []),zI,zI,zI] [(0,(Tm 66))]),false),(iA 68 (.append 4 40 (Tm 52) (Tm 67)),true),(iF 69 2 7,false)]
def jy:Rd:=[(iS 1 69 68,true)]
def jz:Rg:=[iM 49 12,iC 50 .add 49 1,iM 12 50]
def JQ:aC:=(.seq (sq jw (.cond (Tm 48) .skip (.exit 2))) (.seq (.block 3 (dq jx (.draw jy))) (.region jz)))
def j5:Rg:=[iA 70 (.call 47 [(Ci 0)]),iA 71 (.build [(.str []),zI,zI,zI,zB,.aB,.aB] [(2,1,(Ci (-1))),(4,3,(Tm 70))]),iA 72 (.aSA false 7 1 [(.str []),zI,zI,zI,zB,.aB,.aB] [(0,(Tm 71))]),iF 73 3 7,iS 1 73 72]
def j6:Rg:=[iM 74 0,iM 75 1,iA 76 (.call 7 [(Tm 74),(Tm 7),(Ci 0),(Tm 75)])]
def j7:Rg:=[iM 77 0,iA 78 (.call 4 [(Tm 77),(Ci 2)]),iA 79 (.bin .add (Ci 1) (Tm 78)),iM 13 79]
def j8:Rg:=[iI 14 0]
def j9:Rg:=[iM 80 14,iM 81 13,iB 82 .lss 80 81]
def JT:Rg:=[iM 85 14,iA 86 (.call 29 [(.const (.str [112])),(Tm 85)]),iM 87 0,iA 88 (.call 4 [(Tm 87),(Ci 2)]),iA 89 (.bin .add (Ci 1) (Tm 88)),iM 90 0,iA 91 (.call 4 [(Tm 90),(Ci 3)]),iM 92 0,iA 93 (.call 4 [(Tm 92),(Ci 4)]),iA 94 (.bin .add (Ci 1) (Tm 93)),iK 95 47 94,iA 96 (.build [(.str []),zI,zI,zI,zI,zI,zI,zI,zI,.aB,.aB,zB,.aB,.aB,zB,.aB,.aB] [(0,1,(Tm 86)),(1,1,(Tm 89)),(2,1,(Tm 91)),(14,3,(Tm 95))]),iA 15 (.alloc [(.str []),zI,zI,zI,zI,zI,zI,zI,zI,.aB,.aB,zB,.aB,.aB,zB,.aB,.aB]),iS 17 15 96]
def yN:Rd:=[(iF 97 1 15,true),(iL 98 97,true),(iM 99 0,false),(iF 100 2 15,false),(iL 101 100,false),(iC 102 .add 101 1,false),(iK2 103 4 99 102,true),(iB 104 .add 98 103,false),(iF 105 3 15,false)]
def yO:Rd:=[(iS 1 105 104,true)]
def yP:Rg:=[iM 106 0,iF 107 2 15,iL 108 107,iK2 109 5 106 108,iF 110 10 15,iS 1 110 109]
def yQ:Rg:=[iM 112 0,iA 113 (.call 4 [(Tm 112),(Ci 9)]),iA 114 (.call 50 [(Tm 113),(Ci 8)]),iM 111 114,iE 115 111 0,iE 116 111 1,iF 117 11 15,iS 3 117 115]
def JU:Rg:=[iI 16 1]
def ka:Rg:=[iM 118 16,iC 119 .lss 118 5]
def kb:Rg:=[iM 122 0,iA 123 (.call 4 [(Tm 122),(Ci 3)]),iC 124 .eql 123 0]
def kc:Rg:=[iM 125 16,iM 126 0,iA 127 (.call 4 [(Tm 126),(Ci 3)]),iA 128 (.bin .add (Ci 1) (Tm 127)),iF 129 4 15,iA 130 (.idxA 5 1 (Tm 129) (Tm 125)),iS 1 130 128]
def JV:Rg:=[iM 120 16,iC 121 .add 120 1,iM 16 121]
def yM:aC:=(.seq (sq ka (.cond (Tm 119) .skip (.exit 6))) (.seq (.block 7 (sq kb (.cond (Tm 124) (.region kc) .skip))) (.region JV)))
def JW:Rg:=[iM 131 0,iM 132 11,iK2 133 4 131 132,iM 17 133]
def JX:Rg:=[iM 134 17,iA 135 (.aSA false 1 1 [zI] [(0,(Tm 134))]),iF 136 9 15,iS 1 136 135]
def JY:Rg:=[iM 137 11,iC 138 .gtr 137 1,iM 139 138,gM 140 0 139 true,iG 141 (.call 4 [(Tm 140),(Ci 2)]) 139 true,gC 142 .eql 141 0 139 true,iP 143 139 142]
def JZ:Rg:=[iF 144 9 15,iL 145 144,iM 146 17,iA 147 (.bin .sub (Ci 1) (Tm 146)),iA 148 (.aSA true 1 1 [zI] [(0,(Tm 147))]),iA 149 (.append 1 8 (Tm 145) (Tm 148)),iF 150 9 15,iS 1 150 149]
def yR:Rg:=[iF 151 5 7,iL 152 151,iO 153 17 15,iA 154 (.aSA true 17 1 [(.str []),zI,zI,zI,zI,zI,zI,zI,zI,.aB,.aB,zB,.aB,.aB,zB,.aB,.aB] [(0,(Tm 153))]),iA 155 (.append 17 240 (Tm 152) (Tm 154)),iF 156 5 7,iS 1 156 155]
def kd:Rg:=[iM 83 14,iC 84 .add 83 1,iM 14 84]
def JR:aC:=(.seq (sq j9 (.cond (Tm 82) .skip (.exit 4))) (.seq (.block 5 (sq JT (.seq (dq yN (.draw yO)) (sq yP (sq yQ (.seq (sq JU (.block 6 (.loop yM))) (sq JW (sq JX (.seq (sq JY (.cond (Tm 143) (.region JZ) .skip)) (.region yR)))))))))) (.region kd)))
def kf:Rg:=[iM 157 0,iM 158 2,iC 159 .add 158 1,iK2 160 4 157 159,iM 18 160]
def kg:Rg:=[iI 19 0]
def kh:Rg:=[iM 161 19,iM 162 18,iB 163 .lss 161 162]
def ki:Rd:=[(iF 166 6 7,true),(iL 167 166,true),(iM 168 19,false),(iA 169 (.call 29 [(.const (.str [118])),(Tm 168)]),true),(iM 170 0,true),(iF 171 5 7,true),(iL 172 171,true),(iN 173 172,true),(iK2 174 4 170 173,true),(iA 175 (.build [(.str []),zI] [(0,1,(Tm 169)),(1,1,(Tm 174))]),false),(iA 176 (.aSA true 2 1 [(.str []),zI] [(0,(Tm 175))]),false),(iA 177 (.append 2 24 (Tm 167) (Tm 176)),true),(iF 178 6 7,false)]
def kj:Rd:=[(iS 1 178 177,true)]
def kk:Rg:=[iM 164 19,iC 165 .add 164 1,iM 19 165]
def JS:aC:=(.seq (sq kh (.cond (Tm 163) .skip (.exit 8))) (.seq (.block 9 (dq ki (.draw kj))) (.region kk)))
def kn:Rg:=[iO 179 7 7,iS 7 6 179]
def DZ:aC:=(sq x2 (sq x3 (sq x4 (.seq (sq x5 (.block 0 (.loop QQ))) (sq ju (.seq (sq jv (.block 2 (.loop JQ))) (sq j5 (sq j6 (sq j7 (.seq (sq j8 (.block 4 (.loop JR))) (sq kf (.seq (sq kg (.block 8 (.loop JS))) (sq kn .ret)))))))))))))
def aoH:List Nat:=[40,67,148,154,176]
def Lx:aW:=⟨3,180,DZ,[.cell 6 (some 7)]⟩
def xu:Rg:=[iA 6 (.alloc [zI,.aB,.aB,.aB,.aB,.aB,.aB])]
def xv:Rg:=[iM 7 0,iK 8 28 7,iM 9 1,iM 10 2,iA 11 (.call 0 [(Tm 8),(Tm 9),(Tm 10)]),iS 7 6 11]
def DX:aC:=(sq xu (sq xv .ret))
def aoE:List Nat:=[]
def K9:aW:=⟨3,12,DX,[.cell 6 (some 7)]⟩
def Pz:Rg:=[iA 2 (.box true (Tm 0)),iI 4 0]
def P0:Rd:=[(iF 6 5 2,false),(iL 7 6,false),(iF 8 6 2,false),(iL 9 8,false),(iM 10 1,false),(iX 11 2 9 10,false),(iF 12 1 11,false),(iL 13 12,false),(iX 14 17 7 13,false),(iO 15 17 14,false),(iA 5 (.alloc [(.str []),zI,zI,zI,zI,zI,zI,zI,zI,.aB,.aB,zB,.aB,.aB,zB,.aB,.aB]),true),(iS 17 5 15,true)]
def P1:Rg:=[iF 16 1 5,iL 17 16,iF 18 2 5,iL 19 18,iB 20 .add 17 19,iM 4 20]
def LS:aC:=(sq Pz (dq P0 (sq P1 .ret)))
def ayT:List Nat:=[2]
def ajY:aW:=⟨2,21,LS,[.tmp 4]⟩
def R3:Rg:=[iZ 2]
def R4:Rg:=[iM 4 0,iN 5 4,iM 3 5]
def R5:Rg:=[iM 6 3,iC 7 .gtr 6 0,iM 8 7,gM 9 0 8 true,gM 10 3 8 true,gC 11 .sub 10 1 8 true,iG 12 (.aSM 1 (Tm 9) (Tm 11)) 8 true,gL 13 12 8 true,iG 14 (.bin .eql (Tm 13) (.const (.int .u32 0))) 8 true,iP 15 8 14]
def R6:Rg:=[iM 16 3,iC 17 .sub 16 1,iM 3 17]
def R2:aC:=(.seq (sq R5 (.cond (Tm 15) .skip (.exit 0))) (.block 1 (.region R6)))
def fm:Rg:=[iM 18 0,iM 19 3,iA 20 (.slice 1 (Tm 18) none (some (Tm 19)) none),iA 21 (.append 1 4 (.const .aB) (Tm 20)),iM 2 21]
def MU:aC:=(sq R3 (sq R4 (.seq (.block 0 (.loop R2)) (sq fm .ret))))
def aAB:List Nat:=[]
def akT:aW:=⟨1,22,MU,[.tmp 2]⟩
def Rs:Rg:=[iZ 2]
def Rt:Rg:=[iM 3 0,iA 4 (.conv .u32 (Tm 3)),iM 5 0,iA 6 (.bin .shr (Tm 5) (.const (.int .u64 32))),iA 7 (.conv .u32 (Tm 6)),iA 8 (.aSA true 1 2 [(.int .u32 0)] [(0,(Tm 4)),(1,(Tm 7))]),iK 9 38 8,iM 2 9]
def ML:aC:=(sq Rs (sq Rt .ret))
def azQ:List Nat:=[8]
def akP:aW:=⟨1,10,ML,[.tmp 2]⟩
def Bg:Rg:=[iT 2 false]
def Bh:Rg:=[iM 3 0,iK 4 38 3,iN 5 4,iC 6 .gtr 5 512,iM 2 6]
def FK:aC:=(sq Bg (sq Bh .ret))
def arE:List Nat:=[]
def Rr:aW:=⟨1,7,FK,[.tmp 2]⟩
def acL:Rg:=[iI 4 0]
def acM:Rg:=[iM 6 0,iK 7 38 6,iM 8 1,iK 9 38 8,iM 0 7,iM 1 9]
def acN:Rg:=[iM 10 0,iN 11 10,iM 12 1,iN 13 12,iB 14 .neq 11 13]
def acO:Rg:=[iM 15 0,iN 16 15,iM 17 1,iN 18 17,iB 19 .lss 16 18]
def acP:Rg:=[iI 4 (-1)]
def acQ:Rg:=[iI 4 1]
def acR:Rg:=[iM 20 0,iN 21 20,iC 22 .sub 21 1,iM 5 22]
def acS:Rg:=[iM 23 5,iC 24 .geq 23 0]
def acT:Rd:=[(iM 27 0,false),(iM 28 5,false),(iX 29 1 27 28,false),(iL 30 29,false),(iM 31 1,false),(iM 32 5,false),(iX 33 1 31 32,false),(iL 34 33,false),(iB 35 .lss 30 34,false)]
def acU:Rg:=[iI 4 (-1)]
def Rc:Rd:=[(iM 36 0,false),(iM 37 5,false),(iX 38 1 36 37,false),(iL 39 38,false),(iM 40 1,false),(iM 41 5,false),(iX 42 1 40 41,false),(iL 43 42,false),(iB 44 .gtr 39 43,false)]
def Re:Rg:=[iI 4 1]
def Rf:Rg:=[iM 25 5,iC 26 .sub 25 1,iM 5 26]
def Rb:aC:=(.seq (sq acS (.cond (Tm 24) .skip (.exit 0))) (.seq (.block 1 (.seq (dq acT (.cond (Tm 35) (sq acU .ret) .skip)) (dq Rc (.cond (Tm 44) (sq Re .ret) .skip)))) (.region Rf)))
def Rh:Rg:=[iI 4 0]
def SV:aC:=(sq acL (sq acM (.seq (sq acN (.cond (Tm 14) (.seq (sq acO (.cond (Tm 19) (sq acP .ret) .skip)) (sq acQ .ret)) .skip)) (.seq (sq acR (.block 0 (.loop Rb))) (sq Rh .ret)))))
def aGZ:List Nat:=[]
def azJ:aW:=⟨2,45,SV,[.tmp 4]⟩
def m7:Rg:=[iZ 4,iZ 5]
def m8:Rg:=[iM 20 0,iM 21 1,iK2 22 32 20 21,iC 23 .lss 22 0]
def m9:Rg:=[iM 24 0,iK 25 38 24,iZ 4,iM 5 25]
def na:Rg:=[iM 26 1,iN 27 26,iC 28 .eql 27 1]
def MH:Rg:=[iM 29 0,iN 30 29,iA 31 (.aSD 1 4 [(.int .u32 0)] (Tm 30) (Tm 30)),iM 6 31]
def MI:Rg:=[iA 7 (.mv (.const (.int .u64 0)))]
def MJ:Rg:=[iM 32 0,iN 33 32,iC 34 .sub 33 1,iM 8 34]
def nb:Rg:=[iM 35 8,iC 36 .geq 35 0]
def nc:Rg:=[iM 39 7,iA 40 (.bin .shl (Tm 39) (.const (.int .u64 32))),iM 41 0,iM 42 8,iX 43 1 41 42,iL 44 43,iA 45 (.conv .u64 (Tm 44)),iB 46 .or 40 45,iM 9 46]
def ni:Rg:=[iM 47 6,iM 48 8,iM 49 9,iM 50 1,iA 51 (.aSM 1 (Tm 50) (Ci 0)),iL 52 51,iA 53 (.conv .u64 (Tm 52)),iB 54 .quo 49 53,iA 55 (.conv .u32 (Tm 54)),iX 56 1 47 48,iS 1 56 55]
def XB:Rg:=[iM 57 9,iM 58 1,iA 59 (.aSM 1 (Tm 58) (Ci 0)),iL 60 59,iA 61 (.conv .u64 (Tm 60)),iB 62 .rem 57 61,iM 7 62]
def XC:Rg:=[iM 37 8,iC 38 .sub 37 1,iM 8 38]
def EX:aC:=(.seq (sq nb (.cond (Tm 36) .skip (.exit 0))) (.seq (.block 1 (sq nc (sq ni (.region XB)))) (.region XC)))
def EY:Rg:=[iM 63 6,iK 64 38 63,iM 65 7,iK 66 35 65,iM 4 64,iM 5 66]
def XD:Rg:=[iM 67 1,iN 68 67,iA 69 (.bin .mul (Ci 32) (Tm 68)),iM 70 1,iK 71 31 70,iB 72 .sub 69 71,iM 10 72]
def XE:Rg:=[iM 73 0,iM 74 10,iK2 75 45 73 74,iA 76 (.aSA true 1 2 [(.int .u32 0)] [(0,(.const (.int .u32 0))),(1,(.const (.int .u32 0)))]),iA 77 (.append 1 4 (Tm 75) (Tm 76)),iM 78 1,iM 79 10,iK2 80 45 78 79,iM 11 77,iM 12 80]
def EZ:Rg:=[iM 81 11,iM 82 0,iM 83 10,iK2 84 45 82 83,iN 85 84,iC 86 .add 85 1,iA 87 (.slice 1 (Tm 81) none (some (Tm 86)) none),iM 11 87]
def FA:Rg:=[iM 88 12,iM 89 12,iN 90 89,iC 91 .sub 90 1,iX 92 1 88 91,iL 93 92,iA 94 (.conv .u64 (Tm 93)),iM 13 94]
def FB:Rg:=[iM 95 11,iN 96 95,iM 97 12,iN 98 97,iB 99 .sub 96 98,iA 100 (.aSD 1 4 [(.int .u32 0)] (Tm 99) (Tm 99)),iM 14 100]
def FC:Rg:=[iM 101 14,iN 102 101,iC 103 .sub 102 1,iM 15 103]
def XF:Rg:=[iM 104 15,iC 105 .geq 104 0]
def XG:Rd:=[(iM 108 11,false),(iM 109 15,false),(iM 110 12,false),(iN 111 110,false),(iB 112 .add 109 111,false),(iX 113 1 108 112,false),(iL 114 113,false),(iA 115 (.conv .u64 (Tm 114)),false),(iA 116 (.bin .shl (Tm 115) (.const (.int .u64 32))),false),(iM 117 11,false),(iM 118 15,false),(iM 119 12,false),(iN 120 119,false),(iB 121 .add 118 120,false),(iC 122 .sub 121 1,false),(iX 123 1 117 122,false),(iL 124 123,false),(iA 125 (.conv .u64 (Tm 124)),false),(iB 126 .or 116 125,false),(iM 16 126,false)]
def XH:Rg:=[iM 127 16,iM 128 13,iB 129 .quo 127 128,iM 17 129]
def XI:Rg:=[iM 130 17,iA 131 (.bin .gtr (Tm 130) (.const (.int .u64 4294967295)))]
def XJ:Rg:=[iA 17 (.mv (.const (.int .u64 4294967295)))]
def XK:Rd:=[(iM 132 12,true),(iM 133 17,false),(iK 134 35 133,true),(iK2 135 44 132 134,true),(iM 136 11,true),(iM 137 15,true),(iM 138 15,true),(iM 139 12,true),(iN 140 139,true),(iB 141 .add 138 140,true),(iC 142 .add 141 1,true),(iA 143 (.slice 1 (Tm 136) (some (Tm 137)) (some (Tm 142)) none),true),(iA 144 (.append 1 4 (.const .aB) (Tm 143)),true),(iK2 145 32 135 144,true),(iC 146 .gtr 145 0,false)]
def XL:Rg:=[iM 147 17,iA 148 (.bin .sub (Tm 147) (.const (.int .u64 1))),iM 17 148]
def wS:aC:=(.seq (dq XK (.cond (Tm 146) .skip (.exit 4))) (.block 5 (.region XL)))
def FD:Rg:=[iM 149 11,iM 150 15,iM 151 15,iM 152 12,iN 153 152,iB 154 .add 151 153,iC 155 .add 154 1,iA 156 (.slice 1 (Tm 149) (some (Tm 150)) (some (Tm 155)) none),iA 157 (.append 1 4 (.const .aB) (Tm 156)),iM 158 12,iM 159 17,iK 160 35 159,iK2 161 44 158 160,iK2 162 42 157 161,iM 18 162]
def FF:Rg:=[iI 19 0]
def XM:Rg:=[iM 163 19,iM 164 12,iN 165 164,iB 166 .leq 163 165]
def XN:Rg:=[iM 169 11,iM 170 15,iM 171 19,iB 172 .add 170 171,iX 173 1 169 172,⟨none,.store 1 (Tm 173) (.const (.int .u32 0)),none⟩]
def XO:Rg:=[iM 174 19,iM 175 18,iN 176 175,iB 177 .lss 174 176]
def XP:Rg:=[iM 178 11,iM 179 15,iM 180 19,iB 181 .add 179 180,iM 182 18,iM 183 19,iX 184 1 182 183,iL 185 184,iX 186 1 178 181,iS 1 186 185]
def FG:Rg:=[iM 167 19,iC 168 .add 167 1,iM 19 168]
def wT:aC:=(.seq (sq XM (.cond (Tm 166) .skip (.exit 6))) (.seq (.block 7 (sq XN (sq XO (.cond (Tm 177) (.region XP) .skip)))) (.region FG)))
def FH:Rg:=[iM 187 14,iM 188 15,iM 189 17,iA 190 (.conv .u32 (Tm 189)),iX 191 1 187 188,iS 1 191 190]
def FI:Rg:=[iM 106 15,iC 107 .sub 106 1,iM 15 107]
def wU:aC:=(.seq (sq XF (.cond (Tm 105) .skip (.exit 2))) (.seq (.block 3 (dq XG (sq XH (.seq (sq XI (.cond (Tm 131) (.region XJ) .skip)) (.seq (.block 4 (.loop wS)) (sq FD (.seq (sq FF (.block 6 (.loop wT))) (.region FH)))))))) (.region FI)))
def FJ:Rg:=[iM 192 14,iK 193 38 192,iM 194 11,iK 195 38 194,iM 196 10,iK2 197 40 195 196,iM 4 193,iM 5 197]
def BO:aC:=(sq m7 (.seq (sq m8 (.cond (Tm 23) (sq m9 .ret) .skip)) (.seq (sq na (.cond (Tm 28) (sq MH (sq MI (.seq (sq MJ (.block 0 (.loop EX))) (sq EY .ret)))) .skip)) (sq XD (sq XE (sq EZ (sq FA (sq FB (.seq (sq FC (.block 2 (.loop wU))) (sq FJ .ret))))))))))
def akM:List Nat:=[76]
def va:aW:=⟨2,198,BO,[.tmp 4,.tmp 5]⟩
def acV:Rg:=[iZ 4,iZ 5,iI 6 0]
def acW:Rg:=[iM 9 0,iK 10 41 9,iM 11 10,gM 12 1 11 false,gK 13 41 12 11 false,iQ 14 11 13]
def u9:Rg:=[iZ 4,iZ 5,iI 6 2]
def acX:Rg:=[iM 15 1,iK 16 38 15,iN 17 16,iC 18 .eql 17 0]
def acY:Rg:=[iZ 4,iZ 5,iI 6 3]
def acZ:Rg:=[iM 20 0,iK 21 38 20,iM 22 1,iK 23 38 22,iK2 24 39 21 23,iM 19 24,iE 25 19 0,iE 26 19 1,iM 7 25,iM 8 26]
def adA:Rg:=[iM 27 7,iM 28 8,iM 4 27,iM 5 28,iI 6 0]
def SW:aC:=(sq acV (.seq (sq acW (.cond (Tm 14) (sq u9 .ret) .skip)) (.seq (sq acX (.cond (Tm 18) (sq acY .ret) .skip)) (sq acZ (sq adA .ret)))))
def aHB:List Nat:=[]
def udiv:aW:=⟨2,29,SW,[.tmp 4,.tmp 5,.tmp 6]⟩
def adC:Rg:=[iZ 4,iI 5 0]
def adD:Rg:=[iM 10 0,iK 11 41 10,iM 12 11,gM 13 1 12 false,gK 14 41 13 12 false,iQ 15 12 14]
def vb:Rg:=[iZ 4,iI 5 2]
def adE:Rg:=[iM 16 0,iK 17 38 16,iM 18 1,iK 19 38 18,iM 6 17,iM 7 19]
def adF:Rg:=[iM 20 7,iN 21 20,iC 22 .gtr 21 0]
def adG:Rg:=[iM 24 6,iM 25 7,iK2 26 39 24 25,iM 23 26,iE 27 23 0,iE 28 23 1,iM 8 27,iM 9 28]
def adH:Rg:=[iM 29 7,iM 30 9,iM 6 29,iM 7 30]
def adB:aC:=(.seq (sq adF (.cond (Tm 22) .skip (.exit 0))) (.block 1 (sq adG (.region adH))))
def adI:Rg:=[iM 31 6,iM 4 31,iI 5 0]
def SZ:aC:=(sq adC (.seq (sq adD (.cond (Tm 15) (sq vb .ret) .skip)) (sq adE (.seq (.block 0 (.loop adB)) (sq adI .ret)))))
def aHD:List Nat:=[]
def azO:aW:=⟨2,32,SZ,[.tmp 4,.tmp 5]⟩
def nz:Rg:=[iA 6 (.alloc [zB,.aB,.aB])]
def n0:Rg:=[iM 9 1,iK 10 38 9,iM 11 2,iK 12 38 11,iM 1 10,iM 2 12]
def n6:Rg:=[iM 13 1,iN 14 13,iC 15 .eql 14 0]
def n8:Rg:=[iA 16 (.aSA true 1 1 [(.int .u32 0)] [(0,(.const (.int .u32 1)))]),iA 17 (.build [zB,.aB,.aB] [(2,1,(Tm 16))]),iS 3 6 17]
def n9:Rg:=[iM 19 1,iM 20 2,iK2 21 34 19 20,iM 18 21,iE 22 18 0,iE 23 18 1,iM 7 22,iM 8 23]
def oa:Rg:=[iM 24 7,iN 25 24,iC 26 .gtr 25 1,iM 27 26,gM 28 7 27 false,iG 29 (.aSM 1 (Tm 28) (Ci 0)) 27 false,gL 30 29 27 false,iG 31 (.bin .gtr (Tm 30) (.const (.int .u32 1))) 27 false,iQ 32 27 31]
def MY:Rg:=[iM 34 1,iM 35 7,iK2 36 33 34 35,iM 33 36,iE 37 33 0,iE 38 33 1,iE 39 33 2,iM 1 37]
def MZ:Rg:=[iM 41 2,iM 42 7,iK2 43 33 41 42,iM 40 43,iE 44 40 0,iE 45 40 1,iE 46 40 2,iM 2 44]
def zF:Rg:=[iM 47 0,iM 48 1,iM 49 2,iA 50 (.build [zB,.aB,.aB] [(0,1,(Tm 47)),(1,1,(Tm 48)),(2,1,(Tm 49))]),iS 3 6 50]
def BQ:aC:=(sq nz (sq n0 (.seq (sq n6 (.cond (Tm 15) (sq n8 .ret) .skip)) (.seq (sq n9 (sq oa (.cond (Tm 32) (sq MY (.region MZ)) .skip))) (sq zF .ret)))))
def alC:List Nat:=[16]
def vh:aW:=⟨3,51,BQ,[.cell 6 (some 3)]⟩
def Sw:Rg:=[iA 2 (.mv (.const (.int .u64 0)))]
def Sx:Rg:=[iM 3 0,iC 4 .lss 3 0]
def Sy:Rg:=[iM 5 0,iC 6 .add 5 1,iA 7 (.un .neg (Tm 6)),iA 8 (.conv .u64 (Tm 7)),iA 9 (.bin .add (Tm 8) (.const (.int .u64 1))),iM 2 9]
def Sz:Rg:=[iM 10 0,iA 11 (.conv .u64 (Tm 10)),iM 2 11]
def ND:aC:=(sq Sw (.seq (sq Sx (.cond (Tm 4) (sq Sy .ret) .skip)) (sq Sz .ret)))
def aAR:List Nat:=[]
def alH:aW:=⟨1,12,ND,[.tmp 2]⟩
def Sj:Rg:=[iA 4 (.alloc [zB,.aB,.aB]),iI 5 0]
def Sk:Rg:=[iM 6 1,iC 7 .eql 6 0]
def Sl:Rg:=[iA 8 (.build [zB,.aB,.aB] []),iS 3 4 8,iI 5 3]
def Sm:Rg:=[iM 9 0,iC 10 .lss 9 0,iM 11 1,iC 12 .lss 11 0,iA 13 (.eqb true (Tm 10) (Tm 12)),iM 14 0,iK 15 59 14,iK 16 35 15,iM 17 1,iK 18 59 17,iK 19 35 18,iA 20 (.call 58 [(Tm 13),(Tm 16),(Tm 19)]),iS 3 4 20,iI 5 0]
def NA:aC:=(sq Sj (.seq (sq Sk (.cond (Tm 7) (sq Sl .ret) .skip)) (sq Sm .ret)))
def aAL:List Nat:=[]
def Ef:aW:=⟨2,21,NA,[.cell 4 (some 3),.tmp 5]⟩
def aeH:Rg:=[iA 2 (.alloc [zB,.aB,.aB])]
def aeI:Rg:=[iM 6 0,iA 7 (.call 50 [(Tm 6),(Ci 1)]),iM 5 7,iE 8 5 0,iE 9 5 1,iA 3 (.alloc [zB,.aB,.aB]),iS 3 3 8,iM 4 9]
def aeJ:Rg:=[iO 10 3 3,iS 3 2 10]
def TL:aC:=(sq aeH (sq aeI (sq aeJ .ret)))
def aHM:List Nat:=[]
def aAH:aW:=⟨1,11,TL,[.cell 2 (some 3)]⟩
def utF (xs:List Nat) (n:Nat):PF:=((PF.nil.set 0 (aK xs)).set 3 (.int .i64 n))
theorem aAA {C:Ctx} (xs:List Nat) (R:Lim xs) (S:xs.length≤35184372087808):MU.wp C (aR akT.res (nO 1 (aL (aJ (val xs))))) (PF.args [aK xs]) .nil:=by
 simp only[go_sem,MU,R3,R4,akT,aTJ];refine wp_loop (α:=Nat) (fun n=>utF xs n) (fun _=>.nil) (fun n=>n≤xs.length∧∀ j x,n≤j→xs[j]?=some x→x=0) (fun n=>n) xs.length ⟨aTO _,fun j x B l=>?_⟩ ?_ a_ ?_
 ·rw[aUW B] at l; cases l
 ·unfold utF;exact Lq
 rintro n ⟨N,J⟩;have done:(0<n→∀ h:n-1<xs.length,xs[n-1]≠0)→∀ F:PF,(utF xs n).le F→aC.wp C (.seq (.region fm) .ret) (aR [.tmp 2] (nO 1 (aL (aJ (val xs))))) F .nil:=by
  intro h F A;have f0:F 0=some (aK xs):=A 0 _ (by unfold utF; simp only[go_sem]);have K:F 3=some (.int .i64 n):=A 3 _ (by unfold utF; simp only[go_sem]);have E:xs.take n=aJ (val xs):=MB R N J fun x w l=>by
   rw[aTP Om] at l;injection l with l
   subst l;exact h w Om
  have M:((n:Nat):Int)≤(xs.length:Nat):=Om;simp only[go_sem,fm,f0,K,aTJ,M,or_true,aUV];refine jF (rows:=[]) (src:=aL (aJ (val xs))) .nil ?_ ?_ fun v H' O _=>?_
  ·simp only[go_sem];rw[← E,← List.map_take]
  ·unfold roomFor;rw[cF,← E,aUA];simp only[aVR,maxLen];omega
  ·exact LH (.inr rfl) (by simpa using O) rfl
 simp only[aC.wp,go_sem] at done;simp only[go_sem,R2,R5,utF];by_cases w:0<n
 ·have u:((n:Nat):Int)>0:=Om;have hlt:n-1<xs.length:=Om;have y:=bT xs hlt;have I:IntKind.i64.wrap ((n:Int)-1)=((n-1:Nat):Int):=xQ Om w;simp only[go_sem,u,I,y];by_cases c:xs[n-1]=0
  ·simp only[go_sem,bP (Om:((xs[n-1]:Nat):Int)=0),R6,I];refine aH (n-1) ⟨by omega,fun j x B l=>?_⟩ Om ?_ a_
   ·by_cases e:j=n-1
    ·subst e;rw[aTP hlt] at l;injection l with l
     omega
    ·exact J j x Om l
   ·exact Lq
  ·simp only[go_sem,bE (Om:((xs[n-1]:Nat):Int)≠0)];exact done (fun _ _=>c) _ (by unfold utF; exact Lq)
 ·have u:¬ ((n:Nat):Int)>0:=Om;simp only[go_sem,u];exact done (fun h=>absurd h w) _ (by unfold utF; exact Lq)
structure qN (C:Ctx):Prop where
 trimM:∀ xs,Lim xs→xs.length≤35184372087808→aG C 38 [aK xs] .nil (nO 1 (aL (aJ (val xs))))
theorem qN.trim {C:Ctx} (L:qN C) (xs:List Nat) (j:Lim xs) (e:xs.length≤35184372087808):aG C 38 [aK xs] .nil (aI (aK (aJ (val xs)))):=(L.trimM xs j e).freeze
theorem azP {C:Ctx} (L:qN C) (v:Nat) (E:v<18446744073709551616):ML.wp C (aR akP.res (cB (aK (aJ v)))) (PF.args [.int .u64 v]) .nil:=by
 have y:IntKind.u32.wrap ((v:Nat):Int)=((v%4294967296:Nat):Int):=cU v;have l:v/4294967296<4294967296:=Om;have A:IntKind.u32.wrap ((v/4294967296:Nat):Int)=((v/4294967296:Nat):Int):=by rw[cU,aUZ l]
 have B:Lim [v%4294967296,v/4294967296]:=by
  intro x w;simp only[aTW,List.mem_nil_iff,or_false] at w;rcases w with rfl | rfl
  ·exact aVF _ (by decide)
  ·exact l
 have e:val [v%4294967296,v/4294967296]=v:=by simp only[val,Nat.mul_zero,aVB]; exact Nat.mod_add_div v 4294967296
 have j:shift .shr .u64 (v:Int) 32=some (.int .u64 ((v/4294967296:Nat):Int)):=yZ;have hb:(2:Nat)*1≤16777216:=by decide
 simp only[go_sem,ML,Rs,Rt,akP,y,j,A,hb];have u:=L.trim [v%4294967296,v/4294967296] B (by simp);rw[e] at u;refine aA u rfl ?_;simp only[go_sem];exact aV (.inr rfl) .nil rfl a_ ⟨.refl _,rfl⟩
theorem arD {C:Ctx} (L:qN C) (xs:List Nat) (j:Lim xs) (e:xs.length≤35184372087808):FK.wp C (aR Rr.res (cB (.bool (decide (nl (val xs)>512))))) (PF.args [aK xs]) .nil:=by
 simp only[go_sem,FK,Bg,Bh,Rr];refine aA (L.trim xs j e) rfl ?_;simp only[go_sem,aTJ,aY];refine bB rfl ?_;rw[decide_eq_decide];omega
theorem agI {a b:Nat} (h:nl a<nl b):dU a b=-1:=by
 have:a<b:=by
  rcases aUE a b with h' | h'
  ·exact h'
  ·have:=gT h'; omega
 simp[dU,this]
theorem agH {a b:Nat} (h:nl b<nl a):dU a b=1:=by
 have:b<a:=by
  rcases aUE b a with h' | h'
  ·exact h'
  ·have:=gT h'; omega
 have e:¬ a<b:=Om;simp[dU,this,e]
def akJ (X Y:List Nat) (i:Int):PF:=(((PF.nil.set 0 (aK X)).set 1 (aK Y)).set 5 (.int .i64 i))
theorem aGY {C:Ctx} (L:qN C) (xs e:List Nat) (B:Lim xs) (E:Lim e) (W:xs.length≤35184372087808) (Z:e.length≤35184372087808) :
  SV.wp C (aR azJ.res (aI (.int .i64 (dU (val xs) (val e))))) (PF.args [aK xs,aK e]) .nil:=by
 simp only[go_sem,SV,acL,acM,azJ];refine aA (L.trim xs B W) Ev ?_;simp only[go_sem];refine aA (L.trim e E Z) Ev ?_;have bx:=fZ B;have J:=fZ E;simp only[go_sem,acN,aTJ,aY];by_cases w:nl (val xs)≠nl (val e)
 ·simp only[go_sem,dK (show ((nl (val xs):Nat):Int)≠(nl (val e):Nat) by omega),acO];by_cases K:nl (val xs)<nl (val e)
  ·simp only[go_sem,aTJ,aY,show ((nl (val xs):Nat):Int)<(nl (val e):Nat) by omega,acP];refine aQ (.inr rfl) Ev ?_;rw[agI K]; rfl
  ·simp only[go_sem,aTJ,aY,show ¬ ((nl (val xs):Nat):Int)<(nl (val e):Nat) by omega,acQ];refine aQ (.inr rfl) Ev ?_;rw[agH Om]; rfl
 replace w:=Decidable.of_not_not w;simp only[go_sem,bV (show ((nl (val xs):Nat):Int)=(nl (val e):Nat) by omega),acR,aTJ,aY];have ex:=aS (val xs);have x:=aS (val e);have F:=aU (val xs);have I:=aU (val e);generalize R:aJ (val xs)=X at *
 generalize S:aJ (val e)=Y at *
 have U:X.length=nl (val xs):=by rw[← R]; rfl
 have V:Y.length=nl (val xs):=by rw[w,← S]; rfl
 refine wp_loop (α:=Nat) (fun k=>akJ X Y ((k:Int)-1)) (fun _=>.nil) (fun k=>k≤nl (val xs)∧X.drop k=Y.drop k) (fun k=>k) (nl (val xs)) ⟨aTO _,?_⟩ ?_ a_ ?_
 ·rw[aXE Om,aXE Om]
 ·unfold akJ
  (repeat' (first|exact c_|refine d_ ?_ ?_))<;>first|(simp only[go_sem,wrap_i64 (show -9223372036854775808≤((nl (val xs):Nat):Int)-1 by omega) (show ((nl (val xs):Nat):Int)-1≤9223372036854775807 by omega)]<;>rfl)|rfl
 rintro k ⟨hk,j⟩;simp only[go_sem,Rb,acS,akJ];by_cases h0:0<k
 ·obtain⟨m,rfl⟩:∃ m,k=m+1:=⟨k-1,by omega⟩;have A:((m+1:Nat):Int)-1=(m:Int):=Om;have y:(m:Int)≥0:=Om;have l:m<X.length:=Om;have u:m<Y.length:=Om;simp only[go_sem,A,y];refine bC .nil cX a_ ?_;simp only[go_sem,acT,bT X l,bT Y u];by_cases M:X[m]<Y[m]
  ·simp only[go_sem,show ((X[m]:Nat):Int)<(Y[m]:Nat) by omega,acU];refine aQ (.inr rfl) Ev ?_;have:=ig F l u j M;rw[ex,x] at this;simp[bQ,dU,this]
  ·simp only[go_sem,show ¬ ((X[m]:Nat):Int)<(Y[m]:Nat) by omega];refine bC .nil cX a_ ?_;simp only[go_sem,Rc,bT X l,bT Y u];by_cases N:X[m]>Y[m]
   ·simp only[go_sem,show ((X[m]:Nat):Int)>(Y[m]:Nat) by omega,Re];refine aQ (.inr rfl) Ev ?_;have:=ig I u l j.symm N;rw[ex,x] at this;have O:¬ val xs<val e:=Om;simp[bQ,dU,this,O]
   ·simp only[go_sem,show ¬ ((X[m]:Nat):Int)>(Y[m]:Nat) by omega,Rf];refine aH m ⟨by omega,v7 l u j Om⟩ Om ?_ a_
    (repeat' (first|exact c_|refine d_ ?_ ?_))<;>first|(simp only[go_sem,wrap_i64 (Om:-9223372036854775808≤(m:Int)-1) (Om:(m:Int)-1≤9223372036854775807)]<;>rfl)|rfl
 ·have:k=0:=Om;subst this;have A:¬ ((0:Nat):Int)-1≥0:=by decide
  simp only[go_sem,A,Rh];refine aQ (.inr rfl) Ev ?_;rw[aUV,aUV] at j;have:val xs=val e:=by rw[← ex,← x,j]
  simp[bQ,dU,this]
theorem DC (n:Nat):(((n:Nat):Int)==0)=decide (n=0):=by
 by_cases h:n=0
 ·subst h; rfl
 ·rw[bE Om,decide_eq_false h]
structure Eq (C:Ctx):Prop extends qN C where
 make:∀ v:Nat,v<18446744073709551616→aG C 35 [.int .u64 v] .nil (aI (aK (aJ v)))
 large:∀ xs,Lim xs→xs.length≤35184372087808→aG C 41 [aK xs] .nil (aI (.bool (decide (nl (val xs)>512))))
 cmp:∀ xs ys,Lim xs→Lim ys→xs.length≤35184372087808→ys.length≤35184372087808→aG C 32 [aK xs,aK ys] .nil (aI (.int .i64 (dU (val xs) (val ys))))
def akO (a b:Nat):PF:=((PF.nil.set 6 (aK (aJ a))).set 7 (aK (aJ b)))
structure gp (C:Ctx):Prop extends Eq C where
 divide:∀ A B:Nat,B≠0→nl A≤512→nl B≤512→aG C 39 [aK (aJ A),aK (aJ B)] .nil (aI (rJ A B))
def ahG (a b:Nat):PV:=if eI a b then .tup [aK [],.int .i64 2] else .tup [aK (aJ (aTL a b)),.int .i64 0]
theorem aHC {C:Ctx} (L:gp C) (a b:List Nat) (w:Lim a) (hb:Lim b) (B:a.length≤35184372087808) (E:b.length≤35184372087808) :
  SZ.wp C (aR azO.res (cB (ahG (val a) (val b)))) (PF.args [aK a,aK b]) .nil:=by
 unfold ahG;simp only[go_sem,SZ,adC,adD,azO];refine aA (L.large a w B) rfl ?_;by_cases e:nl (val a)>512
 ·simp only[go_sem,e,vb];rw[if_pos (by simp[eI,e])];exact fF rfl
 simp only[go_sem,e];refine aA (L.large b hb E) rfl ?_;by_cases j:nl (val b)>512
 ·simp only[go_sem,j,vb];rw[if_pos (by simp[eI,j])];exact fF rfl
 rw[if_neg (by simp[eI,e,j])];simp only[go_sem,j,adE];refine aA (L.trim a w B) rfl ?_;simp only[go_sem];refine aA (L.trim b hb E) rfl ?_;simp only[go_sem];refine wp_loop (α:=Nat × Nat) (fun t=>akO t.1 t.2) (fun _=>.nil) (fun t=>aTL t.1 t.2=aTL (val a) (val b)∧nl t.1≤512∧nl t.2≤512) (fun t=>t.2) (val a,val b) ⟨rfl,by simp only; omega,by simp only; omega⟩ ?_ a_ ?_
 ·unfold akO;exact Lq
 rintro⟨x,y⟩ ⟨u,F,A⟩;simp only at u F A;simp only[go_sem,adB,adF,akO,aY];by_cases l:y=0
 ·subst l;have:¬ ((nl 0:Nat):Int)>0:=by rw[AD]; decide
  simp only[go_sem,this,adI];refine aV (vs:=[aK (aJ x),.int .i64 0]) (.inr rfl) .nil rfl a_ ⟨?_,rfl⟩;rw[← u,Nat.gcd_zero_right];exact .refl _
 ·have I:nl y≠0:=fun h=>l (jL.1 h);have:((nl y:Nat):Int)>0:=Om;simp only[go_sem,this,adG];refine aA (L.divide x y l Om Om) rfl ?_;simp only[go_sem,rJ,adH];have hlt:x%y<y:=aVF _ (aWD l);refine aH (y,x%y) ⟨?_,A,?_⟩ hlt ?_ a_
  ·simp only;rw[← u,Nat.gcd_comm y,← Nat.gcd_rec y x,Nat.gcd_comm]
  ·have:=gT (Nat.le_of_lt hlt);simp only; omega
  ·exact Lq
theorem aHA {C:Ctx} (L:gp C) (a b:List Nat) (w:Lim a) (hb:Lim b) (x:a.length≤35184372087808) (u:b.length≤35184372087808) :
  SW.wp C (aR udiv.res (cB (nP (val a) (val b)))) (PF.args [aK a,aK b]) .nil:=by
 unfold nP;simp only[go_sem,SW,acV,acW,udiv];refine aA (L.large a w x) rfl ?_;by_cases j:nl (val a)>512
 ·simp only[go_sem,j,u9];rw[if_pos (by simp[eI,j])];exact tB rfl
 simp only[go_sem,j];refine aA (L.large b hb u) rfl ?_;by_cases l:nl (val b)>512
 ·simp only[go_sem,l,u9];rw[if_pos (by simp[eI,l])];exact tB rfl
 rw[if_neg (by simp[eI,j,l])];simp only[go_sem,l,acX];refine aA (L.trim b hb u) rfl ?_;simp only[go_sem,aTJ,aY,DC,jL];by_cases e:val b=0
 ·rw[if_pos e];simp only[go_sem,decide_eq_true e,acY];exact tB rfl
 rw[if_neg e];simp only[go_sem,decide_eq_false e,acZ];refine aA (L.trim a w x) rfl ?_;simp only[go_sem];refine aA (L.trim b hb u) rfl ?_;simp only[go_sem];refine aA (L.divide (val a) (val b) e Om Om) rfl ?_;simp only[go_sem,rJ,adA];exact aV (.inr rfl) .nil rfl a_ ⟨.refl _,rfl⟩
def nI (neg:Bool) (a b:Nat):FV:=(neg&&decide (a/aTL a b≠0),a/aTL a b,b/aTL a b)
structure Er (C:Ctx):Prop extends gp C where
 gcd:∀ a b,Lim a→Lim b→a.length≤35184372087808→b.length≤35184372087808→aG C 34 [aK a,aK b] .nil (aI (ahG (val a) (val b)))
 div:∀ a b,Lim a→Lim b→a.length≤35184372087808→b.length≤35184372087808→aG C 33 [aK a,aK b] .nil (aI (nP (val a) (val b)))
theorem uG {n:Nat} (h:nl n≤512):(aJ n).length≤35184372087808:=by rw[aY]; omega
theorem xH:aJ 1=[1]:=pF (by decide) (by decide)
theorem ji {n:Nat} (h:n≠0):aJ n=n%4294967296::aJ (n/4294967296):=sZ h
theorem AY {n:Nat} (h:n≠0):(nl n>1∨n%4294967296>1)↔n≠1:=by
 constructor
 ·rintro h1 rfl;rcases h1 with h1 | h1
  ·rw[nl,xH] at h1; simp at h1
  ·omega
 ·intro h1;by_cases c:nl n>1
  ·exact .inl c
  ·have:n<4294967296 ^ 1:=(jU n 1).1 Om;rw[Nat.pow_one] at this;rw[aUZ this];exact .inr Om
theorem alB {C:Ctx} (L:Er C) (neg:Bool) (a b:List Nat) (Y:Lim a) (hb:Lim b) (la:a.length≤35184372087808) (lb:b.length≤35184372087808) (E:nl (val a)≤512) (A:nl (val b)≤512) (I:val b≠0) :
  BQ.wp C (aR vh.res (cB (.agg (nI neg (val a) (val b)).rf.cells))) (PF.args [.bool neg,aK a,aK b]) .nil:=by
 have j:aTL (val a) (val b)≠0:=fun h=>I (Nat.eq_zero_of_gcd_eq_zero_right h);have M:aTL (val a) (val b)≤val b:=Nat.gcd_le_right _ (aWD I);have R:nl (aTL (val a) (val b))≤512:=aWI (gT M) A;have N:eI (val a) (val b)=false:=jI E A;simp only[go_sem,BQ,nz,n0,vh];refine aO fun o ho=>?_;simp only[go_sem];refine aA (L.trim a Y la) rfl ?_;simp only[go_sem];refine aA (L.trim b hb lb) rfl ?_;simp only[go_sem,n6,aTJ,aY,DC,jL];by_cases B:val a=0
 ·simp only[go_sem,decide_eq_true B,n8];have e:(nI neg (val a) (val b)).rf=⟨false,[],[1]⟩:=by rw[B];unfold nI FV.rf;simp[gE,Nat.div_self (aWD I),xH]
  rw[e];refine aV (vs:=[.agg [.bool false,.aB,aK [1]]]) (.inr rfl) .nil ?_ a_ ⟨show Co (.agg _) (.agg _) from CoL.agg (CoL.cons (.refl _) (CoL.cons (.nil 1) (CoL.cons (.refl _) .nil))),rfl⟩;simp only[go_sem];rfl
 have l:=L.gcd (aJ (val a)) (aJ (val b)) (aU _) (aU _) (uG E) (uG A);rw[aS,aS,ahG,N] at l;simp only[go_sem,decide_eq_false B,n9];refine aA l rfl ?_;have fin:∀ x y:Nat,x=val a/aTL (val a) (val b)→y=val b/aTL (val a) (val b)→∀ (F:PF) (H:PH),F 0=some (.bool neg)→F 1=some (aK (aJ x))→F 2=some (aK (aJ y))→F 6=some (.ptr o 3 0 0)→H o=some (.rows 3 [[.bool false,.aB,.aB]]) →
   aC.wp C (.seq (.region zF) .ret) (aR [.cell 6 (some 3)] (cB (.agg (nI neg (val a) (val b)).rf.cells))) F H:=by
  intro x y O Z F H f0 f1 f2 f6 J;subst O; subst Z;simp only[go_sem,zF,f0,f1,f2,f6,J];have hq:val a/aTL (val a) (val b)≠0:=by have:=Nat.div_pos (Nat.gcd_le_left (val b) (aWD B)) (aWD j);omega
  have e:(nI neg (val a) (val b)).rf=⟨neg,aJ (val a/aTL (val a) (val b)),aJ (val b/aTL (val a) (val b))⟩:=by unfold nI FV.rf;simp only[hq,ne_eq,not_false_eq_true,decide_true,aVK]
  rw[e];refine aV (vs:=[.agg (eT neg (aJ (val a/aTL (val a) (val b))) (aJ (val b/aTL (val a) (val b))))]) (.inr rfl) .nil ?_ a_ ⟨.refl _,rfl⟩;simp only[go_sem,f6]
 simp only[aC.wp,go_sem] at fin;have K:=fun x (O:nl x≤512)=>L.div (aJ x) (aJ (aTL (val a) (val b))) (aU _) (aU _) (uG O) (uG R);simp only[aS,nP] at K;have tail:aTL (val a) (val b)≠1→∀ (F:PF) (H:PH),F 0=some (.bool neg)→F 1=some (aK (aJ (val a)))→F 2=some (aK (aJ (val b)))→F 6=some (.ptr o 3 0 0)→F 7=some (aK (aJ (aTL (val a) (val b))))→H o=some (.rows 3 [[.bool false,.aB,.aB]]) →
   aC.wp C (.seq (.seq (.region MY) (.region MZ)) (.seq (.region zF) .ret)) (aR [.cell 6 (some 3)] (cB (.agg (nI neg (val a) (val b)).rf.cells))) F H:=by
  intro _ F H f0 f1 f2 f6 f7 J;have V:=K (val a) E;have W:=K (val b) A;rw[jI E R,if_neg j] at V;rw[jI A R,if_neg j] at W;simp only[go_sem,MY,f1,f7];refine aA V rfl ?_;simp only[go_sem,aWM,MZ,f2,f7];refine aA W rfl ?_;simp only[go_sem,aWM];exact fin _ _ rfl rfl _ _ (by simp only[go_sem,f0]) rfl rfl (by simp only[go_sem,f6]) J
 simp only[aC.wp,go_sem] at tail;simp only[go_sem,aWM,oa,aTJ,aY];by_cases S:nl (aTL (val a) (val b))>1
 ·have u:((nl (aTL (val a) (val b)):Nat):Int)>1:=Om;simp only[go_sem,u];exact tail ((AY j).1 (.inl S)) _ _ rfl rfl rfl rfl rfl Sq
 ·have u:¬ ((nl (aTL (val a) (val b)):Nat):Int)>1:=Om;simp only[go_sem,u,ji j];by_cases U:aTL (val a) (val b)%4294967296>1
  ·have w:((aTL (val a) (val b)%4294967296:Nat):Int)>1:=Om;simp only[go_sem,w];exact tail ((AY j).1 (.inr U)) _ _ rfl rfl rfl rfl (by simp only[go_sem,ji j]) Sq
  ·have w:¬ ((aTL (val a) (val b)%4294967296:Nat):Int)>1:=Om;have X:aTL (val a) (val b)=1:=by
    rcases Decidable.em (aTL (val a) (val b)=1) with h | h
    ·exact h
    ·rcases (AY j).2 h with h | h
     ·exact absurd h S
     ·exact absurd h U
   simp only[go_sem,w];exact fin (val a) (val b) (by rw[X,Nat.div_one]) (by rw[X,Nat.div_one]) _ _ rfl rfl rfl rfl Sq
theorem aAQ {C:Ctx} (v:Int) (w:-9223372036854775808≤v) (x:v≤9223372036854775807) :
  ND.wp C (aR alH.res (aI (.int .u64 (v.natAbs:Nat)))) (PF.args [.int .i64 v]) .nil:=by
 simp only[go_sem,ND,Sw,Sx,alH];by_cases c:v<0
 ·have j:IntKind.i64.wrap (v+1)=v+1:=wrap_i64 Om Om;have l:IntKind.i64.wrap (0-(v+1))=-(v+1):=by rw[wrap_i64 Om Om]; omega
  have u:IntKind.u64.wrap (IntKind.u64.wrap (-(v+1))+1)=(v.natAbs:Int):=by rw[gU,gU]; omega
  simp only[go_sem,c,Sy,j,l,u];refine aQ (.inr rfl) rfl ?_;rfl
 ·have e:IntKind.u64.wrap v=(v.natAbs:Int):=by rw[gU]; omega
  simp only[go_sem,c,Sz,e];refine aQ (.inr rfl) rfl ?_;rfl
structure afR (C:Ctx):Prop extends Er C where
 lowest:∀ neg a b,Lim a→Lim b→a.length≤35184372087808→b.length≤35184372087808→nl (val a)≤512→nl (val b)≤512→val b≠0→aG C 58 [.bool neg,aK a,aK b] .nil (aI (.agg (nI neg (val a) (val b)).rf.cells))
 size:∀ v:Int,dN v→aG C 59 [.int .i64 v] .nil (aI (.int .u64 (v.natAbs:Nat)))
def mkT (n d:Int):RF:=(nI (decide (n<0) != decide (d<0)) n.natAbs d.natAbs).rf
def xN (n d:Int):PV:=if d=0 then CE 3 else .tup [.agg (mkT n d).cells,.int .i64 0]
theorem aAK {C:Ctx} (L:afR C) (n d:Int) (e:dN n) (j:dN d) :
  NA.wp C (aR Ef.res (cB (xN n d))) (PF.args [.int .i64 n,.int .i64 d]) .nil:=by
 simp only[go_sem,NA,Sj,Sk];refine aO fun o l=>?_;unfold xN;by_cases c:d=0
 ·subst c;simp only[go_sem,Sl];refine jJ ?_;simp only[go_sem,Ef]
 ·rw[if_neg c];simp only[go_sem,bE c,Sm];refine aA (L.size n e) rfl ?_;simp only[go_sem];refine aA (L.make n.natAbs Om) rfl ?_;simp only[go_sem];refine aA (L.size d j) rfl ?_;simp only[go_sem];refine aA (L.make d.natAbs Om) rfl ?_;simp only[go_sem];have u:nl n.natAbs≤2:=oX Om;have w:nl d.natAbs≤2:=oX Om;have low:=L.lowest (decide (n<0) != decide (d<0)) (aJ n.natAbs) (aJ d.natAbs) (aU _) (aU _) (by rw[aY]; omega) (by rw[aY]; omega);rw[aS,aS] at low;have low:=low Om Om Om;refine aA low rfl ?_;simp only[go_sem];exact aV (.inr rfl) .nil (vs:=[.agg (mkT n d).cells,.int .i64 0]) (by simp only[go_sem,Ef]; rfl) a_ ⟨.refl _,rfl⟩
structure gq (C:Ctx):Prop extends afR C where
 fmk:∀ n d:Int,dN n→dN d→aG C 50 [.int .i64 n,.int .i64 d] .nil (aI (xN n d))
theorem aeG {C:Ctx} (L:gq C) (n:Int) (u:dN n) :
  TL.wp C (aR aAH.res (cB (.agg (mkT n 1).cells))) (PF.args [.int .i64 n]) .nil:=by
 simp only[go_sem,TL,aeH,aeI,aAH];refine aO fun o w=>?_;simp only[go_sem];refine aA (L.fmk n 1 u (by unfold dN; omega)) rfl ?_;unfold xN;rw[if_neg (by decide)];simp only[go_sem];refine aO fun p l=>?_;have e:o≠p:=by rintro rfl;simp only[aT,if_true] at l;cases l
 have j:p≠o:=fun h=>e h.symm;simp only[go_sem,e,aeJ];refine aV (vs:=[.agg (mkT n 1).cells]) (.inr rfl) .nil ?_ a_ ⟨.refl _,rfl⟩;simp only[go_sem,j]
def aF (l:List Nat) (n a:Nat):Nat × Nat:=if l.length≤a∨n<2 then (0,a) else (l.getD a 0%n,a+1)
theorem cS (l:List Nat) {n:Nat} (h:0<n) (a:Nat):(aF l n a).1<n:=by
 unfold aF;split
 ·exact h
 ·exact aVF _ h
theorem bS (l:List Nat) (n:Nat) {a:Nat} (h:a≤l.length):(aF l n a).2≤l.length:=by
 unfold aF;split
 ·exact h
 ·simp only; omega
def fV (l:List Nat) (a:Nat):RF × Nat :=
 let x:=aF l 6 a
 let y:=aF l 8 x.2
 (mkT ((1+x.1:Nat):Int) ((1+y.1:Nat):Int),y.2)
abbrev kO:RF:=mkT 0 1
def jT (l:List Nat) (i j a:Nat):RF × Nat :=
 if j=i+1 then fV l a
 else if j=i then (kO,a)
 else let t:=aF l 3 a
  if t.1=0 then fV l t.2 else (kO,t.2)
def dX (l:List Nat) (i a:Nat):Nat→List RF × Nat
 | 0=>([],a)
 | j+1=>let s:=dX l i a j
  let z:=jT l i j s.2
  (s.1++[z.1],z.2)
structure DK where
 start:List RF
 exit:List RF
 aRZ:List (List RF)
 left:Nat
 a:Nat
def dW (l:List Nat) (n i:Nat) (s:DK):Nat × Nat:=if i+1<n then aF l (s.left+1) s.a else (s.left,s.a)
def fL (l:List Nat) (n i a:Nat):RF × Nat :=
 let e:=fV l a
 if i+1<n then (let t:=aF l 3 e.2; (if t.1=0 then kO else e.1,t.2)) else e
def gQ (l:List Nat) (n a:Nat):Nat→DK
 | 0=>⟨[],[],[],8,a⟩
 | i+1=>let s:=gQ l n a i
  let k:=dW l n i s
  let e:=fL l n i k.2
  let r:=dX l i e.2 n
  ⟨s.start++[mkT (k.1:Nat) 8],s.exit++[e.1],s.aRZ++[r.1],s.left-k.1,r.2⟩
def rK (l:List Nat) (fD a:Nat):cI × Nat :=
 let t:=aF l fD a
 let s:=gQ l (1+t.1) t.2 (1+t.1)
 (⟨[],s.start,s.aRZ,s.exit⟩,s.a)
def lC (l:List Nat) (a:Nat):Nat→List RF × Nat
 | 0=>([],a)
 | k+1=>let s:=lC l a k
  let z:=fV l s.2
  (s.1++[z.1],z.2)
abbrev cC (n:Nat):List UInt8:=Lib.decDigits n
def jK (l:List Nat) (a:Nat):Nat→List cI × Nat
 | 0=>([],a)
 | k+1=>let s:=jK l a k
  let z:=rK l 2 s.2
  (s.1++[{ z.1 with name:=[108,97,119]++cC k }],z.2)
def eW (l:List Nat) (aSC a:Nat):Nat→List cZ × Nat
 | 0=>([],a)
 | k+1=>let s:=eW l aSC a k
  let x:=aF l 4 s.2
  let y:=aF l 8 x.2
  let z:=aF l aSC y.2
  (s.1++[⟨[109]++cC k,(1+x.1:Nat),(1+y.1:Nat),(z.1:Nat)⟩],z.2)
structure GS where
 aSE:List cN
 aSO:List dQ
 a:Nat
def kL (l:List Nat) (mc aRU e:Nat) (s:GS):Nat→GS
 | 0=>s
 | i+1=>let s:=kL l mc aRU e s i
  if s.aSO.length<aRU then
   let t:=aF l mc s.a
   { s with aSO:=s.aSO++[⟨[100]++cC s.aSO.length,(t.1:Nat),(e:Nat)⟩],a:=t.2 }
  else s
def mE (level:Nat):UInt8:=match level with
 | 0=>45
 | 1=>115
 | 2=>114
 | 3=>107
 | _=>109
def oC (l:List Nat) (level e:Nat) (s:GS):GS :=
 let u:=aF l 16 s.a
 let t:=aF l 3 u.2
 let k:=aF l 6 t.2
 let sh:RF × Nat:=if t.1=0 then (mkT 1 ((2+k.1:Nat):Int),k.2) else (kO,t.2)
 { s with aSE:=s.aSE++[⟨[mE level]++cC s.aSE.length,(level:Nat),(e:Nat),(1+u.1:Nat),sh.1⟩],a:=sh.2 }
def qQ (aRU:Nat) (s:GS):Bool:=decide (aRU≤s.aSO.length)||decide (35≤s.aSE.length)
def hQ (l:List Nat) (level aRU e:Nat) (rec:Nat→GS→GS) (s:GS):Nat→GS
 | 0=>s
 | i+1=>let s:=hQ l level aRU e rec s i
  if qQ aRU s then s else (let s':=oC l level e s; rec (s'.aSE.length-1) s')
def fG (l:List Nat) (mc aRU:Nat):Nat→Nat→GS→GS
 | 0,e,s=>let t:=aF l 2 s.a
  kL l mc aRU e { s with a:=t.2 } (1+t.1)
 | k+1,e,s=>let t:=aF l 2 s.a
  hQ l (4-k) aRU e (fG l mc aRU k) { s with a:=t.2 } (if 4-k=2 then 1 else 1+t.1)
def nE:cN:=⟨[],0,-1,0,kO⟩
def iU (l:List Nat) (a:Nat):Int × Nat :=
 let t:=aF l 3 a
 let k:=aF l 3 t.2
 if t.1=0 then ((1+k.1:Nat),k.2) else (0,t.2)
def mX (l:List Nat) (aRV i a:Nat):dD × Nat :=
 let k:=aF l 2 a
 let m:=aF l 3 k.2
 let h:=aF l 4 m.2
 let q:=aF l (m.1+1) h.2
 let r:=lC l q.2 (max m.1 1)
 let g:=aF l 9 r.2
 let s1:=iU l g.2
 let s2:=iU l s1.2
 let s3:=iU l s2.2
 let s4:=iU l s3.2
 let f:=aF l aRV s4.2
 let b:=aF l 2 f.2
 let ms:List Int × Nat:=if 1<aRV then (if b.1=0 then ([(f.1:Int),1-(f.1:Int)],b.2) else ([(f.1:Int)],b.2)) else ([(f.1:Int)],f.2)
 (⟨[112]++cC i,(1+k.1:Nat),(m.1:Nat),(1+k.1+q.1:Nat),0,s1.1,s2.1,s3.1,s4.1,ms.1,r.1,mkT (g.1:Nat) 8,mkT ((1+h.1:Nat):Int) 1⟩,ms.2)
def eA (l:List Nat) (aRV a:Nat):Nat→List dD × Nat
 | 0=>([],a)
 | k+1=>let s:=eA l aRV a k
  let z:=mX l aRV k s.2
  (s.1++[z.1],z.2)
def eZ (l:List Nat) (pols a:Nat):Nat→List fE × Nat
 | 0=>([],a)
 | k+1=>let s:=eZ l pols a k
  let z:=aF l pols s.2
  (s.1++[⟨[118]++cC k,(z.1:Nat)⟩],z.2)
def jQ (l:List Nat) (aRU aRW a:Nat):aD × Nat :=
 let e:=aF l 2 a
 let u:=aF l 2 e.2
 let aSC:=jK l u.2 (1+u.1)
 let j:=aF l 2 aSC.2
 let aRV:=eW l (1+u.1) j.2 (1+j.1)
 let g:=fG l (1+j.1) aRU 4 0 ⟨[nE],[],aRV.2⟩
 let pl:=aF l 2 g.a
 let pols:=eA l (1+j.1) pl.2 (1+pl.1)
 let w:=aF l (aRW+1) pols.2
 let vols:=eZ l (1+pl.1) w.2 w.1
 (⟨(1+e.1:Nat),aSC.1,aRV.1,g.aSE,g.aSO,pols.1,vols.1⟩,vols.2)
abbrev kU (l:List Nat):List (List PV):=l.map fun (n:Nat)=>[PV.int .u8 (n:Int)]
theorem TG (l:List Nat):(kU l).length=l.length:=by simp
theorem azY (l:List Nat) {i:Nat} (h:i<l.length):(kU l)[i]?=some [.int .u8 (l[i]:Nat)]:=by simp[h]
abbrev bM (v:PV) (a:Nat):bO:=.rows 2 [[v,.int .i64 a]]
structure Tp (l:List Nat) (v:PV):Prop where
 seen:Seen 1 v (kU l)
 byte:∀ x∈l,x<256
 len:l.length≤400
def afQ (l:List Nat) (r:PV) (H:PH):Prop:=∃ o v,r=.ptr o 2 0 0∧Tp (l.take 400) v∧H=PH.nil.set o (bM v 0)
theorem Do {t q s:Nat} {rs:List (List PV)} {F:PF} {H H2:PH} {R:PV→PH→Prop} {v:PV} {e:kT} (he:e=.normal∨e=.ret) (A:F t=some v) (hq:H q=some (.rows s rs)) (x:H2.le (H.frz q s rs)) (y:R (PV.frz q s rs v) H2):aR [.tmp t] R e F H:=by
 have j:∃ vs,dY.evs F H [.tmp t]=some vs∧∃ l w H2,jE (PF.nil.set 0 (bQ vs)) H l w∧H2.le w∧∃ u,l 0=some u∧R u H2:=by refine⟨[v],by rw[lK,oI,A,pK],_,_,H2,.step q hq (.refl _ _),x,PV.frz q s rs v,?_,y⟩;rw[oF,mQ,if_pos rfl,aUO];rfl
 rcases he with rfl | rfl<;>exact j
theorem aEX {C:Ctx} (l:List Nat) (hb:∀ x∈l,x<256) (O:l.length≤9223372036854775807):QU.wp C (aR awT.res (afQ l)) (PF.args [.sl 1 (kU l)]) .nil:=by
 simp only[go_sem,QU,Y8,Y9,awT,aTJ];have fin:∀ F:PF,F 0=some (.sl 1 (kU (l.take 400)))→aC.wp C (.seq (.region th) .ret) (aR [.tmp 2] (afQ l)) F .nil:=by
  intro F f0;have y:(l.take 400).length≤400:=by rw[aUA]; omega
  have w:∀ x∈l.take 400,x<256:=fun x M=>hb x (List.mem_of_mem_take M);have A:∀ o v,Seen 1 v (kU (l.take 400))→afQ l (.ptr o 2 0 0) (PH.nil.set o (bM v 0)):=fun o v K=>⟨o,v,rfl,⟨K,w,y⟩,rfl⟩;generalize N:l.take 400=L at *
  simp only[go_sem,th,f0];refine BV (src:=kU L) rfl ?_ (fun h=>?_) fun h o I=>?_
  ·unfold roomFor;rw[TG];simp only[maxLen]; omega
  ·simp only[go_sem,aTW,aUJ,or_false,forall_eq];refine aO fun o I=>?_;simp only[go_sem];exact aV (vs:=[.ptr o 2 0 0]) (.inr rfl) (PH.nil.set o (bM .aB 0)) rfl b_ (A o .aB (.inl ⟨h,rfl⟩))
  ·simp only[go_sem,aTW,aUJ,or_false,forall_eq];refine aO fun p J=>?_;have e:¬ p=o:=(jR.1 J).1;have j:¬ o=p:=fun h=>e h.symm;simp only[go_sem];refine Do (v:=.ptr p 2 0 0) (q:=o) (s:=1) (rs:=kU L) (H2:=PH.nil.set p (bM (.sl 1 (kU L)) 0)) (.inr rfl) rfl (by simp only[go_sem,j]) (e_ a_ ?_) (A p _ (.inr rfl));have E:(kU L).take L.length=kU L:=aUB (by rw[TG]; exact aTO _);simp only[go_sem,e,bO.frz,PV.cH,aTJ,E];rfl
 simp only[aC.wp,go_sem] at fin;by_cases c:l.length>400
 ·have u:(l.length:Int)>400:=Om;have B:(400:Int)≤(l.length:Int):=Om;simp only[go_sem,u,Za,aTJ,B];refine fin _ ?_;rw[mQ,if_pos rfl];simp[kU]
 ·have u:¬ (l.length:Int)>400:=Om;simp only[go_sem,u];refine fin _ ?_;rw[aUB Om];simp only[go_sem]
def gl (l:List Nat) (v:PV) (o n a:Nat) (r:PV) (H:PH):Prop:=r=.int .i64 ((aF l n a).1:Nat)∧H=PH.nil.set o (bM v (aF l n a).2)
theorem awU {C:Ctx} {l:List Nat} {v:PV} (T:Tp l v) (o n a:Nat) (U:n≤1000000) (R:a≤l.length):yT.wp C (aR D8.res (gl l v o n a)) (PF.args [.ptr o 2 0 0,.int .i64 n]) (PH.nil.set o (bM v a)):=by
 obtain⟨N,hb,S⟩:=T;have zero:(l.length≤a∨n<2)→∀ F,aC.wp C (.seq (.region bz) .ret) (aR [.tmp 4] (gl l v o n a)) F (PH.nil.set o (bM v a)):=by
  intro h F;have e:aF l n a=(0,a):=by unfold aF; rw[if_pos h]
  simp only[go_sem,bz];exact aV (vs:=[.int .i64 0]) (.inr rfl) _ rfl b_ ⟨by rw[e]; rfl,by rw[e]⟩
 simp only[aC.wp,go_sem] at zero;rcases N with ⟨K,rfl⟩ | rfl
 ·have O:l.length=0:=by rw[← TG,K]; rfl
  have x:(a:Int)≥0:=Om;simp only[go_sem,yT,bw,D8];refine bC .nil cX a_ ?_;simp only[go_sem,KG,x];exact zero (.inl Om) _
 simp only[go_sem,yT,bw,D8];refine bC .nil cX a_ ?_;by_cases A:l.length≤a
 ·have j:(a:Int)≥(l.length:Nat):=Om;simp only[go_sem,KG,aTJ,j];exact zero (.inl A) _
 have j:¬ (a:Int)≥(l.length:Nat):=Om;simp only[go_sem,KG,aTJ,j];by_cases B:n<2
 ·have u:(n:Int)<2:=Om;simp only[go_sem,u];exact zero (.inr B) _
 have u:¬ (n:Int)<2:=Om;have w:a<l.length:=Om;have e:aF l n a=(l[a]%n,a+1):=by unfold aF;rw[if_neg Om];simp[aTR,w]
 have J:IntKind.i64.wrap ((a:Int)+1)=((a+1:Nat):Int):=dM Om;have I:IntKind.i64.wrap (((a+1:Nat):Int)-1)=((a:Nat):Int):=by rw[wrap_i64 Om Om]; omega
 have M:=azY l w;have V:=hb _ (aTN w);have E:IntKind.i64.wrap ((l[a]:Nat):Int)=((l[a]:Nat):Int):=fq Om;have y:¬ ((n:Nat):Int)=0:=Om;have em:Int.tmod ((l[a]:Nat):Int) ((n:Nat):Int)=((l[a]%n:Nat):Int):=rfl;simp only[go_sem,u,Mp,J];refine bC .nil cX a_ ?_;simp only[go_sem,Mq,I,M,E,y,em];exact aV (vs:=[.int .i64 (l[a]%n:Nat)]) (.inr rfl) _ rfl b_ ⟨by rw[e]; rfl,by rw[e]⟩
def PV.oid:PV→Option Nat
 | .osl q _ _ _=>some q
 | _=>none
abbrev LI:=PV × Nat × List (List PV)
abbrev BX:=Nat × bO
def eD (B:List BX):List Nat:=B.map (·.1)
def dP (L:List LI):List Nat:=L.filterMap fun x=>x.1.oid
structure aM (H:PH) (B:List BX) (L:List LI):Prop where
 box:∀ b∈B,H b.1=some b.2
 lst:∀ x∈L,cA H x.2.1 x.1 x.2.2
 nd:(eD B++dP L).Nodup
section
variable {C:Ctx} {H:PH} {B:List BX} {L:List LI} {K:PV→PH→Prop}
theorem cA.id {s q:Nat} {v:PV} {rows:List (List PV)} (h:cA H s v rows) (hq:v.oid=some q):∃ rs,H q=some (.rows s rs)∧v=.osl q s 0 rows.length∧rows.length≤rs.length∧rs.take rows.length=rows:=by
 rcases h with ⟨_,rfl⟩ | ⟨p,rs,rfl,h1,h2,h3⟩
 ·cases hq
 ·cases hq;exact⟨rs,h1,rfl,h2,h3⟩
theorem cA.same {s:Nat} {v:PV} {rows:List (List PV)} {H':PH} (h:cA H s v rows) (e:∀ q,v.oid=some q→H' q=H q):cA H' s v rows:=by
 rcases h with h | ⟨p,rs,rfl,h1,h2,h3⟩
 ·exact .inl h
 ·exact .inr ⟨p,rs,rfl,by rw[e p rfl]; exact h1,h2,h3⟩
theorem mN {x:LI} {q:Nat} (h:x∈L) (hq:x.1.oid=some q):q∈dP L:=List.mem_filterMap.2 ⟨x,h,hq⟩
theorem vP {b:BX} (h:b∈B):b.1∈eD B:=aUK.2 ⟨b,h,rfl⟩
theorem aM.nil:aM H [] []:=⟨by simp,by simp,by simp[eD,dP]⟩
theorem aM.at (h:aM H B L) (i:Nat) {o:Nat} {x:bO} (hi:B[i]?=some (o,x)):H o=some x:=h.box _ (aVH hi)
theorem aM.own (h:aM H B L) (i:Nat) {s:Nat} {v:PV} {rows:List (List PV)} (hi:L[i]?=some (v,s,rows)):cA H s v rows:=h.lst _ (aVH hi)
theorem aM.ndB (h:aM H B L):(eD B).Nodup:=(aWG.1 h.nd).1
theorem aM.ndL (h:aM H B L):(dP L).Nodup:=(aWG.1 h.nd).2.1
theorem aM.ndX (h:aM H B L) {o q:Nat} (e:o∈eD B) (hq:q∈dP L):o≠q:=(aWG.1 h.nd).2.2 o e q hq
theorem aM.ne (h:aM H B L) (i j:Nat) {o p:Nat} {x y:bO} (hi:B[i]?=some (o,x)) (M:B[j]?=some (p,y)) (l:i≠j):o≠p:=by
 intro e;have I:(eD B)[i]?=some o:=by unfold eD; rw[aUG,hi]; rfl
 have J:(eD B)[j]?=some p:=by unfold eD; rw[aUG,M]; rfl
 obtain⟨E,u⟩:=aUN.1 I;obtain⟨F,w⟩:=aUN.1 J;have A:=List.pairwise_iff_getElem.1 h.ndB;rcases Nat.lt_or_gt_of_ne l with g | g
 ·exact A i j E F g (by rw[u,w,e])
 ·exact A j i F E g (by rw[u,w,e])
theorem aM.neL (h:aM H B L) (i j:Nat) {o q:Nat} {x:bO} {y:LI} (hi:B[i]?=some (o,x)) (e:L[j]?=some y) (hq:y.1.oid=some q):o≠q :=
 h.ndX (vP (aVH hi)) (mN (aVH e) hq)
theorem aM.fresh (h:aM H B L) {o:Nat} (j:H o=none):o ∉ eD B∧o ∉ dP L:=by
 refine⟨fun l=>?_,fun l=>?_⟩
 ·obtain⟨b,hb,rfl⟩:=aUK.1 l;rw[h.box b hb] at j; cases j
 ·obtain⟨x,w,e⟩:=List.mem_filterMap.1 l;obtain⟨rs,u,_⟩:=(h.lst x w).id e;rw[u] at j; cases j
theorem aM.keep (h:aM H B L) {H':PH} (e:∀ q,q∈eD B∨q∈dP L→H' q=H q):aM H' B L :=
 ⟨fun b hb=>by rw[e _ (.inl (vP hb))]; exact h.box b hb,fun x j=>(h.lst x j).same fun q hq=>e q (.inr (mN j hq)),h.nd⟩
theorem avK {i:Nat} {o:Nat} {x y:bO} (hi:B[i]?=some (o,x)):eD (B.set i (o,y))=eD B:=by
 unfold eD;rw[List.map_set];refine List.ext_getElem? fun j=>?_;rw[aXF];split
 ·rename_i e;subst e;rw[aUG,hi];have:=(aUN.1 hi).1;simp[this]
 ·rfl
theorem aM.set (h:aM H B L) (i:Nat) {o:Nat} {x:bO} (hi:B[i]?=some (o,x)) (y:bO):aM (H.set o y) (B.set i (o,y)) L:=by
 have w:o∈eD B:=vP (aVH hi);refine⟨fun b hb=>?_,fun z A=>(h.lst z A).same fun q hq=>?_,by rw[avK hi]; exact h.nd⟩
 ·obtain⟨j,l⟩:=List.mem_iff_getElem?.1 hb;rw[aXF] at l;split at l
  ·split at l
   ·cases l; simp only[aT,if_true]
   ·cases l
  ·rename_i u;have:b.1≠o:=fun e=>h.ne i j hi (show B[j]?=some (b.1,b.2) from l) u e.symm;rw[aT,if_neg this];exact h.box b (aVH l)
 ·have:q≠o:=fun e=>h.ndX w (mN A hq) e.symm;rw[aT,if_neg this]
theorem aM.new (h:aM H B L) {o:Nat} (u:H o=none) (y:bO):aM (H.set o y) (B++[(o,y)]) L:=by
 obtain⟨f1,f2⟩:=h.fresh u;refine⟨fun b hb=>?_,fun z l=>(h.lst z l).same fun q hq=>?_,?_⟩
 ·rw[aUR,aUY] at hb;rcases hb with hb | rfl
  ·have:b.1≠o:=fun e=>f1 (e ▸ vP hb);rw[aT,if_neg this]; exact h.box b hb
  ·simp only[aT,if_true]
 ·have:q≠o:=fun e=>f2 (e ▸ mN l hq);rw[aT,if_neg this]
 ·have:=h.nd;simp only[eD,aUX,aUQ,aVZ] at *
  rw[aUP,aWG] at *
  obtain⟨a,b,c⟩:=this;refine⟨a,?_,fun p j q hq=>?_⟩
  ·rw[List.singleton_append,List.nodup_cons]; exact⟨f2,b⟩
  ·rw[List.singleton_append,aTW] at hq;rcases hq with rfl | hq
   ·intro e; subst e; exact f1 j
   ·exact c p j q hq
theorem mB (L1 L2:List LI):dP (L1++L2)=dP L1++dP L2:=List.filterMap_append ..
theorem aM.kS (h:aM H B L) (s:Nat):aM H B (L++[(.aB,s,[])]):=by
 refine⟨h.box,fun z e=>?_,?_⟩
 ·rw[aUR,aUY] at e;rcases e with e | rfl
  ·exact h.lst z e
  ·exact .nil
 ·rw[mB,show dP [((.aB:PV),s,([]:List (List PV)))]=[] from rfl,aVC]; exact h.nd
theorem aM.t6 (h:aM H B L) {o s:Nat} {rows:List (List PV)} (l:H o=none):aM (H.set o (.rows s rows)) B (L++[(.osl o s 0 rows.length,s,rows)]):=by
 obtain⟨f1,f2⟩:=h.fresh l;have j:=h.keep (H':=H.set o (.rows s rows)) fun q hq=>by
  have:q≠o:=by rintro rfl; exact hq.elim f1 f2
  rw[aT,if_neg this]
 refine⟨j.box,fun z e=>?_,?_⟩
 ·rw[aUR,aUY] at e;rcases e with e | rfl
  ·exact j.lst z e
  ·exact .inr ⟨o,rows,rfl,by simp only[aT,if_true],aTO _,aUS⟩
 ·rw[mB,show dP [((.osl o s 0 rows.length:PV),s,rows)]=[o] from rfl,← aUP,aWG];refine⟨h.nd,by simp,fun p hp q hq=>?_⟩;rw[aUY] at hq;subst hq;rintro rfl;rcases aUR.1 hp with hp | hp
  ·exact f1 hp
  ·exact f2 hp
theorem Kh {i:Nat} {v v':PV} {s s':Nat} {rows rows':List (List PV)} (hi:L[i]?=some (v,s,rows)):∃ L1 L2,L=L1++(v,s,rows)::L2∧L.set i (v',s',rows')=L1++(v',s',rows')::L2:=by
 obtain⟨e,he⟩:=aUN.1 hi;refine⟨L.take i,L.drop (i+1),?_,?_⟩
 ·rw[← he,← aVV e,aWH]
 ·rw[List.set_eq_take_append_cons_drop,if_pos e]
theorem aM.MF (h:aM H B L) (i:Nat) {s:Nat} {v:PV} {rows:List (List PV)} (hi:L[i]?=some (v,s,rows)) {s':Nat} {v':PV} {rows':List (List PV)} {H':PH} (R:cA H' s' v' rows')
  (I:∀ q,v'.oid=some q→v.oid=some q∨H q=none) (O:∀ q,q∈eD B∨q∈dP L→(∀ p,v.oid=some p→q≠p)→H' q=H q):aM H' B (L.set i (v',s',rows')):=by
 obtain⟨L1,L2,M,N⟩:=Kh (v':=v') (s':=s') (rows':=rows') hi;rw[N];subst M;have j:=h.nd;have E:dP (L1++(v,s,rows)::L2)=dP L1++(v.oid.toList++dP L2):=by rw[mB];congr 1;unfold dP;rw[List.filterMap_cons];cases e:v.oid<;>simp
 have F:dP (L1++(v',s',rows')::L2)=dP L1++(v'.oid.toList++dP L2):=by rw[mB];congr 1;unfold dP;rw[List.filterMap_cons];cases e:v'.oid<;>simp
 rw[E] at j;have x:∀ q,q∈eD B∨q∈dP L1∨q∈dP L2→∀ p,v.oid=some p→q≠p:=by
  intro q hq p w e;subst e;rw[w] at j;simp only[Option.toList_some] at j;rw[aWG] at j;obtain⟨a,b,c⟩:=j;rw[aWG] at b;obtain⟨J,y,A⟩:=b;rw[List.singleton_append,List.nodup_cons] at y;rcases hq with hq | hq | hq
  ·exact c q hq q (by simp) rfl
  ·exact A q hq q (by simp) rfl
  ·exact y.1 hq
 have l:∀ q,q∈eD B∨q∈dP L1∨q∈dP L2→H' q=H q:=by
  intro q hq;refine O q ?_ (x q hq);rw[E];simp only[aUR];rcases hq with hq | hq | hq
  ·exact .inl hq
  ·exact .inr (.inl hq)
  ·exact .inr (.inr (.inr hq))
 refine⟨fun b hb=>by rw[l _ (.inl (vP hb))]; exact h.box b hb,fun z hz=>?_,?_⟩
 ·rw[aUR,aTW] at hz;rcases hz with hz | rfl | hz
  ·exact (h.lst z (by simp[hz])).same fun q hq=>l q (.inr (.inl (mN hz hq)))
  ·exact R
  ·exact (h.lst z (by simp[hz])).same fun q hq=>l q (.inr (.inr (mN hz hq)))
 ·rw[F];cases e:v'.oid with
  | none =>simp only[Option.toList_none,aWP];refine List.Nodup.sublist ?_ j;exact aVO.append (aVO.refl _) (aVO.append (aVO.refl _) (List.sublist_append_right _ _))
  | some q =>
   rcases I q e with S | hn
   ·rw[S] at j;exact j
   ·obtain⟨f1,f2⟩:=h.fresh hn;rw[E] at f2;simp only[aUR,not_or] at f2;have u:(eD B++(dP L1++dP L2)).Nodup:=List.Nodup.sublist (aVO.append (aVO.refl _) (aVO.append (aVO.refl _) (List.sublist_append_right _ _))) j;simp only[Option.toList_some];rw[aWG] at u ⊢;obtain⟨a,b,c⟩:=u;rw[aWG] at b;obtain⟨J,y,A⟩:=b;refine⟨a,?_,?_⟩
    ·rw[aWG];refine⟨J,by rw[List.singleton_append,List.nodup_cons]; exact⟨f2.2.2,y⟩,fun p w r hr=>?_⟩;rw[List.singleton_append,aTW] at hr;rcases hr with rfl | hr
     ·rintro rfl; exact f2.1 w
     ·exact A p w r hr
    ·intro p w r hr;rw[aUR,List.singleton_append,aTW] at hr;rcases hr with hr | rfl | hr
     ·exact c p w r (by simp[hr])
     ·rintro rfl; exact f1 w
     ·exact c p w r (by simp[hr])
theorem aM.append (h:aM H B L) (i:Nat) {s b:Nat} {v y:PV} {rows src:List (List PV)} (hi:L[i]?=some (v,s,rows)) (E:eR H s y=some src) (A:roomFor rows.length src.length b)
  (w:∀ v' H',aM H' B (L.set i (v',s,rows++src))→(src≠[]→∃ q,v'=.osl q s 0 (rows++src).length)→K v' H'):lM H s b v y K:=by
 rcases h.own i hi with ⟨rfl,rfl⟩ | ⟨q,rs,rfl,h1,h2,h3⟩
 ·refine⟨src,E,A,fun e=>?_,fun e o u=>?_⟩
  ·subst e;refine w _ _ ?_ fun h=>absurd rfl h;exact h.MF i hi (.inl ⟨rfl,rfl⟩) (fun q hq=>by cases hq) fun q _ _=>rfl
  ·refine w _ _ (h.MF i hi (.inr ⟨o,src,rfl,by simp only[aT,if_true],aTO _,aUS⟩) (fun q hq=>by cases hq; exact .inr u) fun q hq _=>?_) fun _=>⟨o,rfl⟩;obtain⟨f1,f2⟩:=h.fresh u;have:q≠o:=by rintro rfl; exact hq.elim f1 f2
   rw[aT,if_neg this]
 ·have j:(rows++src).length=rows.length+src.length:=aTM;refine⟨src,E,rfl,rfl,A,rs,h1,h2,?_,fun o u=>?_⟩
  ·rw[h3];refine w _ _ (h.MF i hi (.inr ⟨q,rows++src,by rw[j],by simp only[aT,if_true],aTO _,aUS⟩) (fun p l=>by cases l; exact .inl rfl) fun p _ l=>?_) fun _=>⟨q,by rw[j]⟩;rw[aT,if_neg (l q rfl)]
  ·rw[h3];refine w _ _ (h.MF i hi (.inr ⟨o,rows++src,by rw[j],by simp only[aT,if_true],aTO _,aUS⟩) (fun p l=>by cases l; exact .inr u) fun p x l=>?_) fun _=>⟨o,by rw[j]⟩;obtain⟨f1,f2⟩:=h.fresh u;have F:p≠o:=by rintro rfl; exact x.elim f1 f2
   rw[aT,if_neg F]
theorem aM.sub (h:aM H B L) {B':List BX} {L':List LI} (hB:B'.Sublist B) (e:L'.Sublist L):aM H B' L' :=
 ⟨fun b hb=>h.box b (hB.subset hb),fun x j=>h.lst x (e.subset j),List.Nodup.sublist (aVO.append (hB.map _) (e.filterMap _)) h.nd⟩
theorem aM.wI (h:aM H B L) (i:Nat):aM H (B.eraseIdx i) L:=h.sub (List.eraseIdx_sublist ..) (aVO.refl _)
theorem aM.ik (h:aM H B L) (i:Nat):aM H B (L.eraseIdx i):=h.sub (aVO.refl _) (List.eraseIdx_sublist ..)
end
section
variable {C:Ctx} {F:PF} {H:PH} {B:List BX} {L:List LI}
theorem aM.AG (h:aM H B L) {q:Nat} (hq:q∈eD B∨q∈dP L):∃ x,H q=some x:=by
 rcases hq with hq | hq
 ·obtain⟨b,hb,rfl⟩:=aUK.1 hq;exact⟨_,h.box b hb⟩
 ·obtain⟨x,l,e⟩:=List.mem_filterMap.1 hq;obtain⟨rs,j,_⟩:=(h.lst x l).id e;exact⟨_,j⟩
theorem aM.perm (h:aM H B L) {B':List BX} {L':List LI} (hB:B.Perm B') (e:L.Perm L'):aM H B' L' :=
 ⟨fun b hb=>h.box b (hB.mem_iff.2 hb),fun x j=>h.lst x (e.mem_iff.2 j),(aVX.nodup_iff ((hB.map _).append (e.filterMap _))).1 h.nd⟩
theorem aM.only (h:aM H B L) {B1:List BX} {L1:List LI} (hB:B1.Sublist B) (e:L1.Sublist L):aM (H.only (eD B1++dP L1)) B1 L1:=by
 refine (h.sub hB e).keep fun q hq=>?_;rw[rA];rw[if_pos (aUR.2 hq)]
theorem aJJ {a b c d:List Nat} (j:(a++c).Nodup) (l:(b++d).Nodup) (u:∀ q,q∈a∨q∈c→q∈b∨q∈d→False):((a++b)++(c++d)).Nodup:=by
 have e:aVX ((a++b)++(c++d)) ((a++c)++(b++d)):=by rw[aUP,aUP];exact aVX.append_left a (by rw[← aUP,← aUP]; exact aVX.append_right d List.perm_append_comm)
 rw[e.nodup_iff,aWG];refine⟨j,l,fun p w q hq=>?_⟩;rintro rfl;exact u p (aUR.1 w) (aUR.1 hq)
theorem aM.frame {H':PH} {B1 B2 B':List BX} {L1 L2 L':List LI} (h:aM H (B1++B2) (L1++L2)) (w:aM H' B' L') (J:lS H (H.only (eD B1++dP L1)) H'):aM (H.over (H.only (eD B1++dP L1)) H') (B'++B2) (L'++L2):=by
 have E:aM H B2 L2:=h.sub (List.sublist_append_right ..) (List.sublist_append_right ..);have l:∀ q,q∈eD B2∨q∈dP L2→¬ (q∈eD B1++dP L1):=by
  intro q hq K;have j:=h.nd;rw[show eD (B1++B2)=eD B1++eD B2 from aUX,mB] at j;have e:aVX ((eD B1++eD B2)++(dP L1++dP L2)) ((eD B1++dP L1)++(eD B2++dP L2)):=by rw[aUP,aUP];exact aVX.append_left _ (by rw[← aUP,← aUP]; exact aVX.append_right _ List.perm_append_comm)
  rw[e.nodup_iff,aWG] at j;exact j.2.2 q K q (aUR.2 hq) rfl
 have new:∀ q,q∈eD B'∨q∈dP L'→(H.over (H.only (eD B1++dP L1)) H') q=H' q:=by intro q hq;obtain⟨x,hx⟩:=w.AG hq;rw[pH,hx]
 have I:∀ q,q∈eD B2∨q∈dP L2→(H.over (H.only (eD B1++dP L1)) H') q=H q:=by
  intro q hq;obtain⟨x,hx⟩:=E.AG hq;have A:(H.only (eD B1++dP L1)) q=none:=by rw[rA,if_neg (l q hq)]
  rw[pH];cases e:H' q with
  | none=>simp only[A]
  | some y =>have:=J q y e A;rw[hx] at this; cases this
 have k1:=w.keep new;have k2:=E.keep I;refine⟨fun b hb=>?_,fun x hx=>?_,?_⟩
 ·rcases aUR.1 hb with hb | hb
  ·exact k1.box b hb
  ·exact k2.box b hb
 ·rcases aUR.1 hx with hx | hx
  ·exact k1.lst x hx
  ·exact k2.lst x hx
 ·rw[show eD (B'++B2)=eD B'++eD B2 from aUX,mB];refine aJJ w.nd E.nd fun q hq u=>?_;obtain⟨x,hx⟩:=w.AG hq;obtain⟨y,M⟩:=E.AG u;have A:(H.only (eD B1++dP L1)) q=none:=by rw[rA,if_neg (l q u)]
  have:=J q x hx A;rw[M] at this; cases this
theorem FX {name:Nat} {vs:List PV} {args:List aN} {d:Option Nat} {K:PF→PH→Prop} {B1 B2:List BX} {L1 L2:List LI} {Q:PV→List BX→List LI→Prop} (h:aM H (B1++B2) (L1++L2))
  (w:∀ j,aM j B1 L1→aG C name vs j (fun r H'=>∃ B' L',Q r B' L'∧aM H' B' L')) (u:aN.evs F args=some vs)
  (x:∀ r B' L' H',Q r B' L'→aM H' (B'++B2) (L'++L2)→K (F.put d r) H'):hC C name args [] d K F H:=by
 refine eO (w (H.only (eD B1++dP L1)) (h.only (aXG ..) (aXG ..))) u (UV H _) ?_;rintro r H' ⟨B',L',hq,l⟩ e;exact x r B' L' _ hq (h.frame l e)
theorem aM.mG {B:List BX} {o:Nat} {x:bO} (h:aM H (B++[(o,x)]) L):H o=some x:=h.box (o,x) (by simp)
theorem aM.rG {B:List BX} {o:Nat} {x:bO} (h:aM H (B++[(o,x)]) L) (y:bO):aM (H.set o y) (B++[(o,y)]) L:=by
 have:=h.set B.length (o:=o) (x:=x) (by simp) y
 rwa [aWZ _ _ (aTO _),Nat.sub_self] at this
theorem aM.dropLast {B:List BX} {b:BX} (h:aM H (B++[b]) L):aM H B L:=h.sub (aXG ..) (aVO.refl _)
theorem aM.aGP {B:List BX} {o:Nat} {x:bO} (h:aM H ((o,x)::B) L) (y:bO):aM (H.set o y) ((o,y)::B) L:=h.set 0 rfl y
theorem aM.aIT {B:List BX} {o:Nat} {x:bO} (h:aM H ((o,x)::B) L):H o=some x:=h.at 0 rfl
theorem nN {name o:Nat} {x y:bO} {r:PV} {vs:List PV} {args:List aN} {d:Option Nat} {K:PF→PH→Prop} (h:aG C name vs (PH.nil.set o x) (fun e H'=>e=r∧H'=PH.nil.set o y)) (u:H o=some x) (j:aN.evs F args=some vs)
  (l:K (F.put d r) (H.set o y)):hC C name args [] d K F H:=by
 refine eO h j (e_ a_ u) ?_;rintro e H' ⟨rfl,rfl⟩ -;rw[PH.qH];exact l
theorem atP {Hs:PH} {S:Spec} {name o:Nat} {x y:bO} {r:PV} {vs:List PV} {R:PH→PV→PH→Prop} {args:List aN} {st:Bool} {d:Option Nat} {K:PF→PH→Prop} (N:S name vs=some ([o],R)) (M:H o=some x)
  (h:aG C name vs (PH.nil.set o x) (fun j H'=>j=r∧H'=PH.nil.set o y)) (l:R (PH.nil.set o x) r (PH.nil.set o y)) (A:∀ j H',R (PH.nil.set o x) j H'→j=r∧H'=PH.nil.set o y) (O:aN.evs F args=some vs)
  (E:Hs.le (H.set o y)) (U:K (F.put d r) (H.set o y)):dOp C Hs S st (.call name args) d K F H:=by
 have e:=Og M;refine⟨vs,[o],_,O,N,fun q hq=>?_,?_,fun G=>⟨r,_,by rw[e]; exact l,fun q z J w=>?_⟩,fun j H' u _=>?_⟩
 ·simp at hq; subst hq; exact⟨x,M⟩
 ·rw[e];exact h.post fun j H' u=>⟨j,.refl _,by rw[u.1,u.2]; exact l⟩
 ·rw[e] at w;rw[aT] at J w;split at w
  ·cases w
  ·rename_i I;rw[if_neg I] at J; cases J
 ·rw[e] at u;obtain⟨rfl,rfl⟩:=A j H' u;rw[e,PH.qH];exact⟨E,U⟩
theorem ayZ {s:Nat} {q z:Nat} {rs:List (List PV)} {v:PV} {rows:List (List PV)} (h:cA H s v rows) (l:v.oid≠some q):cA (H.frz q z rs) s v (rows.map fun r=>r.map (PV.cH q z rs)):=by
 rcases h with ⟨rfl,rfl⟩ | ⟨p,rs',rfl,h1,h2,h3⟩
 ·exact .inl ⟨rfl,rfl⟩
 ·have j:¬ p=q:=fun e=>l (by rw[e]; rfl);refine .inr ⟨p,rs'.map fun r=>r.map (PV.cH q z rs),by rw[aTJ],?_,by simpa using h2,?_⟩
  ·rw[zY,if_neg j,h1]; rfl
  ·rw[aTJ,← List.map_take,h3]
theorem aM.frz (h:aM H B L) (i:Nat) {q s k:Nat} {rows:List (List PV)} (hi:L[i]?=some (.osl q s 0 k,s,rows)):∃ rs,H q=some (.rows s rs)∧PV.cH q s rs (.osl q s 0 k)=.sl s rows∧PV.frz q s rs (.osl q s 0 k)=.sl s rows∧(∀ j x,j≠i→L[j]?=some x→PV.cH q s rs x.1=x.1) ∧
  aM (H.frz q s rs) (B.map fun b=>(b.1,b.2.frz q s rs)) ((L.eraseIdx i).map fun x=>(x.1,x.2.1,x.2.2.map fun r=>r.map (PV.cH q s rs))):=by
 obtain⟨rs,U,V,W,X⟩:=(h.own i hi).id rfl;injection V with _ _ _ hk
 subst hk;have e:PV.frz q s rs (.osl q s 0 rows.length)=.sl s rows:=by rw[vK W,X]
 refine⟨rs,U,e,e,?_⟩;refine⟨fun j x J R=>?_,?_⟩
 ·have u:x.1.oid≠some q:=by
   intro u;obtain⟨K,he⟩:=aUN.1 hi;obtain⟨α,Y⟩:=aUN.1 R;have w:x∈L.eraseIdx i:=List.mem_eraseIdx_iff_getElem?.2 ⟨j,J,R⟩;have l:=h.ndL;have N:L=L.take i++(L[i]::L.drop (i+1)):=by rw[← aVV K,aWH]
   rw[List.eraseIdx_eq_take_drop_succ] at w;rw[N,mB] at l;have I:dP (L[i]::L.drop (i+1))=q::dP (L.drop (i+1)):=by rw[he]; rfl
   rw[I,aWG] at l;obtain⟨a,b,c⟩:=l;rcases aUR.1 w with hx | hx
   ·exact c q (mN hx u) q (by simp) rfl
   ·exact (List.nodup_cons.1 b).1 (mN hx u)
  cases hx:x.1<;>try rfl
  rename_i p z β len;have:¬ p=q:=fun e=>u (by rw[hx,e]; rfl);simp only[PV.cH,if_neg this]
 obtain⟨L1,L2,e1,e2⟩:=Kh (v':=.aB) (s':=s) (rows':=rows) hi;have Z:i=L1.length∨True:=.inr trivial;have y:(L.eraseIdx i).Sublist L:=List.eraseIdx_sublist ..;have M:∀ x∈L.eraseIdx i,x.1.oid≠some q:=by
  intro x hx u;obtain⟨K,he⟩:=aUN.1 hi;have l:=h.ndL;have N:L=L.take i++(L[i]::L.drop (i+1)):=by rw[← aVV K,aWH]
  rw[List.eraseIdx_eq_take_drop_succ] at hx;rw[N,mB] at l;have I:dP (L[i]::L.drop (i+1))=q::dP (L.drop (i+1)):=by rw[he]; rfl
  rw[I,aWG] at l;obtain⟨a,b,c⟩:=l;rcases aUR.1 hx with hx | hx
  ·exact c q (mN hx u) q (by simp) rfl
  ·exact (List.nodup_cons.1 b).1 (mN hx u)
 refine⟨fun b hb=>?_,fun x hx=>?_,?_⟩
 ·obtain⟨O,A,rfl⟩:=aUK.1 hb;have:¬ O.1=q:=h.ndX (vP A) (mN (aVH hi) rfl);simp only;rw[zY,if_neg this,h.box O A]; rfl
 ·obtain⟨S,E,rfl⟩:=aUK.1 hx;exact ayZ (h.lst S (y.subset E)) (M S E)
 ·have i1:eD (B.map fun b=>(b.1,b.2.frz q s rs))=eD B:=by unfold eD; rw[aWO]; rfl
  have i2:dP ((L.eraseIdx i).map fun x=>(x.1,x.2.1,x.2.2.map fun r=>r.map (PV.cH q s rs)))=dP (L.eraseIdx i):=by unfold dP; rw[List.filterMap_map]; rfl
  rw[i1,i2];exact List.Nodup.sublist (aVO.append (aVO.refl _) (y.filterMap _)) h.nd
def Flat (rows:List (List PV)):Prop:=∀ q s rs,rows.map (fun r=>r.map (PV.cH q s rs))=rows
theorem Flat.nil:Flat []:=fun _ _ _=>rfl
theorem Flat.of {rows:List (List PV)} (h:∀ r∈rows,∀ c∈r,∀ q s rs,PV.cH q s rs c=c):Flat rows:=fun q s rs=>by
 conv=>rhs; rw[← List.map_id rows]
 refine aVN fun r j=>?_
 conv=>rhs; rw[id,← List.map_id r]
 exact aVN fun c e=>h r j c e q s rs
theorem Flat.map {α:Type} {f:α→List PV} (l:List α) (h:∀ x,∀ c∈f x,∀ q s rs,PV.cH q s rs c=c):Flat (l.map f):=Flat.of fun r e=>by
 obtain⟨x,_,rfl⟩:=aUK.1 e;exact h x
theorem Flat.append {r1 r2:List (List PV)} (e:Flat r1) (j:Flat r2):Flat (r1++r2):=fun q s rs=>by rw[aUX,e,j]
theorem aM.flat {φ:PV→List (List PV)} (h:aM H B L):aM H B L:=h
def oR (v:PV) (H:PH) (R:PV→PH→Prop):Prop:=∃ e j H2,jE (PF.nil.set 0 v) H e j∧H2.le j∧∃ u,e 0=some u∧R u H2
theorem oR.done {v:PV} {H2:PH} {R:PV→PH→Prop} (j:R v H2) (e:H2.le H):oR v H R:=⟨_,_,H2,.refl _ _,e,v,by rw[mQ,if_pos rfl],j⟩
theorem oR.step {v:PV} {q s:Nat} {rs:List (List PV)} {R:PV→PH→Prop} (hq:H q=some (.rows s rs)) (h:oR (PV.frz q s rs v) (H.frz q s rs) R):oR v H R:=by
 obtain⟨j,l,H2,u,w,x⟩:=h;have e:(PF.nil.set 0 v).frz q s rs=PF.nil.set 0 (PV.frz q s rs v):=by funext i;rw[oF,mQ,mQ];split<;>rfl
 exact⟨j,l,H2,.step q hq (by rw[e]; exact u),w,x⟩
theorem oH {res:List dY} {R:PV→PH→Prop} {vs:List PV} {e:kT} (he:e=.normal∨e=.ret) (h:dY.evs F H res=some vs) (x:oR (bQ vs) H R):aR res R e F H:=by
 have j:∃ vs,dY.evs F H res=some vs∧∃ l w H2,jE (PF.nil.set 0 (bQ vs)) H l w∧H2.le w∧∃ u,l 0=some u∧R u H2:=⟨vs,h,x⟩;rcases he with rfl | rfl<;>exact j
theorem IL {u:PV} (h:u.oid=none) (q s:Nat) (rs:List (List PV)):PV.cH q s rs u=u:=by
 cases u<;>first | rfl | (simp[PV.oid] at h)
theorem Seen.co {s:Nat} {v:PV} {rows:List (List PV)} (h:Seen s v rows):Co v (.sl s rows):=by
 rcases h with ⟨rfl,rfl⟩ | rfl
 ·exact .nil s
 ·exact .refl _
theorem aM.giveUp:∀ (L:List LI) {H:PH} {B:List BX},aM H B L→(∀ x∈L,Flat x.2.2)→(∀ b∈B,∀ q s rs,bO.frz q s rs b.2=b.2) →
  ∃ (φ:PV→PV) (y:PH),(∀ x∈L,Seen x.2.1 (φ x.1) x.2.2)∧(∀ u,u.oid=none→φ u=u)∧aM y B []∧∀ cs R,oR (.agg (cs.map φ)) y R→oR (.agg cs) H R
 | [],H,B,h,_,_=>⟨id,H,by simp,fun _ _=>rfl,h,fun cs R I=>by rwa [List.map_id] at I⟩
 | (w,s,rows)::L,H,B,h,E,hB=>by
  have l:∀ q z rs,(L.map fun x=>(x.1,x.2.1,x.2.2.map fun r=>r.map (PV.cH q z rs)))=L:=fun q z rs=>by
   conv=>rhs; rw[← List.map_id L]
   refine aVN fun x hx=>?_;rw[E x (by simp[hx]) q z rs]; rfl
  rcases h.own 0 rfl with ⟨A,S⟩ | ⟨q,rs,A,_⟩
  ·obtain⟨φ,y,k1,k2,J,K⟩:=aM.giveUp L (h.ik 0) (fun x hx=>E x (by simp[hx])) hB;refine⟨φ,y,fun x hx=>?_,k2,J,K⟩;rw[aTW] at hx;rcases hx with rfl | hx
   ·exact .inl ⟨A,by simp only; rw[S]; exact k2 _ rfl⟩
   ·exact k1 x hx
  ·subst A;obtain⟨rs,V,W,Z,X,N⟩:=h.frz 0 rfl;have Y:aM (H.frz q s rs) B L:=by
    have O:(B.map fun b=>(b.1,b.2.frz q s rs))=B:=by
     conv=>rhs; rw[← List.map_id B]
     refine aVN fun b hb=>?_;rw[hB b hb q s rs]; rfl
    rw[O] at N;have:=N;simp only[List.eraseIdx_cons_zero] at this
    rwa [l q s rs] at this
   obtain⟨φ,y,k1,k2,J,K⟩:=aM.giveUp L Y (fun x hx=>E x (by simp[hx])) hB;refine⟨fun u=>φ (PV.cH q s rs u),y,fun x hx=>?_,fun u M=>?_,J,fun cs R I=>?_⟩
   ·rw[aTW] at hx;rcases hx with rfl | hx
    ·simp only;rw[W];exact .inr (k2 _ rfl)
    ·obtain⟨j,U⟩:=List.mem_iff_getElem?.1 hx;have:=X (j+1) x Om (by simpa using U);simp only;rw[this];exact k1 x hx
   ·simp only;rw[IL M,k2 u M]
   ·refine .step V ?_;have e:PV.frz q s rs (.agg cs)=.agg (cs.map (PV.cH q s rs)):=rfl;rw[e];refine K _ R ?_;rw[aWO];exact I
theorem QK {K:cE} {α:Type} {e:α→PF} {Hs:α→PH} {j:α→Prop} {m:α→Nat} {n q s:Nat} {rs:List (List PV)} (a:α) (hq:H q=some (.rows s rs)) (l:j a) (x:m a<n) (u:(e a).le (F.frz q s rs)) (w:(Hs a).le (H.frz q s rs)):fN e Hs j m n K .normal F H :=
 ⟨a,_,_,.step q hq (.refl _ _),l,x,u,w⟩
end
structure HM (C:Ctx):Prop extends gq C where
 int:∀ n:Int,dN n→aG C 47 [.int .i64 n] .nil (aI (.agg (mkT n 1).cells))
 itoa:∀ n:Nat,n<100→aG C 195 [.int .i64 n] .nil (aI (.str (cC n)))
 next:∀ (l:List Nat) (v:PV),Tp l v→∀ (o n a:Nat),n≤1000000→a≤l.length→aG C 4 [.ptr o 2 0 0,.int .i64 n] (PH.nil.set o (bM v a)) (gl l v o n a)
section
variable {C:Ctx} {F:PF} {H:PH} {l:List Nat} {v:PV} {o a:Nat}
theorem dT (j:HM C) (T:Tp l v) {n:Nat} {args:List aN} {d:Option Nat} {K:PF→PH→Prop} (x:n≤1000000) (u:a≤l.length) (e:aN.evs F args=some [.ptr o 2 0 0,.int .i64 n]) (y:H o=some (bM v a))
  (w:K (F.put d (.int .i64 ((aF l n a).1:Nat))) (H.set o (bM v (aF l n a).2))):hC C 4 args [] d K F H :=
 nN (j.next l v T o n a x u) y e w
end
def aBG (l:List Nat) (v:PV) (o a:Nat) (r:PV) (H:PH):Prop:=r=.agg (fV l a).1.cells∧H=PH.nil.set o (bM v (fV l a).2)
theorem vJ (l:List Nat) {a:Nat} (h:a≤l.length):(fV l a).2≤l.length:=bS l 8 (bS l 6 h)
theorem awI {C:Ctx} (j:HM C) {l:List Nat} {v:PV} (T:Tp l v) (o a:Nat) (x:a≤l.length):KB.wp C (aR aiJ.res (aBG l v o a)) (PF.args [.ptr o 2 0 0]) (PH.nil.set o (bM v a)):=by
 simp only[go_sem,KB,Ly,aiJ];refine aO fun p K=>?_;have y:¬ p=o:=(jR.1 K).1;have e:¬ o=p:=fun h=>y h.symm;have M:=cS l (show 0<6 by decide) a;have a1:=bS l 6 x;simp only[go_sem,Lz];refine dT j T (o:=o) (n:=6) (a:=a) (by decide) x rfl (by simp only[go_sem,e]) ?_;have E:IntKind.i64.wrap (1+((aF l 6 a).1:Int))=((1+(aF l 6 a).1:Nat):Int):=by rw[wrap_i64 Om Om]; omega
 simp only[go_sem,E];have N:=cS l (show 0<8 by decide) (aF l 6 a).2;refine dT j T (o:=o) (n:=8) (a:=(aF l 6 a).2) (by decide) a1 rfl Sq ?_;have I:IntKind.i64.wrap (1+((aF l 8 (aF l 6 a).2).1:Int))=((1+(aF l 8 (aF l 6 a).2).1:Nat):Int):=by rw[wrap_i64 Om Om]; omega
 simp only[go_sem,I];refine aA (j.fmk ((1+(aF l 6 a).1:Nat):Int) ((1+(aF l 8 (aF l 6 a).2).1:Nat):Int) (by unfold dN; omega) (by unfold dN; omega)) rfl ?_;have J:¬ ((1+(aF l 8 (aF l 6 a).2).1:Nat):Int)=0:=Om;unfold xN;rw[if_neg J];simp only[go_sem];refine aO fun q hq=>?_;have A:¬ q=o:=(jR.1 hq).1;have B:¬ q=p:=(jR.1 (jR.1 hq).2).1;have w:¬ p=q:=fun h=>B h.symm;have u:¬ o=q:=fun h=>A h.symm;simp only[go_sem,L3,y,e,A,B,w];refine aV (vs:=[.agg (fV l a).1.cells]) (.inr rfl) (PH.nil.set o (bM v (fV l a).2)) ?_ (e_ a_ ?_) ⟨rfl,rfl⟩
 ·simp only[go_sem];rfl
 ·simp only[go_sem,e,u];rfl
structure Em (C:Ctx):Prop extends HM C where
 frac:∀ (l:List Nat) (v:PV),Tp l v→∀ (o a:Nat),a≤l.length→aG C 1 [.ptr o 2 0 0] (PH.nil.set o (bM v a)) (aBG l v o a)
abbrev gY (l:List RF):List (List PV):=l.map RF.cells
theorem yI (l:List RF) (x:RF):gY l++[x.cells]=gY (l++[x]):=by simp[gY]
theorem IK (l:List RF):Flat (gY l):=Flat.map l fun x c e q s rs=>by
 simp only[RF.cells,eT,aTW,aUJ,or_false] at e;rcases e with rfl | rfl | rfl<;>rfl
theorem nB (l:List RF):(gY l).length=l.length:=by simp[gY]
theorem Tp.frz {l:List Nat} {v:PV} (T:Tp l v) (q s:Nat) (rs:List (List PV)):PV.cH q s rs v=v:=by
 rcases T.seen with ⟨_,rfl⟩ | rfl<;>rfl
theorem HC (l:List Nat) {a:Nat} (h:a≤l.length):∀ k,(lC l a k).2≤l.length
 | 0=>h
 | k+1=>vJ l (HC l h k)
theorem Pk (l:List Nat) (a:Nat):∀ k,(lC l a k).1.length=k
 | 0=>rfl
 | k+1=>by simp only[lC,aTM,aTT,Pk l a k]
def aIL (l:List Nat) (v:PV) (o a k:Nat) (r:PV) (H:PH):Prop:=r=frs (lC l a k).1∧H=PH.nil.set o (bM v (lC l a k).2)
def aiO (o:Nat) (m:Nat) (w:PV) (i:Nat):PF:=((((PF.nil.set 0 (.ptr o 2 0 0)).set 1 (.int .i64 m)).set 5 (w)).set 6 (.int .i64 i))
theorem aEZ {C:Ctx} (K:Em C) {l:List Nat} {v:PV} (T:Tp l v) (o a m:Nat) (V:m≤1000) (O:a≤l.length):QV.wp C (aR awY.res (aIL l v o a (max m 1))) (PF.args [.ptr o 2 0 0,.int .i64 m]) (PH.nil.set o (bM v a)):=by
 have x:∀ i:Nat,((i:Int)<(if (m:Int)<1 then 1 else (m:Int)))↔i<max m 1:=by intro i;split<;>omega
 simp only[go_sem,QV,Zc,Zd,Ze,awY];have M:aM (PH.nil.set o (bM v a)) [(o,bM v a)] [(.aB,3,gY [])]:=(aM.nil.new (H:=PH.nil) rfl (bM v a)).kS 3;refine wp_loop (α:=Nat × PV × PH) (fun t=>aiO o m t.2.1 t.1) (fun t=>t.2.2) (fun t=>t.1≤max m 1∧aM t.2.2 [(o,bM v (lC l a t.1).2)] [(t.2.1,3,gY (lC l a t.1).1)]) (fun t=>max m 1-t.1) (0,.aB,PH.nil.set o (bM v a)) ⟨aTQ _,M⟩ ?_ b_ ?_
 ·unfold aiO;exact Lq
 rintro⟨k,w,U⟩ ⟨R,u⟩;simp only at R u ⊢;simp only[go_sem,Zb,Zf,aiO];have E:=HC l O k;have j:=Pk l a k;by_cases hlt:k<max m 1
 ·have B:=(x k).2 hlt;simp only[go_sem,B,Zg];refine nN (K.frac l v T o _ E) (u.at 0 rfl) rfl ?_;have A:=u.set 0 rfl (bM v (fV l (lC l a k).2).2);have y:(1:Nat)*3≤16777216:=by decide
  simp only[go_sem,y];refine A.append 0 (src:=[(fV l (lC l a k).2).1.cells]) rfl rfl (by unfold roomFor; rw[nB,j]; simp only[aTT,maxLen]; omega) fun S H' J _=>?_;rw[yI] at J;simp only[go_sem,Zh,wZz k];refine aH (k+1,S,H') ⟨hlt,J⟩ (by simp only; omega) ?_ b_;exact Lq
 ·have B:¬ ((k:Int)<(if (m:Int)<1 then 1 else (m:Int))):=fun h=>hlt ((x k).1 h);have e:k=max m 1:=Om;subst e;simp only[go_sem,B,Zi];have I:gY (lC l a (max m 1)).1≠[]:=fun h=>by have:=congrArg List.length h;rw[nB,j] at this;simp at this
  rcases u.own 0 rfl with ⟨N,_⟩ | ⟨q,rs,rfl,_⟩
  ·exact absurd N I
  obtain⟨rs,g1,g2,g3,-,g4⟩:=u.frz 0 rfl;refine oH (vs:=[.osl q 3 0 (gY (lC l a (max m 1)).1).length]) (.inr rfl) rfl (.step g1 (.done (H2:=PH.nil.set o (bM v (lC l a (max m 1)).2)) ?_ (e_ a_ ?_)))
  ·rw[bQ,g3];exact⟨rfl,rfl⟩
  ·have:=g4.at 0 rfl;rw[this];simp only[bO.frz,aUQ,aVZ,T.frz];rfl
theorem awR {C:Ctx} (j:HM C) (s:List UInt8) (n:Nat) (x:s.length≤100) (u:n<100):KF.wp C (aR aiM.res (aI (.str (s++cC n)))) (PF.args [.str s,.int .i64 n]) .nil:=by
 have w:(cC n).length≤2:=by
  unfold cC;rw[Lib.decDigits];split
  ·simp
  ·rw[Lib.decDigits,dif_pos Om]; simp
 have e:¬ (((s.length+(cC n).length:Nat):Int)>9223372036854775807):=Om;simp only[go_sem,KF,Mn,Mo,aiM];refine aA (j.itoa n u) rfl ?_;simp only[go_sem,agD,e];refine aQ (.inr rfl) rfl ?_;rfl
structure tP (C:Ctx):Prop extends Em C where
 rep:∀ (l:List Nat) (v:PV),Tp l v→∀ (o a m:Nat),m≤1000→a≤l.length→aG C 5 [.ptr o 2 0 0,.int .i64 m] (PH.nil.set o (bM v a)) (aIL l v o a (max m 1))
 name:∀ (s:List UInt8) (n:Nat),s.length≤100→n<100→aG C 29 [.str s,.int .i64 n] .nil (aI (.str (s++cC n)))
theorem atG (l:List Nat) (i j:Nat) {a:Nat} (h:a≤l.length):(jT l i j a).2≤l.length:=by
 unfold jT;split
 ·exact vJ l h
 ·split
  ·exact h
  ·simp only;split
   ·exact vJ l (bS l 3 h)
   ·exact bS l 3 h
theorem uy (l:List Nat) (i:Nat) {a:Nat} (h:a≤l.length):∀ j,(dX l i a j).2≤l.length
 | 0=>h
 | j+1=>atG l i j (uy l i h j)
theorem d8 (l:List Nat) (i a:Nat):∀ j,(dX l i a j).1.length=j
 | 0=>rfl
 | j+1=>by simp only[dX,aTM,aTT,d8 l i a j]
theorem al (l:List Nat) (n i:Nat) (s:DK) (h:s.a≤l.length):(dW l n i s).2≤l.length∧(dW l n i s).1≤s.left:=by
 unfold dW;split
 ·exact⟨bS l _ h,by have:=cS l (Om:0<s.left+1) s.a; omega⟩
 ·exact⟨h,aTO _⟩
theorem Fr (l:List Nat) (n i:Nat) {a:Nat} (h:a≤l.length):(fL l n i a).2≤l.length:=by
 unfold fL;simp only;split
 ·exact bS l 3 (vJ l h)
 ·exact vJ l h
theorem s7 (l:List Nat) (n:Nat) {a:Nat} (h:a≤l.length):∀ i,(gQ l n a i).a≤l.length∧(gQ l n a i).left≤8∧(gQ l n a i).start.length=i∧(gQ l n a i).exit.length=i∧(gQ l n a i).aRZ.length=i
 | 0=>⟨h,aTO _,rfl,rfl,rfl⟩
 | i+1=>by
  obtain⟨e,x,j,u,h5⟩:=s7 l n h i;have w:=al l n i (gQ l n a i) e;refine⟨?_,?_,?_,?_,?_⟩
  ·exact uy l i (Fr l n i w.1) n
  ·simp only[gQ]; omega
  ·simp only[gQ,aTM,aTT,j]
  ·simp only[gQ,aTM,aTT,u]
  ·simp only[gQ,aTM,aTT,h5]
abbrev vW (l:List (List RF)):List (List PV):=l.map fun r=>[frs r]
theorem Az (l:List (List RF)):Flat (vW l):=Flat.map l fun x c e q s rs=>by
 simp only[aTW,aUJ,or_false] at e;subst e; rfl
abbrev ai (e j l:PV):bO:=.rows 4 [[.str [],e,j,l]]
abbrev Kq:bO:=.rows 4 [[.str [],.aB,.aB,.aB]]
def fW (o o4 o6 n left i:Nat) (w:PV) (j:Nat):PF:=((((((((PF.nil.set 0 (.ptr o 2 0 0)).set 4 (.ptr o4 4 0 0)).set 5 (.int .i64 n)).set 6 (.ptr o6 4 0 0)).set 7 (.int .i64 left)).set 8 (.int .i64 i)).set 13 (w)).set 14 (.int .i64 j))
def dJ (o o4 o6 n left i:Nat):PF:=((((((PF.nil.set 0 (.ptr o 2 0 0)).set 4 (.ptr o4 4 0 0)).set 5 (.int .i64 n)).set 6 (.ptr o6 4 0 0)).set 7 (.int .i64 left)).set 8 (.int .i64 i))
theorem be {l:List RF} (h:l.length≤1000):roomFor (gY l).length 1 56:=by
 unfold roomFor;rw[nB];simp only[maxLen]; omega
theorem awQ {C:Ctx} (W:tP C) {l:List Nat} {v:PV} (T:Tp l v) (o o4 o6 n left i a:Nat) (ha:a≤l.length) (hn:n≤100) (hi:i<n) (B:List BX) (L:List LI) (K:cE) (F:PF) (H:PH)
  (hF:(fW o o4 o6 n left i .aB 0).le F) (O:aM H ((o,bM v a)::B) L)
  (hK:∀ w y H',(fW o o4 o6 n left i w n).le y→aM H' ((o,bM v (dX l i a n).2)::B) (L++[(w,3,gY (dX l i a n).1)])→K (.exit 2) y H') :
  aC.wp C (.loop KD) K F H:=by
 refine wp_loop (α:=Nat × PV × PH) (fun t=>fW o o4 o6 n left i t.2.1 t.1) (fun t=>t.2.2) (fun t=>t.1≤n∧aM t.2.2 ((o,bM v (dX l i a t.1).2)::B) (L++[(t.2.1,3,gY (dX l i a t.1).1)])) (fun t=>n-t.1) (0,.aB,H) ⟨aTQ _,O.kS 3⟩ hF b_ ?_;rintro⟨j,w,H0⟩ ⟨hj,O⟩;simp only at hj O ⊢;have N:=uy l i ha j;have ε:=d8 l i a j;have e1:IntKind.i64.wrap ((i:Int)+1)=((i+1:Nat):Int):=dM Om;simp only[go_sem,KD,Mi,fW];by_cases hlt:j<n
 ·have I:(j:Int)<(n:Nat):=Om;simp only[go_sem,I,Mj];refine aA (W.int 0 (by unfold dN; omega)) rfl ?_;simp only[go_sem];refine aO fun p hp=>?_;have A:=O.new hp (.rows 3 [kO.cells]);simp only[go_sem,Mk,e1];have fin:∀ (y:PF) (H':PH),(fW o o4 o6 n left i w j).le y→y 15=some (.ptr p 3 0 0)→aM H' ((o,bM v (jT l i j (dX l i a j).2).2)::B++[(p,.rows 3 [(jT l i j (dX l i a j).2).1.cells])]) (L++[(w,3,gY (dX l i a j).1)]) →
    aC.wp C (.region bs) (fA 3 (jV C (aC.wp C (.region bu)) (fN (fun (t:Nat × PV × PH)=>fW o o4 o6 n left i t.2.1 t.1) (fun t=>t.2.2) (fun t=>t.1≤n∧aM t.2.2 ((o,bM v (dX l i a t.1).2)::B) (L++[(t.2.1,3,gY (dX l i a t.1).1)])) (fun t=>n-t.1) (n-j) K))) y H':=by
   intro y H' e J R;have f0:y 0=some (.ptr o 2 0 0):=e 0 _ (by unfold fW; simp only[go_sem]);have f4:y 4=some (.ptr o4 4 0 0):=e 4 _ (by unfold fW; simp only[go_sem]);have f5:y 5=some (.int .i64 n):=e 5 _ (by unfold fW; simp only[go_sem]);have f6:y 6=some (.ptr o6 4 0 0):=e 6 _ (by unfold fW; simp only[go_sem]);have f7:y 7=some (.int .i64 left):=e 7 _ (by unfold fW; simp only[go_sem]);have f8:y 8=some (.int .i64 i):=e 8 _ (by unfold fW; simp only[go_sem]);have f13:y 13=some w:=e 13 _ (by unfold fW; simp only[go_sem]);have f14:y 14=some (.int .i64 j):=e 14 _ (by unfold fW; simp only[go_sem]);have γ:H' p=some (.rows 3 [(jT l i j (dX l i a j).2).1.cells]):=R.box (p,.rows 3 [(jT l i j (dX l i a j).2).1.cells]) (by simp);have Y:(1:Nat)*3≤16777216:=by decide
   simp only[go_sem,bs,f13,J,γ,Y];refine R.append (v:=w) (s:=3) (rows:=gY (dX l i a j).1) L.length (src:=[(jT l i j (dX l i a j).2).1.cells]) (by simp) rfl (be Om) fun w' H2 h2 _=>?_;rw[yI,aWZ _ _ (aTO _),Nat.sub_self] at h2;simp only[go_sem,bu,f14,wZz j];refine aH (α:=Nat × PV × PH) (j+1,w',H2) ⟨hlt,h2.sub (aXG ..) (aVO.refl _)⟩ (by simp only; omega) ?_ b_;unfold fW;exact Lq
  simp only[aC.wp,go_sem] at fin;have V:∀ x:RF,PH.set (PH.set H0 p (.rows 3 [kO.cells])) p (.rows 3 [x.cells])=PH.set H0 p (.rows 3 [x.cells]):=fun x=>PH.set_set p _ _;have draw:∀ (y:PF) (S:PH) (a1:Nat),a1≤l.length→(fW o o4 o6 n left i w j).le y→y 15=some (.ptr p 3 0 0)→aM S ((o,bM v a1)::B++[(p,.rows 3 [kO.cells])]) (L++[(w,3,gY (dX l i a j).1)])→jT l i j (dX l i a j).2=fV l a1→∀ K',(∀ M H2,(fW o o4 o6 n left i w j).le M→M 15=some (.ptr p 3 0 0)→aM H2 ((o,bM v (jT l i j (dX l i a j).2).2)::B++[(p,.rows 3 [(jT l i j (dX l i a j).2).1.cells])]) (L++[(w,3,gY (dX l i a j).1)])→K' M H2) →
    wpOps C br K' y S:=by
   intro y S a1 β e J A he K' Z;have f0:y 0=some (.ptr o 2 0 0):=e 0 _ (by unfold fW; simp only[go_sem]);simp only[go_sem,br,f0];refine nN (W.frac l v T o a1 β) (A.at 0 rfl) rfl ?_;have E:aM (S.set o (bM v (fV l a1).2)) ((o,bM v (fV l a1).2)::B++[(p,.rows 3 [kO.cells])]) (L++[(w,3,gY (dX l i a j).1)]):=A.set 0 rfl _;have δ:=E.mG;simp only[go_sem,J,δ];refine Z _ _ ?_ (by simp only[go_sem,J]) ?_
   ·have g:=fun (q:Nat) u h=>e q u h;unfold fW at g ⊢;refine d_ (d_ (d_ (d_ (d_ (d_ (d_ (d_ c_ ?_) ?_) ?_) ?_) ?_) ?_) ?_) ?_
    ·simp only[go_sem,f0]
    ·simp only[go_sem,g 4 _ rfl]
    ·simp only[go_sem,g 5 _ rfl]
    ·simp only[go_sem,g 6 _ rfl]
    ·simp only[go_sem,g 7 _ rfl]
    ·simp only[go_sem,g 8 _ rfl]
    ·simp only[go_sem,g 13 _ rfl]
    ·simp only[go_sem,g 14 _ rfl]
   ·rw[he];exact E.rG (.rows 3 [(fV l a1).1.cells])
  by_cases U:j=i+1
  ·have he:jT l i j (dX l i a j).2=fV l (dX l i a j).2:=by unfold jT; rw[if_pos U]
   simp only[go_sem,bP (Om:(j:Int)=((i+1:Nat):Int))];refine draw _ _ _ N (by unfold fW; exact Lq) rfl A he _ ?_;intro M H2 k1 k2 k3;exact fin M H2 k1 k2 k3
  ·simp only[go_sem,bE (Om:¬ (j:Int)=((i+1:Nat):Int))];by_cases X:j=i
   ·have he:jT l i j (dX l i a j).2=(kO,(dX l i a j).2):=by unfold jT; rw[if_neg U,if_pos X]
    simp only[go_sem,bV (Om:(j:Int)=(i:Int))];exact fin _ _ (by unfold fW; exact Lq) rfl (by rw[he]; exact A)
   ·simp only[go_sem,dK (Om:¬ (j:Int)=(i:Int))];refine dT W.toHM T (o:=o) (n:=3) (a:=(dX l i a j).2) (by decide) N rfl (A.at 0 rfl) ?_;have E:aM _ ((o,bM v (aF l 3 (dX l i a j).2).2)::B++[(p,.rows 3 [kO.cells])]) (L++[(w,3,gY (dX l i a j).1)]):=A.set 0 rfl _;by_cases c3:(aF l 3 (dX l i a j).2).1=0
    ·have he:jT l i j (dX l i a j).2=fV l (aF l 3 (dX l i a j).2).2:=by unfold jT; rw[if_neg U,if_neg X]; simp only[c3,if_true]
     simp only[go_sem,bP (show (((aF l 3 (dX l i a j).2).1:Nat):Int)=0 by omega)];refine draw _ _ _ (bS l 3 N) (by unfold fW; exact Lq) rfl E he _ ?_;intro M H2 k1 k2 k3;exact fin M H2 k1 k2 k3
    ·have he:jT l i j (dX l i a j).2=(kO,(aF l 3 (dX l i a j).2).2):=by unfold jT; rw[if_neg U,if_neg X]; simp only[c3,if_false]
     simp only[go_sem,bE (show ¬ (((aF l 3 (dX l i a j).2).1:Nat):Int)=0 by omega)];exact fin _ _ (by unfold fW; exact Lq) rfl (by rw[he]; exact E)
 ·have I:¬ (j:Int)<(n:Nat):=Om;have:j=n:=Om;subst this;simp only[go_sem,I];exact hK w _ _ (by unfold fW; exact Lq) O
abbrev rV (o o4 o6:Nat) (v e j l:PV) (a:Nat):List BX:=[(o,bM v a),(o4,Kq),(o6,ai e j l)]
abbrev wL (s:DK) (e j l:PV):List LI:=[(e,3,gY s.start),(j,1,vW s.aRZ),(l,3,gY s.exit)]
theorem aoK {C:Ctx} (J:tP C) {l:List Nat} {v:PV} (T:Tp l v) (o o4 o6 n i:Nat) (s:DK) (I:s.a≤l.length) (V:s.left≤8) (W:n≤100) (hi:i<n) (B:List BX) (L:List LI) (e:aC) (K:cE) (F:PF) (H:PH)
  (j:(dJ o o4 o6 n s.left i).le F) (A:aM H ((o,bM v s.a)::B) L)
  (w:∀ x H',(dJ o o4 o6 n (s.left-(dW l n i s).1) i).le x→x 9=some (.int .i64 ((dW l n i s).1:Nat))→aM H' ((o,bM v (dW l n i s).2)::B) L→aC.wp C e K x H') :
  aC.wp C (.seq (.region te) (.seq (.seq (.region tf) (.cond (.tmp 29) (.region tg) .skip)) (.seq (.region UR) e))) K F H:=by
 have f0:F 0=some (.ptr o 2 0 0):=j 0 _ (by unfold dJ; simp only[go_sem]);have S:F 4=some (.ptr o4 4 0 0):=j 4 _ (by unfold dJ; simp only[go_sem]);have O:F 5=some (.int .i64 n):=j 5 _ (by unfold dJ; simp only[go_sem]);have f6:F 6=some (.ptr o6 4 0 0):=j 6 _ (by unfold dJ; simp only[go_sem]);have f7:F 7=some (.int .i64 s.left):=j 7 _ (by unfold dJ; simp only[go_sem]);have R:F 8=some (.int .i64 i):=j 8 _ (by unfold dJ; simp only[go_sem]);have M:IntKind.i64.wrap ((i:Int)+1)=((i+1:Nat):Int):=dM Om;have U:=(al l n i s I).2;have u:IntKind.i64.wrap ((s.left:Int)-((dW l n i s).1:Int))=((s.left-(dW l n i s).1:Nat):Int):=by rw[wrap_i64 Om Om]; omega
 simp only[go_sem,te,f7,tf,R,O,M];by_cases c:i+1<n
 ·have y:((i+1:Nat):Int)<(n:Nat):=Om;have he:dW l n i s=aF l (s.left+1) s.a:=by unfold dW; rw[if_pos c]
  have N:IntKind.i64.wrap ((s.left:Int)+1)=((s.left+1:Nat):Int):=dM Om;rw[he] at w u;simp only[go_sem,y,tg,f0,f7,N];refine dT J.toHM T (o:=o) (n:=s.left+1) (a:=s.a) Om I rfl A.aIT ?_;have E:=A.aGP (bM v (aF l (s.left+1) s.a).2);simp only[go_sem,UR,f7,u];refine w _ _ ?_ rfl E;unfold dJ;exact Lq
 ·have y:¬ ((i+1:Nat):Int)<(n:Nat):=Om;have he:dW l n i s=(s.left,s.a):=by unfold dW; rw[if_neg c]
  rw[he] at w u;simp only at w u;simp only[go_sem,y,UR,f7,u];refine w _ _ ?_ rfl A;unfold dJ;exact Lq
theorem aiL {C:Ctx} (R:tP C) {l:List Nat} {v:PV} (o o4 o6 n i left k a:Nat) (hk:k≤8) (hi:i<n) (hn:n≤100) (s:DK) (hs:s.start.length=i) (O x A:PV) (B:List BX) (e:aC) (K:cE) (F:PF) (H:PH)
  (w:(dJ o o4 o6 n left i).le F) (S:F 9=some (.int .i64 k)) (X:aM H (rV o o4 o6 v O x A a++B) (wL s O x A))
  (Y:∀ u N H' B',(dJ o o4 o6 n left i).le N→aM H' (rV o o4 o6 v u x A a++B') (wL { s with start:=s.start++[mkT (k:Nat) 8] } u x A)→aC.wp C e K N H') :
  aC.wp C (.seq (.region bf) (.seq (.region bg) e)) K F H:=by
 have f0:F 0=some (.ptr o 2 0 0):=w 0 _ (by unfold dJ; simp only[go_sem]);have f4:F 4=some (.ptr o4 4 0 0):=w 4 _ (by unfold dJ; simp only[go_sem]);have f5:F 5=some (.int .i64 n):=w 5 _ (by unfold dJ; simp only[go_sem]);have f6:F 6=some (.ptr o6 4 0 0):=w 6 _ (by unfold dJ; simp only[go_sem]);have f7:F 7=some (.int .i64 left):=w 7 _ (by unfold dJ; simp only[go_sem]);have f8:F 8=some (.int .i64 i):=w 8 _ (by unfold dJ; simp only[go_sem]);simp only[go_sem,bf,S];refine aA (R.fmk (k:Int) 8 (by unfold dN; omega) (by unfold dN; omega)) rfl ?_;unfold xN;rw[if_neg (by decide)];simp only[go_sem];refine aO fun p Z=>?_;have j:=X.new Z (.rows 3 [(mkT (k:Nat) 8).cells]);have U:=j.at 2 rfl;have V:=j.mG;have I:(1:Nat)*3≤16777216:=by decide
 have α:∀ y,PH.set (PH.set H p (.rows 3 [[PV.bool false,PV.aB,PV.aB]])) p y=PH.set H p y:=fun y=>PH.set_set p _ _;simp only[go_sem,bg,f6,U,V,I];refine j.append 0 (src:=[(mkT (k:Nat) 8).cells]) rfl rfl (be Om) fun u H2 J M=>?_;rw[yI] at J M; rw[nB] at M;obtain⟨q,rfl⟩:=M (by simp);have E:=J.at 2 rfl;simp only[go_sem,E,aTW,aUJ,or_false,forall_eq];have W:=J.set 2 rfl (ai (.osl q 3 0 (s.start++[mkT (k:Nat) 8]).length) x A);refine Y _ _ _ (B++[(p,.rows 3 [(mkT (k:Nat) 8).cells])]) ?_ W;unfold dJ;exact Lq
theorem aoJ {C:Ctx} (N:tP C) {l:List Nat} {v:PV} (T:Tp l v) (o o4 o6 n i left a:Nat) (ha:a≤l.length) (hi:i<n) (hn:n≤100) (s:DK) (hs:s.exit.length=i) (w x M:PV) (B:List BX) (u:aC) (K:cE) (F:PF) (H:PH)
  (J:(dJ o o4 o6 n left i).le F) (hH:aM H (rV o o4 o6 v w x M a++B) (wL s w x M))
  (hK:∀ I e H' B',(dJ o o4 o6 n left i).le e→aM H' (rV o o4 o6 v w x I (fL l n i a).2++B') (wL { s with exit:=s.exit++[(fL l n i a).1] } w x I)→aC.wp C u K e H') :
  aC.wp C (.seq (.region bi) (.seq (.seq (.region bj) (.cond (.tmp 58) (.region bk) .skip)) (.seq (.region KE) u))) K F H:=by
 have f0:F 0=some (.ptr o 2 0 0):=J 0 _ (by unfold dJ; simp only[go_sem]);have f4:F 4=some (.ptr o4 4 0 0):=J 4 _ (by unfold dJ; simp only[go_sem]);have f5:F 5=some (.int .i64 n):=J 5 _ (by unfold dJ; simp only[go_sem]);have f6:F 6=some (.ptr o6 4 0 0):=J 6 _ (by unfold dJ; simp only[go_sem]);have f7:F 7=some (.int .i64 left):=J 7 _ (by unfold dJ; simp only[go_sem]);have f8:F 8=some (.int .i64 i):=J 8 _ (by unfold dJ; simp only[go_sem]);have e1:IntKind.i64.wrap ((i:Int)+1)=((i+1:Nat):Int):=dM Om;simp only[go_sem,bi,f0];refine nN (N.frac l v T o a ha) (hH.at 0 rfl) rfl ?_;have X:=hH.set 0 rfl (bM v (fV l a).2);simp only[go_sem];refine aO fun p hp=>?_;have A:=X.new hp (.rows 3 [(fV l a).1.cells]);simp only[go_sem,bj,f8,f5,e1];have fin:∀ (e:PF) (H':PH),(dJ o o4 o6 n left i).le e→e 12=some (.ptr p 3 0 0)→aM H' (rV o o4 o6 v w x M (fL l n i a).2++B++[(p,.rows 3 [(fL l n i a).1.cells])]) (wL s w x M)→wpOps C KE (aC.wp C u K) e H':=by
  intro e H' j R y;have q0:e 0=some (.ptr o 2 0 0):=j 0 _ (by unfold dJ; simp only[go_sem]);have q4:e 4=some (.ptr o4 4 0 0):=j 4 _ (by unfold dJ; simp only[go_sem]);have q5:e 5=some (.int .i64 n):=j 5 _ (by unfold dJ; simp only[go_sem]);have q6:e 6=some (.ptr o6 4 0 0):=j 6 _ (by unfold dJ; simp only[go_sem]);have q7:e 7=some (.int .i64 left):=j 7 _ (by unfold dJ; simp only[go_sem]);have q8:e 8=some (.int .i64 i):=j 8 _ (by unfold dJ; simp only[go_sem]);have g6:=y.at 2 rfl;have U:=y.mG;have V:(1:Nat)*3≤16777216:=by decide
  simp only[go_sem,KE,q6,g6,R,U,V];refine y.append 2 (src:=[(fL l n i a).1.cells]) rfl rfl (be Om) fun I H2 W Z=>?_;rw[yI] at W Z; rw[nB] at Z;obtain⟨q,rfl⟩:=Z (by simp);have S:=W.at 2 rfl;simp only[go_sem,S,aTW,aUJ,or_false,forall_eq];have h3:=W.set 2 rfl (ai w x (.osl q 3 0 (s.exit++[(fL l n i a).1]).length));refine hK _ _ _ (B++[(p,.rows 3 [(fL l n i a).1.cells])]) ?_ h3;unfold dJ;exact Lq
 by_cases c:i+1<n
 ·have O:((i+1:Nat):Int)<(n:Nat):=Om;have Y:=vJ l ha;simp only[go_sem,O,f0];refine dT N.toHM T (o:=o) (n:=3) (a:=(fV l a).2) (by decide) Y rfl (A.at 0 rfl) ?_;have E:=A.set 0 rfl (bM v (aF l 3 (fV l a).2).2);by_cases c3:(aF l 3 (fV l a).2).1=0
  ·have he:fL l n i a=(kO,(aF l 3 (fV l a).2).2):=by unfold fL; simp only[if_pos c,c3,if_true]
   have U:=aM.mG (B:=rV o o4 o6 v w x M (aF l 3 (fV l a).2).2++B) E;simp only[go_sem,bP (show (((aF l 3 (fV l a).2).1:Nat):Int)=0 by omega),bk];refine aA (N.int 0 (by unfold dN; omega)) rfl ?_;simp only[go_sem,U];refine fin _ _ ?_ rfl ?_
   ·unfold dJ;exact Lq
   ·rw[he];exact aM.rG (B:=rV o o4 o6 v w x M (aF l 3 (fV l a).2).2++B) E (.rows 3 [kO.cells])
  ·have he:fL l n i a=((fV l a).1,(aF l 3 (fV l a).2).2):=by unfold fL; simp only[if_pos c,c3,if_false]
   simp only[go_sem,bE (show ¬ (((aF l 3 (fV l a).2).1:Nat):Int)=0 by omega)];refine fin _ _ ?_ rfl ?_
   ·unfold dJ;exact Lq
   ·rw[he];exact E
 ·have O:¬ ((i+1:Nat):Int)<(n:Nat):=Om;have he:fL l n i a=fV l a:=by unfold fL; simp only[if_neg c]
  simp only[go_sem,O];refine fin _ _ ?_ rfl ?_
  ·unfold dJ;exact Lq
  ·rw[he];exact A
def asX (l:List Nat) (v:PV) (o fD a:Nat) (r:PV) (H:PH):Prop:=r=.agg (rK l fD a).1.cells∧H=PH.nil.set o (bM v (rK l fD a).2)
theorem aqK {l:List (List RF)} (h:l.length≤1000):roomFor (vW l).length 1 24:=by
 unfold roomFor;simp only[aTJ,maxLen]; omega
theorem aqL (l:List (List RF)) (x:List RF):vW l++[[frs x]]=vW (l++[x]):=by simp[vW]
theorem aiK {C:Ctx} (Lb:tP C) {l:List Nat} {v:PV} (T:Tp l v) (o o4 o6 n left i a:Nat) (ha:a≤l.length) (hn:n≤100) (hi:i<n) (s:DK) (hs:s.aRZ.length=i) (y N I:PV) (B:List BX) (K:cE) (F:PF) (H:PH)
  (J:(dJ o o4 o6 n left i).le F) (hH:aM H (rV o o4 o6 v y N I a++B) (wL s y N I))
  (hK:∀ E A W H' B',(dJ o o4 o6 n left i).le W→(∃ q,A=.osl q 3 0 n)→aM H' (rV o o4 o6 v y E I (dX l i a n).2++B') [(y,3,gY s.start),(E,1,vW s.aRZ++[[A]]),(I,3,gY s.exit),(A,3,gY (dX l i a n).1)]→K .normal W H') :
  aC.wp C (.seq (.region bn) (.seq (.seq (.region bo) (.block 2 (.loop KD))) (.region bv))) K F H:=by
 have f0:F 0=some (.ptr o 2 0 0):=J 0 _ (by unfold dJ; simp only[go_sem]);have f4:F 4=some (.ptr o4 4 0 0):=J 4 _ (by unfold dJ; simp only[go_sem]);have f5:F 5=some (.int .i64 n):=J 5 _ (by unfold dJ; simp only[go_sem]);have f6:F 6=some (.ptr o6 4 0 0):=J 6 _ (by unfold dJ; simp only[go_sem]);have f7:F 7=some (.int .i64 left):=J 7 _ (by unfold dJ; simp only[go_sem]);have f8:F 8=some (.int .i64 i):=J 8 _ (by unfold dJ; simp only[go_sem]);simp only[go_sem,bn,bo];refine awQ (C:=C) Lb T o o4 o6 n left i a ha hn hi ([(o4,Kq),(o6,ai y N I)]++B) (wL s y N I) _ _ H ?_ hH ?_
 ·unfold fW
  (repeat' (first|exact c_|refine d_ ?_ ?_))<;>first|(simp only[go_sem,f0,f4,f5,f6,f7,f8]<;>rfl)|rfl
 intro w u H1 e x;have j:=d8 l i a n;have hw:∃ q,w=.osl q 3 0 n:=by
  rcases x.own (v:=w) 3 rfl with ⟨M,_⟩ | ⟨q,rs,M,_⟩
  ·have:=congrArg List.length M;rw[nB,j] at this;simp at this; omega
  ·rw[nB,j] at M;exact⟨q,M⟩
 obtain⟨q,rfl⟩:=hw;have g0:u 0=some (.ptr o 2 0 0):=e 0 _ (by unfold fW; simp only[go_sem]);have g4:u 4=some (.ptr o4 4 0 0):=e 4 _ (by unfold fW; simp only[go_sem]);have g5:u 5=some (.int .i64 n):=e 5 _ (by unfold fW; simp only[go_sem]);have X:u 6=some (.ptr o6 4 0 0):=e 6 _ (by unfold fW; simp only[go_sem]);have g7:u 7=some (.int .i64 left):=e 7 _ (by unfold fW; simp only[go_sem]);have g8:u 8=some (.int .i64 i):=e 8 _ (by unfold fW; simp only[go_sem]);have R:u 13=some (.osl q 3 0 n):=e 13 _ (by unfold fW; simp only[go_sem]);have b6:=x.at 2 rfl;have S:(1:Nat)*1≤16777216:=by decide
 simp only[go_sem,bv,X,b6,R,S,aTW,aUJ,or_false,forall_eq];refine x.append 1 (src:=[[.osl q 3 0 n]]) rfl Sq (aqK Om) fun E H2 Y V=>?_;obtain⟨q2,rfl⟩:=V (by simp);have O:=Y.at 2 rfl;simp only[go_sem,O,aTW,aUJ,or_false,forall_eq];have Z:=Y.set 2 rfl (ai y (.osl q2 1 0 (vW s.aRZ++[[PV.osl q 3 0 n]]).length) I);have U:(vW s.aRZ++[[(PV.osl q 3 0 n:PV)]]).length=s.aRZ.length+1:=by simp
 rw[U] at Z ⊢;refine hK (.osl q2 1 0 (s.aRZ.length+1)) (.osl q 3 0 n) _ _ B ?_ ⟨q,rfl⟩ Z;unfold dJ
 (repeat' (first|exact c_|refine d_ ?_ ?_))<;>first|(simp only[go_sem,g0,g4,g5,X,g7,g8]<;>rfl)|rfl
theorem aEV {C:Ctx} (K:tP C) {l:List Nat} {v:PV} (T:Tp l v) (o fD a:Nat) (hm:0<fD) (ε:fD≤50) (ha:a≤l.length):QT.wp C (aR awP.res (asX l v o fD a)) (PF.args [.ptr o 2 0 0,.int .i64 fD]) (PH.nil.set o (bM v a)):=by
 have h0:aM (PH.nil.set o (bM v a)) [(o,bM v a)] []:=aM.nil.new (H:=PH.nil) rfl (bM v a);simp only[go_sem,QT,Y2,awP];refine aO fun o4 γ=>?_;have J:=h0.new γ Kq;simp only[go_sem,Y3];refine dT K.toHM T (o:=o) (n:=fD) (a:=a) Om ha Sq (J.at 0 rfl) ?_;have h2:=J.set 0 rfl (bM v (aF l fD a).2);have hN:=cS l hm a;have Z:=bS l fD ha;have e1:IntKind.i64.wrap (1+((aF l fD a).1:Int))=((1+(aF l fD a).1:Nat):Int):=by rw[wrap_i64 Om Om]; omega
 have β:∀ s:DK,s=gQ l (1+(aF l fD a).1) (aF l fD a).2 (1+(aF l fD a).1)→rK l fD a=(⟨[],s.start,s.aRZ,s.exit⟩,s.a):=fun s hs=>by rw[hs]; rfl
 have Y:∀ r H,asX l v o fD a r H↔r=.agg (rK l fD a).1.cells∧H=PH.nil.set o (bM v (rK l fD a).2):=fun _ _=>Iff.rfl;generalize hn:1+(aF l fD a).1=n at *
 generalize hb:(aF l fD a).2=b at *
 have ζ:0<n:=Om;have e:n≤100:=Om;simp only[go_sem,e1,Y4];refine aO fun o6 δ=>?_;have h3:=((h2.new δ Kq).kS 3).kS 1;have h4:=h3.kS 3;simp only[go_sem,Y5,Y6];refine wp_loop (α:=Nat × PV × PV × PV × PH) (fun t=>dJ o o4 o6 n (gQ l n b t.1).left t.1) (fun t=>t.2.2.2.2)
  (fun t=>t.1≤n∧aM t.2.2.2.2 (rV o o4 o6 v t.2.1 t.2.2.1 t.2.2.2.1 (gQ l n b t.1).a) (wL (gQ l n b t.1) t.2.1 t.2.2.1 t.2.2.2.1)) (fun t=>n-t.1) (0,.aB,.aB,.aB,_) ⟨aTQ _,h4⟩ ?_ b_ ?_
 ·unfold dJ
  (repeat' (first|exact c_|refine d_ ?_ ?_))<;>first|(simp only[go_sem,gQ]<;>rfl)|rfl
 rintro⟨i,w1,M,N,H0⟩ ⟨hi,F⟩;simp only at hi F ⊢;obtain⟨k1,k2,k3,k4,k5⟩:=s7 l n Z i;simp only[go_sem,Mh,Y7,dJ];by_cases hlt:i<n
 ·have B:(i:Int)<(n:Nat):=Om;have E:gQ l n b (i+1)=⟨(gQ l n b i).start++[mkT ((dW l n i (gQ l n b i)).1:Nat) 8],(gQ l n b i).exit++[(fL l n i (dW l n i (gQ l n b i)).2).1],(gQ l n b i).aRZ++[(dX l i (fL l n i (dW l n i (gQ l n b i)).2).2 n).1],(gQ l n b i).left-(dW l n i (gQ l n b i)).1,(dX l i (fL l n i (dW l n i (gQ l n b i)).2).2 n).2⟩:=rfl;have kl:=al l n i (gQ l n b i) k1;have ke:=Fr l n i kl.1;generalize hs:gQ l n b i=s at *
  simp only[go_sem,B];refine aoK (C:=C) K T o o4 o6 n i s k1 k2 e hlt [(o4,Kq),(o6,ai w1 M N)] (wL s w1 M N) _ _ _ H0 (by unfold dJ; exact Lq) F ?_;intro F1 H1 O f9 U;refine aiL (C:=C) (l:=l) K o o4 o6 n i _ (dW l n i s).1 (dW l n i s).2 Om hlt e s k3 w1 M N [] _ _ F1 H1 O f9 U ?_;intro j F2 H2 B2 R V;refine aoJ (C:=C) K T o o4 o6 n i _ (dW l n i s).2 kl.1 hlt e { s with start:=s.start++[mkT ((dW l n i s).1:Nat) 8] } k4 j M N B2 _ _ F2 H2 R V ?_;intro u F3 H3 B3 S W;refine aiK (C:=C) K T o o4 o6 n _ i (fL l n i (dW l n i s).2).2 ke e hlt { s with start:=s.start++[mkT ((dW l n i s).1:Nat) 8],exit:=s.exit++[(fL l n i (dW l n i s).2).1] } k5 j M u B3 _ F3 H3 S W ?_;rintro A η I H4 B4 y ⟨q,rfl⟩ X;have g0:I 0=some (.ptr o 2 0 0):=y 0 _ (by unfold dJ; simp only[go_sem]);have g4:I 4=some (.ptr o4 4 0 0):=y 4 _ (by unfold dJ; simp only[go_sem]);have g5:I 5=some (.int .i64 n):=y 5 _ (by unfold dJ; simp only[go_sem]);have g6:I 6=some (.ptr o6 4 0 0):=y 6 _ (by unfold dJ; simp only[go_sem]);have g7:I 7=some (.int .i64 (s.left-(dW l n i s).1:Nat)):=y 7 _ (by unfold dJ; simp only[go_sem]);have g8:I 8=some (.int .i64 i):=y 8 _ (by unfold dJ; simp only[go_sem]);obtain⟨rs,z1,z2,z3,z4,z5⟩:=X.frz 3 rfl;have y1:=z4 0 _ (by decide) rfl;have y2:=z4 1 _ (by decide) rfl;have y3:=z4 2 _ (by decide) rfl;simp only at y1 y2 y3;have y4:=T.frz q 3 rs;simp only[go_sem,Ml,g8,wZz i];refine QK (i+1,j,A,u,H4.frz q 3 rs) z1 ⟨hlt,?_⟩ (by simp only; omega) ?_ b_
  ·rw[E];have eB:(rV o o4 o6 v j A u (dX l i (fL l n i (dW l n i s).2).2 n).2).map (fun b=>(b.1,b.2.frz q 3 rs))=rV o o4 o6 v j A u (dX l i (fL l n i (dW l n i s).2).2 n).2:=by simp only[aUQ,aVZ,bO.frz,y1,y2,y3,y4];rfl
   have eL:([(j,3,gY (s.start++[mkT ((dW l n i s).1:Nat) 8])),(A,1,vW s.aRZ++[[.osl q 3 0 n]]),(u,3,gY (s.exit++[(fL l n i (dW l n i s).2).1]))]:List LI).map (fun x=>(x.1,x.2.1,x.2.2.map fun r=>r.map (PV.cH q 3 rs))) =
     wL ⟨s.start++[mkT ((dW l n i s).1:Nat) 8],s.exit++[(fL l n i (dW l n i s).2).1],s.aRZ++[(dX l i (fL l n i (dW l n i s).2).2 n).1],s.left-(dW l n i s).1,(dX l i (fL l n i (dW l n i s).2).2 n).2⟩ j A u:=by
    have e2:(vW s.aRZ++[[PV.osl q 3 0 n]]).map (fun r=>r.map (PV.cH q 3 rs))=vW (s.aRZ++[(dX l i (fL l n i (dW l n i s).2).2 n).1]):=by rw[aUX,Az,aUQ,aVZ,aUQ,aVZ,z2,aqL]
    show ([(j,3,(gY (s.start++[mkT ((dW l n i s).1:Nat) 8])).map (fun r=>r.map (PV.cH q 3 rs))),(A,1,(vW s.aRZ++[[PV.osl q 3 0 n]]).map (fun r=>r.map (PV.cH q 3 rs))),(u,3,(gY (s.exit++[(fL l n i (dW l n i s).2).1])).map (fun r=>r.map (PV.cH q 3 rs)))]:List LI)=_;rw[IK,e2,IK]
   rw[← eB,← eL];exact z5.sub (by rw[aUX]; exact aXG ..) (aVO.refl _)
  ·rw[E]
   (repeat' (first|exact c_|refine d_ ?_ ?_))<;>first|(simp only[go_sem,g0,g4,g5,g6,g7,g8]<;>rfl)|rfl
 ·have B:¬ (i:Int)<(n:Nat):=Om;have:i=n:=Om;subst this;simp only[go_sem,B,Mm];have b4:=F.at 1 rfl;have b6:=F.at 2 rfl;have osl:∀ {w:PV} {z:Nat} {rows:List (List PV)},rows.length=i→cA H0 z w rows→∃ q,w=.osl q z 0 i:=by
   intro w z rows hr hO;rcases hO with ⟨J,_⟩ | ⟨q,rs,J,_⟩
   ·rw[J] at hr; simp at hr; omega
   ·exact⟨q,by rw[J,hr]⟩
  obtain⟨q1,rfl⟩:=osl (by rw[nB,k3]) (F.own 0 rfl);obtain⟨q2,rfl⟩:=osl (by rw[aTJ,k5]) (F.own 1 rfl);obtain⟨q3,rfl⟩:=osl (by rw[nB,k4]) (F.own 2 rfl);have hR:=β (gQ l i b i) rfl;simp only[go_sem,b6,b4,aTW,aUJ,or_false,forall_eq,forall_eq_or_imp];have x1:=F.set 1 rfl (ai (.osl q1 3 0 i) (.osl q2 1 0 i) (.osl q3 3 0 i));obtain⟨r1,s1,s2,s3,s4,s5⟩:=x1.frz 0 rfl;have u2:=s4 1 _ (by decide) rfl;have u3:=s4 2 _ (by decide) rfl;simp only at u2 u3;have u4:=T.frz q1 3 r1;obtain⟨r2,t1,t2,t3,t4,t5⟩:=s5.frz 0 rfl;have m3:=t4 1 _ (by decide) rfl;simp only at m3;have m4:=T.frz q2 1 r2;obtain⟨r3,n1,n2,n3,n4,n5⟩:=t5.frz 0 rfl;have n4:=T.frz q3 3 r3;refine oH (vs:=[.agg [.str [],.osl q1 3 0 i,.osl q2 1 0 i,.osl q3 3 0 i]]) (.inr rfl) ?_ (.step s1 (.step t1 (.step n1 (.done (H2:=PH.nil.set o (bM v (gQ l i b i).a)) ?_ (e_ a_ ?_)))))
  ·simp only[go_sem]
  ·rw[Y,hR];refine⟨?_,rfl⟩;simp only[bQ,PV.frz,PV.qC,aUQ,aVZ,s2,u2,u3,t2,m3,n2];simp only[PV.cH,IK _ _ _ _,Az _ _ _ _]
  ·have:=n5.at 0 rfl;rw[this];simp only[bO.frz,aUQ,aVZ,u4,m4,n4];rfl
structure nT (C:Ctx):Prop extends tP C where
 law:∀ (l:List Nat) (v:PV),Tp l v→∀ (o fD a:Nat),0<fD→fD≤50→a≤l.length→aG C 2 [.ptr o 2 0 0,.int .i64 fD] (PH.nil.set o (bM v a)) (asX l v o fD a)
structure GOk (l:List Nat) (aRU:Nat) (s:GS):Prop where
 aSE:s.aSE.length≤35
 aSO:s.aSO.length≤aRU
 a:s.a≤l.length
theorem ZK {l:List Nat} {mc aRU dom:Nat} {s:GS} (h:GOk l aRU s):∀ i,GOk l aRU (kL l mc aRU dom s i)∧(kL l mc aRU dom s i).aSE=s.aSE
 | 0=>⟨h,rfl⟩
 | i+1=>by
  obtain⟨⟨e,w,j⟩,u⟩:=ZK (mc:=mc) (dom:=dom) h i;simp only[kL];split
  ·exact⟨⟨e,by simp only[aTM,aTT]; omega,bS l mc j⟩,u⟩
  ·exact⟨⟨e,w,j⟩,u⟩
theorem Vj {l:List Nat} {level dom aRU:Nat} {s:GS} (h:GOk l aRU s) (e:qQ aRU s=false):GOk l aRU (oC l level dom s)∧∃ x:cN,(oC l level dom s).aSE=s.aSE++[x]∧x.level=(level:Int)∧x.parent=(dom:Int):=by
 obtain⟨w,j,u⟩:=h;unfold qQ at e;rw[Bool.or_eq_false_iff] at e;have y:=of_decide_eq_false e.2;refine⟨⟨?_,j,?_⟩,_,rfl,rfl,rfl⟩
 ·simp only[oC,aTM,aTT]; omega
 ·have a1:=bS l 3 (bS l 16 u);simp only[oC];split
  ·exact bS l 6 a1
  ·exact a1
theorem ZL {l:List Nat} {level aRU dom:Nat} {rec:Nat→GS→GS} (e:∀ d t,GOk l aRU t→GOk l aRU (rec d t)∧∃ u,(rec d t).aSE=t.aSE++u) {s:GS} (h:GOk l aRU s) :
  ∀ i,GOk l aRU (hQ l level aRU dom rec s i)∧∃ u,(hQ l level aRU dom rec s i).aSE=s.aSE++u
 | 0=>⟨h,[],by simp[hQ]⟩
 | i+1=>by
  obtain⟨j,u,w⟩:=ZL e h i;simp only[hQ];split
  ·exact⟨j,u,w⟩
  ·rename_i y;obtain⟨g1,x,g2,-⟩:=Vj (level:=level) (dom:=dom) j (by simpa using y);obtain⟨k1,A,k2⟩:=e ((oC l level dom (hQ l level aRU dom rec s i)).aSE.length-1) _ g1;exact⟨k1,u++[x]++A,by rw[k2,g2,w]; simp⟩
theorem ZM {l:List Nat} {mc aRU:Nat}:∀ (k dom:Nat) {s:GS},GOk l aRU s→GOk l aRU (fG l mc aRU k dom s)∧∃ u,(fG l mc aRU k dom s).aSE=s.aSE++u
 | 0,dom,s,h=>by have e:GOk l aRU { s with a:=(aF l 2 s.a).2 }:=⟨h.aSE,h.aSO,bS l 2 h.a⟩;obtain⟨j,w⟩:=ZK (mc:=mc) (dom:=dom) e (1+(aF l 2 s.a).1);exact⟨j,[],by simp only[fG]; rw[w]; simp⟩
 | k+1,dom,s,h=>by have e:GOk l aRU { s with a:=(aF l 2 s.a).2 }:=⟨h.aSE,h.aSO,bS l 2 h.a⟩;exact ZL (level:=4-k) (dom:=dom) (fun d t x=>ZM k d x) e (if 4-k=2 then 1 else 1+(aF l 2 s.a).1)
theorem ahN {l : List Nat} {level aRU dom : Nat} {rec : Nat → GS → GS} {s : GS} {i : Nat} (h : qQ aRU (hQ l level aRU dom rec s i) = true) : ∀ n, i ≤ n → hQ l level aRU dom rec s n = hQ l level aRU dom rec s i := by
  intro n hn
  induction n with
  | zero => have : i = 0 := Om
            subst this; rfl
  | succ n ih =>
    rcases aUE n i with h' | h'
    · have : i = n + 1 := Om
      subst this; rfl
    · have e := ih h'
      simp only [hQ];rw [e, if_pos h]
def mkS (l:List Nat) (v:PV):Spec:=fun name vs=>match name,vs with
 | 29,[.str s,.int _ i]=>some ([],fun _=>aI (.str (s++cC i.toNat)))
 | 47,[.int _ n]=>some ([],fun _=>aI (.agg (mkT n 1).cells))
 | 4,[.ptr o _ _ _,.int _ n]=>some ([o],fun e r H'=>∀ a,e o=some (bM v a)→gl l v o n.toNat a r H')
 | _,_=>none
section
variable {C:Ctx} {F:PF} {H Hs:PH} {l:List Nat} {v:PV} {o a:Nat}
theorem sF (w:HM C) (T:Tp l v) {n:Nat} {st:Bool} {args:List aN} {d:Option Nat} {K:PF→PH→Prop} (E:n≤1000000) (A:a≤l.length) (e:aN.evs F args=some [.ptr o 2 0 0,.int .i64 n]) (I:H o=some (bM v a))
  (j:Hs.le (H.set o (bM v (aF l n a).2))) (B:K (F.put d (.int .i64 ((aF l n a).1:Nat))) (H.set o (bM v (aF l n a).2))):dOp C Hs (mkS l v) st (.call 4 args) d K F H:=by
 refine atP (x:=bM v a) (y:=bM v (aF l n a).2) (r:=.int .i64 ((aF l n a).1:Nat)) (R:=fun u r H'=>∀ a,u o=some (bM v a)→gl l v o n a r H') rfl I (w.next l v T o n a E A) ?_ ?_ e j B
 ·intro b hb;rw[cL] at hb;injection hb with hb
  injection hb with _ hb
  injection hb with hb _
  injection hb with _ hb
  injection hb with hb _
  injection hb with _ hb
  have:a=b:=Om;subst this;exact⟨rfl,rfl⟩
 ·intro M H' J;exact J a (by rw[cL])
theorem HU (u:tP C) {s:List UInt8} {n:Nat} {st:Bool} {args:List aN} {d:Option Nat} {K:PF→PH→Prop} (y:s.length≤100) (x:n<100) (e:aN.evs F args=some [.str s,.int .i64 n]) (j:Hs.le H) (w:K (F.put d (.str (s++cC n))) H) :
  dOp C Hs (mkS l v) st (.call 29 args) d K F H :=
 bX (v:=.str (s++cC n)) rfl (u.name s n y x) e j w
theorem aCM (u:HM C) {n:Int} {st:Bool} {args:List aN} {d:Option Nat} {K:PF→PH→Prop} (x:dN n) (e:aN.evs F args=some [.int .i64 n]) (j:Hs.le H) (w:K (F.put d (.agg (mkT n 1).cells)) H) :
  dOp C Hs (mkS l v) st (.call 47 args) d K F H :=
 bX (v:=.agg (mkT n 1).cells) rfl (u.int n x) e j w
end
theorem cA.uA {H:PH} {s:Nat} {v:PV} {rows:List (List PV)} (h:cA H s v rows):PV.uA v=some (.int .i64 (rows.length:Nat)):=by
 rcases h with ⟨rfl,rfl⟩ | ⟨q,rs,rfl,_⟩<;>rfl
abbrev kX (l:List cN):List (List PV):=l.map cN.cells
abbrev nA (l:List dQ):List (List PV):=l.map dQ.cells
abbrev flB (ext wl j e l wp wv:PV):bO:=.rows 7 [[ext,wl,j,e,l,wp,wv]]
structure GE where
 o:Nat
 fo:Nat
 qm:Nat
 ext:PV
 wl:PV
 wp:PV
 wv:PV
abbrev GE.boxes (G:GE) (v:PV) (mc:Nat) (e j:PV) (a:Nat):List BX:=[(G.o,bM v a),(G.fo,flB G.ext G.wl (.osl G.qm 4 0 mc) e j G.wp G.wv)]
abbrev mS (s:GS) (e j:PV):List LI:=[(e,7,kX s.aSE),(j,3,nA s.aSO)]
def fM (G:GE) (dom aRU level n i:Nat):PF:=(((((((PF.nil.set 0 (.ptr G.o 2 0 0)).set 1 (.ptr G.fo 7 0 0)).set 2 (.int .i64 dom)).set 3 (.int .i64 aRU)).set 8 (.int .i64 level)).set 9 (.int .i64 n)).set 10 (.int .i64 i))
theorem cA.one {H:PH} {s:Nat} {v:PV} {rows:List (List PV)} (h:cA H s v rows) (e:0<rows.length):∃ q,v=.osl q s 0 rows.length:=by
 rcases h with ⟨rfl,_⟩ | ⟨q,rs,rfl,_⟩
 ·simp at e
 ·exact⟨q,rfl⟩
theorem L4 {C:Ctx} (U:nT C) {l:List Nat} {v:PV} (T:Tp l v) (G:GE) (mc aRU dom n:Nat) (δ:0<mc) (β:mc≤1000) (γ:aRU≤60) (hn:n≤10) (s:GS) (hs:GOk l aRU s) (w y:PV) (K:cE) (F:PF) (H:PH)
  (hF:(fM G dom aRU 5 n 0).le F) (x:aM H (G.boxes v mc w y s.a) (mS s w y))
  (hK:∀ J B F' H',aM H' (G.boxes v mc J B (kL l mc aRU dom s n).a) (mS (kL l mc aRU dom s n) J B)→K (.exit 0) F' H') :
  aC.wp C (.loop xI) K F H:=by
 refine wp_loop (α:=Nat × PV × PV × PH) (fun t=>fM G dom aRU 5 n t.1) (fun t=>t.2.2.2) (fun t=>t.1≤n∧aM t.2.2.2 (G.boxes v mc t.2.1 t.2.2.1 (kL l mc aRU dom s t.1).a) (mS (kL l mc aRU dom s t.1) t.2.1 t.2.2.1)) (fun t=>n-t.1) (0,w,y,H) ⟨aTQ _,x⟩ hF b_ ?_;rintro⟨i,w,y,S⟩ ⟨hi,x⟩;simp only at hi x ⊢;obtain⟨O,-⟩:=ZK (mc:=mc) (dom:=dom) hs i;have j:kL l mc aRU dom s (i+1)=(if (kL l mc aRU dom s i).aSO.length<aRU then { kL l mc aRU dom s i with aSO:=(kL l mc aRU dom s i).aSO++[⟨[100]++cC (kL l mc aRU dom s i).aSO.length,((aF l mc (kL l mc aRU dom s i).a).1:Nat),(dom:Nat)⟩],a:=(aF l mc (kL l mc aRU dom s i).a).2 } else kL l mc aRU dom s i):=rfl;simp only[go_sem,xI,bc,fM];by_cases hlt:i<n
 ·have u:(i:Int)<(n:Nat):=Om;generalize hg:kL l mc aRU dom s i=g at *
  have M:=x.at 1 rfl;have R:=(x.own 1 rfl).uA;rw[aTJ] at R;have W:=wZz i;simp only[go_sem,u,bd,show (((5:Nat):Int)==5)=true from rfl,Ma,M,R];by_cases Z:g.aSO.length<aRU
  ·have A:(g.aSO.length:Int)<(aRU:Nat):=Om;rw[if_pos Z] at j;simp only[go_sem,A];have I:(PH.nil.set G.fo (flB G.ext G.wl (.osl G.qm 4 0 mc) w y G.wp G.wv)).le S:=e_ a_ M;refine bC (PH.nil.set G.fo (flB G.ext G.wl (.osl G.qm 4 0 mc) w y G.wp G.wv)) (mkS l v) I ?_;simp only[go_sem,Mb,M,R];refine HU U.totP (s:=[100]) (n:=g.aSO.length) (by decide) (by have:=O.aSO; omega) rfl I ?_;simp only[go_sem];have ho:=x.at 0 rfl;have X:=x.set 0 rfl (bM v (aF l mc g.a).2);have N:=X.at 1 rfl;refine sF U.toHM T (o:=G.o) (n:=mc) (a:=g.a) Om O.a rfl ho (e_ a_ N) ?_;have E:(1:Nat)*3≤16777216:=by decide
   simp only[go_sem,E,aTW,aUJ,or_false,forall_eq,forall_eq_or_imp];refine X.append 1 (src:=[(⟨[100]++cC g.aSO.length,((aF l mc g.a).1:Nat),(dom:Nat)⟩:dQ).cells]) rfl rfl (by unfold roomFor; rw[aTJ]; have:=O.aSO; simp only[aTT,maxLen]; omega) fun B H2 Y hw=>?_;obtain⟨q,rfl⟩:=hw (by simp);have V:=Y.at 1 rfl;refine⟨e_ a_ V,?_⟩;refine bC .nil cX a_ ?_;simp only[go_sem,Mc,V,aTW,aUJ,or_false,forall_eq];have h3:=Y.set 1 rfl (flB G.ext G.wl (.osl G.qm 4 0 mc) w (.osl q 3 0 (nA g.aSO++[(⟨[100]++cC g.aSO.length,((aF l mc g.a).1:Nat),(dom:Nat)⟩:dQ).cells]).length) G.wp G.wv);refine⟨a_,?_⟩;simp only[go_sem,xJ,W];refine aH (i+1,w,.osl q 3 0 (nA g.aSO++[(⟨[100]++cC g.aSO.length,((aF l mc g.a).1:Nat),(dom:Nat)⟩:dQ).cells]).length,_) ⟨hlt,?_⟩ (by simp only; omega) ?_ b_
   ·rw[j];have e:nA (g.aSO++[(⟨[100]++cC g.aSO.length,((aF l mc g.a).1:Nat),(dom:Nat)⟩:dQ)])=nA g.aSO++[(⟨[100]++cC g.aSO.length,((aF l mc g.a).1:Nat),(dom:Nat)⟩:dQ).cells]:=by simp[nA]
    unfold mS;simp only;rw[e];exact h3
   ·exact Lq
  ·have A:¬ (g.aSO.length:Int)<(aRU:Nat):=Om;rw[if_neg Z] at j;simp only[go_sem,A,xJ,W];refine aH (i+1,w,y,S) ⟨hlt,by rw[j]; exact x⟩ (by simp only; omega) ?_ b_;exact Lq
 ·have u:¬ (i:Int)<(n:Nat):=Om;have:i=n:=Om;subst this;simp only[go_sem,u];exact hK w y _ _ x
def afP (G:GE) (v:PV) (mc:Nat) (s':GS) (r:PV) (B':List BX) (L':List LI):Prop:=r=.tup []∧∃ e j,B'=G.boxes v mc e j s'.a∧L'=mS s' e j
def gj (C:Ctx) (l:List Nat) (v:PV) (mc aRU k:Nat):Prop :=
 ∀ (G:GE) (j u:PV) (s:GS) (dom:Nat) (x:cN),GOk l aRU s→s.aSE[dom]?=some x→x.level=4-(k:Int)→∀ e,aM e (G.boxes v mc j u s.a) (mS s j u) →
  aG C 7 [.ptr G.o 2 0 0,.ptr G.fo 7 0 0,.int .i64 dom,.int .i64 aRU] e (fun r H'=>∃ B' L',afP G v mc (fG l mc aRU k dom s) r B' L'∧aM H' B' L')
theorem anZ {e:Nat} (h:e≤4):([45,115,114,107,109]:List UInt8)[e]?=some (mE e):=by
 match e,h with
 | 0,_=>rfl
 | 1,_=>rfl
 | 2,_=>rfl
 | 3,_=>rfl
 | 4,_=>rfl
theorem VT {C:Ctx} {l:List Nat} {v:PV} (G:GE) (mc aRU dom A n i k p:Nat) (γ:A=4-k) (hk:k<4) (y:gj C l v mc aRU k) (g:GS) (x:cN) (a:Nat) (W:GOk l aRU { g with aSE:=g.aSE++[x],a:=a }) (hx:x.level=(A:Nat)) (X w:PV) (β:aRU≤60) (K:cE) (F:PF) (H:PH)
  (j:(fM G dom aRU A n i).le F) (f11:F 11=some (.ptr p 7 0 0)) (J:aM H (G.boxes v mc X w a++[(p,.rows 7 [x.cells])]) (mS g X w))
  (hK:∀ u B U H',(fM G dom aRU A n i).le U→aM H' (G.boxes v mc u B (fG l mc aRU k g.aSE.length { g with aSE:=g.aSE++[x],a:=a }).a) (mS (fG l mc aRU k g.aSE.length { g with aSE:=g.aSE++[x],a:=a }) u B)→K .normal U H') :
  aC.wp C (.draw QR) (jV C (aC.wp C (.region QS)) K) F H:=by
 have f0:F 0=some (.ptr G.o 2 0 0):=j 0 _ (by unfold fM; simp only[go_sem]);have f1:F 1=some (.ptr G.fo 7 0 0):=j 1 _ (by unfold fM; simp only[go_sem]);have f2:F 2=some (.int .i64 dom):=j 2 _ (by unfold fM; simp only[go_sem]);have f3:F 3=some (.int .i64 aRU):=j 3 _ (by unfold fM; simp only[go_sem]);have f8:F 8=some (.int .i64 A):=j 8 _ (by unfold fM; simp only[go_sem]);have f9:F 9=some (.int .i64 n):=j 9 _ (by unfold fM; simp only[go_sem]);have α:F 10=some (.int .i64 i):=j 10 _ (by unfold fM; simp only[go_sem]);have O:=W.aSE;simp only[aTM,aTT] at O;have Z:=J.at 1 rfl;have b2:=J.at 2 rfl;have E:(1:Nat)*7≤16777216:=by decide
 refine bC .nil cX a_ ?_;simp only[go_sem,QR,f1,f11,Z,b2,E,aTW,aUJ,or_false,forall_eq,forall_eq_or_imp];refine J.append 0 (src:=[x.cells]) rfl rfl (by unfold roomFor; rw[aTJ]; simp only[aTT,maxLen]; omega) fun u H2 I hw=>?_;obtain⟨q,rfl⟩:=hw (by simp);have hl:(kX g.aSE++[x.cells]).length=g.aSE.length+1:=by simp
 rw[hl] at I ⊢;have c1:=I.at 1 rfl;refine⟨a_,?_⟩;simp only[go_sem,c1,aTW,aUJ,or_false,forall_eq];have V:=I.set 1 rfl (flB G.ext G.wl (.osl G.qm 4 0 mc) (.osl q 7 0 (g.aSE.length+1)) w G.wp G.wv);have c2:=V.at 1 rfl;refine⟨a_,?_⟩;have e:kX (g.aSE++[x])=kX g.aSE++[x.cells]:=by simp[kX]
 have ew:IntKind.i64.wrap (((g.aSE.length+1:Nat):Int)-1)=(g.aSE.length:Int):=by rw[wrap_i64 Om Om]; omega
 simp only[go_sem,QS,f0,f1,f3,ew];have h4:aM (H2.set G.fo (flB G.ext G.wl (.osl G.qm 4 0 mc) (.osl q 7 0 (g.aSE.length+1)) w G.wp G.wv)) (G.boxes v mc (.osl q 7 0 (g.aSE.length+1)) w a++[(p,.rows 7 [x.cells])]) (mS { g with aSE:=g.aSE++[x],a:=a } (.osl q 7 0 (g.aSE.length+1)) w++[]):=by unfold mS;simp only;rw[e];exact V
 refine FX h4 (fun Y N=>y G _ w { g with aSE:=g.aSE++[x],a:=a } g.aSE.length x W (by simp) (by rw[hx]; omega) Y N) rfl ?_;rintro r B' L' H' ⟨rfl,R,S,rfl,rfl⟩ M;refine hK R S _ _ ?_ (M.sub (aXG ..) (by rw[aVC]; exact aVO.refl _));unfold fM;exact Lq
theorem OJ {C:Ctx} (V:nT C) {l:List Nat} {v:PV} (T:Tp l v) (G:GE) (mc aRU dom n k:Nat) (hk:k<4) (X:aRU≤60) (hn:n≤10) (R:gj C l v mc aRU k) (s:GS) (hs:GOk l aRU s) (ζ:0<s.aSE.length) (N O:PV) (K:cE) (F:PF) (H:PH)
  (hF:(fM G dom aRU (4-k) n 0).le F) (E:aM H (G.boxes v mc N O s.a) (mS s N O))
  (hK:∀ e A B y H',(e=.exit 0∨e=.ret)→aM H' (G.boxes v mc A B (hQ l (4-k) aRU dom (fG l mc aRU k) s n).a) (mS (hQ l (4-k) aRU dom (fG l mc aRU k) s n) A B)→K e y H') :
  aC.wp C (.loop xI) K F H:=by
 obtain⟨j,U⟩:∃ j,j=4-k:=⟨_,rfl⟩;rw[← U] at hF hK;refine wp_loop (α:=Nat × PV × PV × PH) (fun t=>fM G dom aRU j n t.1) (fun t=>t.2.2.2) (fun t=>t.1≤n∧aM t.2.2.2 (G.boxes v mc t.2.1 t.2.2.1 (hQ l j aRU dom (fG l mc aRU k) s t.1).a) (mS (hQ l j aRU dom (fG l mc aRU k) s t.1) t.2.1 t.2.2.1)) (fun t=>n-t.1) (0,N,O,H) ⟨aTQ _,E⟩ hF b_ ?_;rintro⟨i,N,O,H0⟩ ⟨hi,E⟩;simp only at hi E ⊢;obtain⟨Z,u,gu⟩:=ZL (level:=j) (dom:=dom) (fun d t ht=>ZM (mc:=mc) k d ht) hs i;have J:=fun h=>ahN (l:=l) (level:=j) (aRU:=aRU) (dom:=dom) (rec:=fG l mc aRU k) (s:=s) (i:=i) h n hi;have x:hQ l j aRU dom (fG l mc aRU k) s (i+1)=(if qQ aRU (hQ l j aRU dom (fG l mc aRU k) s i) then hQ l j aRU dom (fG l mc aRU k) s i else fG l mc aRU k ((oC l j dom (hQ l j aRU dom (fG l mc aRU k) s i)).aSE.length-1) (oC l j dom (hQ l j aRU dom (fG l mc aRU k) s i))):=rfl;simp only[go_sem,xI,bc,fM];by_cases hlt:i<n
 ·have M:(i:Int)<(n:Nat):=Om;generalize hg:hQ l j aRU dom (fG l mc aRU k) s i=g at *
  have ε:0<g.aSE.length:=by rw[gu,aTM]; omega
  have b1:=E.at 1 rfl;have lr:=(E.own 1 rfl).uA;have ld:=(E.own 0 rfl).uA;rw[aTJ] at lr ld;have ei:=wZz i;simp only[go_sem,M,bd,bE (Om:((j:Nat):Int)≠5),yb,b1,lr];by_cases c1:aRU≤g.aSO.length
  ·have W:qQ aRU g=true:=by unfold qQ; simp[c1]
   simp only[go_sem,show (g.aSO.length:Int)≥(aRU:Nat) by omega];exact hK _ N O _ _ (.inr rfl) (by rw[J W]; exact E)
  simp only[go_sem,show ¬ (g.aSO.length:Int)≥(aRU:Nat) by omega,b1,ld];by_cases c2:35≤g.aSE.length
  ·have W:qQ aRU g=true:=by unfold qQ; simp[c2]
   simp only[go_sem,show (g.aSE.length:Int)≥35 by omega];exact hK _ N O _ _ (.inr rfl) (by rw[J W]; exact E)
  have W:qQ aRU g=false:=by unfold qQ; simp[c1,c2]
  rw[if_neg (by rw[W]; decide)] at x;simp only[go_sem,show ¬ (g.aSE.length:Int)≥35 by omega];have ls:=anZ (Om:j≤4);refine bC .nil (mkS l v) a_ ?_;have γ:pZ [[PV.int IntKind.u8 (((mE j).toNat:Nat):Int)]]=some [mE j]:=by simp[pZ]
  obtain⟨Y,x0,β,-⟩:=Vj (level:=j) (dom:=dom) Z W;have δ:(oC l j dom g).aSE.length-1=g.aSE.length:=by rw[β]; simp
  rw[δ] at x;have h1:=E.set 0 rfl (bM v (aF l 16 g.a).2);have a1:=bS l 16 Z.a;have n1:=cS l (show 0<16 by decide) g.a;have e1:IntKind.i64.wrap (1+((aF l 16 g.a).1:Int))=((1+(aF l 16 g.a).1:Nat):Int):=by rw[wrap_i64 Om Om]; omega
  simp only[go_sem,yc,ls,γ,b1,ld];refine HU V.totP (s:=[mE j]) (n:=g.aSE.length) (by simp) (by have:=Z.aSE; omega) rfl a_ ?_;simp only[go_sem];refine sF V.toHM T (o:=G.o) (n:=16) (a:=g.a) Om Z.a rfl (E.at 0 rfl) a_ ?_;simp only[go_sem,e1];refine aCM V.toHM (n:=0) (by unfold dN; omega) rfl a_ ?_;simp only[go_sem,aTW,aUJ,or_false,forall_eq,forall_eq_or_imp];refine aO fun p hp=>?_;have h2:=h1.new hp (.rows 7 [(⟨[mE j]++cC g.aSE.length,(j:Nat),(dom:Nat),(1+(aF l 16 g.a).1:Nat),kO⟩:cN).cells]);simp only[go_sem,aTW,aUJ,or_false,forall_eq,forall_eq_or_imp];refine⟨a_,?_⟩;simp only[go_sem,yd];refine dT V.toHM T (o:=G.o) (n:=3) (a:=(aF l 16 g.a).2) (by decide) a1 rfl (h2.at 0 rfl) ?_;have h3:=h2.set 0 rfl (bM v (aF l 3 (aF l 16 g.a).2).2);have a2:=bS l 3 a1;by_cases c3:(aF l 3 (aF l 16 g.a).2).1=0
  ·have hd:oC l j dom g={ g with aSE:=g.aSE++[⟨[mE j]++cC g.aSE.length,(j:Nat),(dom:Nat),(1+(aF l 16 g.a).1:Nat),mkT 1 ((2+(aF l 6 (aF l 3 (aF l 16 g.a).2).2).1:Nat):Int)⟩],a:=(aF l 6 (aF l 3 (aF l 16 g.a).2).2).2 }:=by unfold oC; simp only[c3,if_true]
   rw[hd] at x Y;have n2:=cS l (show 0<6 by decide) (aF l 3 (aF l 16 g.a).2).2;have e2:IntKind.i64.wrap (2+((aF l 6 (aF l 3 (aF l 16 g.a).2).2).1:Int))=((2+(aF l 6 (aF l 3 (aF l 16 g.a).2).2).1:Nat):Int):=by rw[wrap_i64 Om Om]; omega
   simp only[go_sem,bP (show (((aF l 3 (aF l 16 g.a).2).1:Nat):Int)=0 by omega),ye];refine dT V.toHM T (o:=G.o) (n:=6) (a:=(aF l 3 (aF l 16 g.a).2).2) (by decide) a2 rfl (h3.at 0 rfl) ?_;have h4:=h3.set 0 rfl (bM v (aF l 6 (aF l 3 (aF l 16 g.a).2).2).2);rw[PH.set_set] at h4;simp only[go_sem,e2];refine aA (V.fmk 1 ((2+(aF l 6 (aF l 3 (aF l 16 g.a).2).2).1:Nat):Int) (by unfold dN; omega) (by unfold dN; omega)) rfl ?_;unfold xN;rw[if_neg Om];simp only[go_sem,show ¬ p=G.o from h4.ne 2 0 rfl rfl (by decide)];have h5:=h4.set 2 rfl (.rows 7 [(⟨[mE j]++cC g.aSE.length,(j:Nat),(dom:Nat),(1+(aF l 16 g.a).1:Nat),mkT 1 ((2+(aF l 6 (aF l 3 (aF l 16 g.a).2).2).1:Nat):Int)⟩:cN).cells])
   try simp only[vt]
   refine VT G mc aRU dom j n i k p U hk R g _ _ Y rfl N O X _ _ _ (by unfold fM; exact Lq) rfl h5 ?_;intro A B y H' w I;rw[← x] at I;have S:y 10=some (.int .i64 i):=w 10 _ (by unfold fM; simp only[go_sem]);have g0:y 0=some (.ptr G.o 2 0 0):=w 0 _ (by unfold fM; simp only[go_sem]);have g1:y 1=some (.ptr G.fo 7 0 0):=w 1 _ (by unfold fM; simp only[go_sem]);have g2:y 2=some (.int .i64 dom):=w 2 _ (by unfold fM; simp only[go_sem]);have g3:y 3=some (.int .i64 aRU):=w 3 _ (by unfold fM; simp only[go_sem]);have g8:y 8=some (.int .i64 j):=w 8 _ (by unfold fM; simp only[go_sem]);have g9:y 9=some (.int .i64 n):=w 9 _ (by unfold fM; simp only[go_sem]);simp only[go_sem,xJ,S,ei];refine aH (i+1,A,B,H') ⟨hlt,I⟩ (by simp only; omega) ?_ b_;exact Lq
  ·have hd:oC l j dom g={ g with aSE:=g.aSE++[⟨[mE j]++cC g.aSE.length,(j:Nat),(dom:Nat),(1+(aF l 16 g.a).1:Nat),kO⟩],a:=(aF l 3 (aF l 16 g.a).2).2 }:=by unfold oC; simp only[c3,if_false]
   rw[hd] at x Y;simp only[go_sem,bE (show ¬ (((aF l 3 (aF l 16 g.a).2).1:Nat):Int)=0 by omega)]
   try simp only[vt]
   refine VT G mc aRU dom j n i k p U hk R g _ _ Y rfl N O X _ _ _ (by unfold fM; exact Lq) rfl h3 ?_;intro A B y H' w I;rw[← x] at I;have S:y 10=some (.int .i64 i):=w 10 _ (by unfold fM; simp only[go_sem]);have g0:y 0=some (.ptr G.o 2 0 0):=w 0 _ (by unfold fM; simp only[go_sem]);have g1:y 1=some (.ptr G.fo 7 0 0):=w 1 _ (by unfold fM; simp only[go_sem]);have g2:y 2=some (.int .i64 dom):=w 2 _ (by unfold fM; simp only[go_sem]);have g3:y 3=some (.int .i64 aRU):=w 3 _ (by unfold fM; simp only[go_sem]);have g8:y 8=some (.int .i64 j):=w 8 _ (by unfold fM; simp only[go_sem]);have g9:y 9=some (.int .i64 n):=w 9 _ (by unfold fM; simp only[go_sem]);simp only[go_sem,xJ,S,ei];refine aH (i+1,A,B,H') ⟨hlt,I⟩ (by simp only; omega) ?_ b_;exact Lq
 ·have M:¬ (i:Int)<(n:Nat):=Om;have:i=n:=Om;subst this;simp only[go_sem,M];exact hK _ N O _ _ (.inl rfl) E
theorem L5 {C:Ctx} (O:nT C) {l:List Nat} {v:PV} (T:Tp l v) (mc aRU k:Nat) (V:0<mc) (J:mc≤1000) (E:aRU≤60) (hk:k≤4) (M:∀ k',k=k'+1→gj C l v mc aRU k') (G:GE) (X N:PV) (s:GS) (dom:Nat) (x:cN)
  (R:GOk l aRU s) (Z:s.aSE[dom]?=some x) (hl:x.level=4-(k:Int)) (S:PH) (I:aM S (G.boxes v mc X N s.a) (mS s X N)) :
  yS.wp C (aR D7.res (fun r H'=>∃ B' L',afP G v mc (fG l mc aRU k dom s) r B' L'∧aM H' B' L')) (PF.args [.ptr G.o 2 0 0,.ptr G.fo 7 0 0,.int .i64 dom,.int .i64 aRU]) S:=by
 have B:dom<s.aSE.length:=(aUN.1 Z).1;have b1:=I.at 1 rfl;have fin:∀ (e:kT) (j u:PV) (y:PF) (H':PH),(e=.exit 0∨e=.ret)→aM H' (G.boxes v mc j u (fG l mc aRU k dom s).a) (mS (fG l mc aRU k dom s) j u) →
   fA 0 (aR D7.res (fun r H'=>∃ B' L',afP G v mc (fG l mc aRU k dom s) r B' L'∧aM H' B' L')) e y H':=by
  intro e j u y H' he w;rcases he with rfl | rfl
  ·rw[DL,if_pos rfl];exact aV (vs:=[]) (.inl rfl) H' rfl b_ ⟨_,_,⟨rfl,j,u,rfl,rfl⟩,w⟩
  ·exact aV (vs:=[]) (.inr rfl) H' rfl b_ ⟨_,_,⟨rfl,j,u,rfl,rfl⟩,w⟩
 obtain⟨q,rs,e1,e2,e3,e4⟩:∃ q rs,X=.osl q 7 0 s.aSE.length∧S q=some (.rows 7 rs)∧s.aSE.length≤rs.length∧rs.take s.aSE.length=kX s.aSE:=by
  rcases I.own 0 rfl with ⟨A,_⟩ | ⟨q,rs,A,h2,h3,h4⟩
  ·have:=congrArg List.length A;rw[aTJ] at this;simp at this; rw[this] at B; simp at B
  ·rw[aTJ] at A h3 h4;exact⟨q,rs,A,h2,h3,h4⟩
 have W:rs[dom]?=some x.cells:=by
  have:(kX s.aSE)[dom]?=some x.cells:=by simp[kX,Z]
  rw[← e4,List.getElem?_take_of_lt B] at this;exact this
 subst e1;have c1:(dom:Int)<(s.aSE.length:Nat):=Om;have ew:IntKind.i64.wrap (x.level+1)=((5-k:Nat):Int):=by rw[hl,wrap_i64 Om Om]; omega
 have β:=cS l (show 0<2 by decide) s.a;have en:IntKind.i64.wrap (1+((aF l 2 s.a).1:Int))=((1+(aF l 2 s.a).1:Nat):Int):=by rw[wrap_i64 Om Om]; omega
 have A:=I.set 0 rfl (bM v (aF l 2 s.a).2);have F:GOk l aRU { s with a:=(aF l 2 s.a).2 }:=⟨R.aSE,R.aSO,bS l 2 R.a⟩;have α:¬ q=G.o:=fun h=>I.neL 0 0 rfl rfl rfl h.symm;simp only[go_sem,yS,L6,b1,c1,e2,W,ew,L7];refine dT O.toHM T (o:=G.o) (n:=2) (a:=s.a) (by decide) R.a (by simp only[go_sem]; rfl) (I.at 0 rfl) ?_;simp only[go_sem,en,L8];cases k with
 | zero =>
  simp only[go_sem,bE (Om:¬ ((5-0:Nat):Int)=2),KC];refine L4 (C:=C) O T G mc aRU dom (1+(aF l 2 s.a).1) V J E Om { s with a:=(aF l 2 s.a).2 } F _ N _ _ _ ?_ A ?_
  ·unfold fM;exact Lq
  ·intro j u y H' w;exact fin _ j u y H' (.inl rfl) w
 | succ k =>
  have K:=M k rfl;by_cases Y:4-k=2
  ·have U:fG l mc aRU (k+1) dom s=hQ l (4-k) aRU dom (fG l mc aRU k) { s with a:=(aF l 2 s.a).2 } 1:=by simp only[fG,if_pos Y]
   simp only[go_sem,bP (show ((5-(k+1):Nat):Int)=2 by omega),L9,KC];refine OJ (C:=C) O T G mc aRU dom 1 k Om E (by decide) K { s with a:=(aF l 2 s.a).2 } F (by simp only; omega) _ N _ _ _ ?_ A ?_
   ·unfold fM
    (repeat' (first|exact c_|refine d_ ?_ ?_))<;>first|(simp only[go_sem,show 4-k=5-(k+1) by omega]<;>rfl)|rfl
   ·intro e j u y H' he w;rw[← U] at w;exact fin e j u y H' he w
  ·have U:fG l mc aRU (k+1) dom s=hQ l (4-k) aRU dom (fG l mc aRU k) { s with a:=(aF l 2 s.a).2 } (1+(aF l 2 s.a).1):=by simp only[fG,if_neg Y]
   simp only[go_sem,bE (show ¬ ((5-(k+1):Nat):Int)=2 by omega),KC];refine OJ (C:=C) O T G mc aRU dom (1+(aF l 2 s.a).1) k Om E Om K { s with a:=(aF l 2 s.a).2 } F (by simp only; omega) _ N _ _ _ ?_ A ?_
   ·unfold fM
    (repeat' (first|exact c_|refine d_ ?_ ?_))<;>first|(simp only[go_sem,show 4-k=5-(k+1) by omega]<;>rfl)|rfl
   ·intro e j u y H' he w;rw[← U] at w;exact fin e j u y H' he w
theorem Jr {C:Ctx} (A:nT C) {l:List Nat} {v:PV} (T:Tp l v) (mc aRU:Nat) (w:0<mc) (j:mc≤1000) (u:aRU≤60)
  (B:∀ (args:List PV) (H:PH) (R:PV→PH→Prop),args.length=4→yS.wp C (aR D7.res R) (PF.args args) H→aG C 7 args H R):∀ k,k≤4→gj C l v mc aRU k
 | 0,h=>fun G K M s dom x I J F y E=>B _ _ _ rfl (L5 A T mc aRU 0 w j u h (fun _ e=>by omega) G K M s dom x I J F y E)
 | k+1,h=>fun G K M s dom x I J F y E=>B _ _ _ rfl (L5 A T mc aRU (k+1) w j u h (fun N e=>by have:N=k:=Om;subst this;exact Jr A T mc aRU w j u B N Om) G K M s dom x I J F y E)
theorem aEK (l:List Nat) (fD:Nat) {a:Nat} (h:a≤l.length):(rK l fD a).2≤l.length:=(s7 l (1+(aF l fD a).1) (bS l fD h) (1+(aF l fD a).1)).1
theorem aj (l:List Nat) {a:Nat} (h:a≤l.length):∀ k,(jK l a k).2≤l.length∧(jK l a k).1.length=k
 | 0=>⟨h,rfl⟩
 | k+1=>by obtain⟨e,j⟩:=aj l h k;exact⟨aEK l 2 e,by simp only[jK,aTM,aTT,j]⟩
theorem KJ (l:List Nat) (aSC:Nat) {a:Nat} (h:a≤l.length):∀ k,(eW l aSC a k).2≤l.length∧(eW l aSC a k).1.length=k
 | 0=>⟨h,rfl⟩
 | k+1=>by obtain⟨e,j⟩:=KJ l aSC h k;exact⟨bS l aSC (bS l 8 (bS l 4 e)),by simp only[eW,aTM,aTT,j]⟩
structure FE where
 o:Nat
 o6:Nat
 o7:Nat
 aRU:Nat
 aRW:Nat
abbrev flZ:bO:=flB (.int .i64 0) .aB .aB .aB .aB .aB .aB
abbrev FE.boxes (E:FE) (v ext e j l u w x:PV) (a:Nat):List BX:=[(E.o,bM v a),(E.o7,flB ext e j l u w x),(E.o6,flZ)]
def gG (E:FE):PF:=(((((PF.nil.set 0 (.ptr E.o 2 0 0)).set 1 (.int .i64 E.aRU)).set 2 (.int .i64 E.aRW)).set 6 (.ptr E.o6 7 0 0)).set 7 (.ptr E.o7 7 0 0))
abbrev jH (l:List cI):List (List PV):=l.map cI.cells
abbrev kP (l:List cZ):List (List PV):=l.map cZ.cells
theorem UQ {E:FE} {F:PF} (e:F 0=some (.ptr E.o 2 0 0)) (j:F 1=some (.int .i64 E.aRU)) (l:F 2=some (.int .i64 E.aRW)) (u:F 6=some (.ptr E.o6 7 0 0)) (h7:F 7=some (.ptr E.o7 7 0 0)):(gG E).le F :=
 d_ (d_ (d_ (d_ (d_ c_ e) j) l) u) h7
theorem awF {C:Ctx} (N:nT C) {l:List Nat} {v:PV} (T:Tp l v) (E:FE) (n a:Nat) (hn:n≤10) (Y:a≤l.length) (ext:PV) (K:cE) (F:PF) (H:PH)
  (W:(((gG E).set 8 (.int .i64 n)).set 9 (.int .i64 0)).le F) (x:aM H (E.boxes v ext .aB .aB .aB .aB .aB .aB a) [])
  (X:∀ I M H',(gG E).le M→aM H' (E.boxes v ext I .aB .aB .aB .aB .aB (jK l a n).2) [(I,4,jH (jK l a n).1)]→K (.exit 0) M H') :
  aC.wp C (.loop QQ) K F H:=by
 refine wp_loop (α:=Nat × PV × PH) (fun t=>((gG E).set 8 (.int .i64 n)).set 9 (.int .i64 t.1)) (fun t=>t.2.2) (fun t=>t.1≤n∧aM t.2.2 (E.boxes v ext t.2.1 .aB .aB .aB .aB .aB (jK l a t.1).2) [(t.2.1,4,jH (jK l a t.1).1)]) (fun t=>n-t.1) (0,.aB,H) ⟨aTQ _,x.kS 4⟩ W b_ ?_;rintro⟨i,I,H0⟩ ⟨hi,x⟩;simp only at hi x ⊢;obtain⟨k1,k2⟩:=aj l Y i;have w:jK l a (i+1)=((jK l a i).1++[{ (rK l 2 (jK l a i).2).1 with name:=[108,97,119]++cC i }],(rK l 2 (jK l a i).2).2):=rfl;simp only[go_sem,QQ,x6,gG];by_cases hlt:i<n
 ·have j:(i:Int)<(n:Nat):=Om;generalize hg:jK l a i=g at *
  simp only[go_sem,j,x7];refine nN (N.law l v T E.o 2 g.2 (by decide) (by decide) k1) (x.at 0 rfl) rfl ?_;have U:=x.set 0 rfl (bM v (rK l 2 g.2).2);generalize hz:rK l 2 g.2=z at *
  simp only[go_sem];refine aO fun p Z=>?_;have V:=U.new Z (.rows 4 [z.1.cells]);simp only[go_sem,x8,aTW,aUJ,or_false,forall_eq,forall_eq_or_imp];refine aA (N.name [108,97,119] i (by decide) Om) rfl ?_;have y:=V.set 3 rfl (.rows 4 [({ z.1 with name:=[108,97,119]++cC i }:cI).cells]);rw[PH.set_set] at y;have O:=y.at 1 rfl;have A:¬ E.o7=p:=y.ne 1 3 rfl rfl (by decide);have u:¬ E.o7=E.o:=y.ne 1 0 rfl rfl (by decide);simp only[aT,if_neg A,if_neg u] at O;have J:(1:Nat)*4≤16777216:=by decide
  simp only[go_sem,x9,A,u,O,J,aTW,aUJ,or_false,forall_eq,forall_eq_or_imp];refine y.append 0 (src:=[({ z.1 with name:=[108,97,119]++cC i }:cI).cells]) rfl rfl (by unfold roomFor; rw[aTJ]; simp only[aTT,maxLen]; omega) fun w' H2 R hw=>?_;obtain⟨q,rfl⟩:=hw (by simp);have S:=R.at 1 rfl;simp only[go_sem,S,aTW,aUJ,or_false,forall_eq];have h5:=R.set 1 rfl (flB ext (.osl q 4 0 (jH g.1++[({ z.1 with name:=[108,97,119]++cC i }:cI).cells]).length) .aB .aB .aB .aB .aB);simp only[go_sem,ya,wZz i];refine aH (i+1,.osl q 4 0 (jH g.1++[({ z.1 with name:=[108,97,119]++cC i }:cI).cells]).length,_) ⟨hlt,?_⟩ (by simp only; omega) ?_ b_
  ·rw[w];have e:jH (g.1++[{ z.1 with name:=[108,97,119]++cC i }])=jH g.1++[({ z.1 with name:=[108,97,119]++cC i }:cI).cells]:=by simp[jH]
   simp only;rw[e];exact h5.dropLast (B:=E.boxes v ext _ .aB .aB .aB .aB .aB z.2)
  ·exact Lq
 ·have j:¬ (i:Int)<(n:Nat):=Om;have:i=n:=Om;subst this;simp only[go_sem,j];exact X I _ _ (UQ rfl rfl rfl rfl rfl) x
theorem aiH {C:Ctx} (R:nT C) {l:List Nat} {v:PV} (T:Tp l v) (E:FE) (n a nl:Nat) (hn:n≤10) (β:nl≤1000) (ha:a≤l.length) (ext u:PV) (aSC:List cI) (W:aSC.length=nl) (K:cE) (F:PF) (H:PH)
  (hF:(((gG E).set 11 (.int .i64 n)).set 12 (.int .i64 0)).le F) (w:aM H (E.boxes v ext u .aB .aB .aB .aB .aB a) [(u,4,jH aSC)])
  (hK:∀ I S H',(gG E).le S→S 11=some (.int .i64 n)→aM H' (E.boxes v ext u I .aB .aB .aB .aB (eW l nl a n).2) [(u,4,jH aSC),(I,4,kP (eW l nl a n).1)]→K (.exit 2) S H') :
  aC.wp C (.loop JQ) K F H:=by
 refine wp_loop (α:=Nat × PV × PH) (fun t=>((gG E).set 11 (.int .i64 n)).set 12 (.int .i64 t.1)) (fun t=>t.2.2) (fun t=>t.1≤n∧aM t.2.2 (E.boxes v ext u t.2.1 .aB .aB .aB .aB (eW l nl a t.1).2) [(u,4,jH aSC),(t.2.1,4,kP (eW l nl a t.1).1)]) (fun t=>n-t.1) (0,.aB,H) ⟨aTQ _,w.kS 4⟩ hF b_ ?_;rintro⟨i,I,H0⟩ ⟨hi,w⟩;simp only at hi w ⊢;obtain⟨k1,k2⟩:=KJ l nl ha i;have A:eW l nl a (i+1)=((eW l nl a i).1++[⟨[109]++cC i,(1+(aF l 4 (eW l nl a i).2).1:Nat),(1+(aF l 8 (aF l 4 (eW l nl a i).2).2).1:Nat),((aF l nl (aF l 8 (aF l 4 (eW l nl a i).2).2).2).1:Nat)⟩],(aF l nl (aF l 8 (aF l 4 (eW l nl a i).2).2).2).2):=rfl;simp only[go_sem,JQ,jw,gG];by_cases hlt:i<n
 ·have j:(i:Int)<(n:Nat):=Om;generalize hg:eW l nl a i=g at *
  have hx:=cS l (show 0<4 by decide) g.2;have X:=bS l 4 k1;have hy:=cS l (show 0<8 by decide) (aF l 4 g.2).2;have Y:=bS l 8 X;have az:=bS l nl Y;have U:=w.set 0 rfl (bM v (aF l 4 g.2).2);have B:=U.set 0 rfl (bM v (aF l 8 (aF l 4 g.2).2).2);have h3:=B.set 0 rfl (bM v (aF l nl (aF l 8 (aF l 4 g.2).2).2).2);generalize M:aF l 4 g.2=x at *
  generalize N:aF l 8 x.2=y at *
  generalize O:aF l nl y.2=z at *
  have b1:=w.at 1 rfl;have lw:=(w.own 0 rfl).uA;rw[aTJ,W] at lw;have J:(PH.nil.set E.o7 (flB ext u I .aB .aB .aB .aB)).le H0:=e_ a_ b1;have ex:IntKind.i64.wrap (1+(x.1:Int))=((1+x.1:Nat):Int):=by rw[wrap_i64 Om Om]; omega
  have ey:IntKind.i64.wrap (1+(y.1:Int))=((1+y.1:Nat):Int):=by rw[wrap_i64 Om Om]; omega
  simp only[go_sem,j];refine bC (PH.nil.set E.o7 (flB ext u I .aB .aB .aB .aB)) (mkS l v) J ?_;simp only[go_sem,jx];refine HU R.totP (s:=[109]) (n:=i) (by decide) Om rfl J ?_;simp only[go_sem];refine sF R.toHM T (o:=E.o) (n:=4) (a:=g.2) (by decide) k1 rfl (w.at 0 rfl) ?_ ?_
  ·rw[M]; exact e_ a_ (U.at 1 rfl)
  rw[M];simp only[go_sem,ex];refine sF R.toHM T (o:=E.o) (n:=8) (a:=x.2) (by decide) X rfl (U.at 0 rfl) ?_ ?_
  ·rw[N]; exact e_ a_ (B.at 1 rfl)
  rw[N];simp only[go_sem,ey,lw];rw[PH.set_set] at B;refine sF R.toHM T (o:=E.o) (n:=nl) (a:=y.2) Om Y rfl (B.at 0 rfl) ?_ ?_
  ·rw[O]; exact e_ a_ ((B.set 0 rfl (bM v z.2)).at 1 rfl)
  rw[O];have h4:=B.set 0 rfl (bM v z.2);have V:(1:Nat)*4≤16777216:=by decide
  simp only[go_sem,V,aTW,aUJ,or_false,forall_eq,forall_eq_or_imp];rw[PH.set_set] at h4;refine h4.append 1 (src:=[(⟨[109]++cC i,(1+x.1:Nat),(1+y.1:Nat),(z.1:Nat)⟩:cZ).cells]) rfl rfl (by unfold roomFor; rw[aTJ]; simp only[aTT,maxLen]; omega) fun w' H2 h5 hw=>?_;obtain⟨q,rfl⟩:=hw (by simp);have Z:=h5.at 1 rfl;refine⟨e_ a_ Z,?_⟩;refine bC .nil cX a_ ?_;simp only[go_sem,jy,Z,aTW,aUJ,or_false,forall_eq];have h6:=h5.set 1 rfl (flB ext u (.osl q 4 0 (kP g.1++[(⟨[109]++cC i,(1+x.1:Nat),(1+y.1:Nat),(z.1:Nat)⟩:cZ).cells]).length) .aB .aB .aB .aB);refine⟨a_,?_⟩;simp only[go_sem,jz,wZz i];refine aH (i+1,.osl q 4 0 (kP g.1++[(⟨[109]++cC i,(1+x.1:Nat),(1+y.1:Nat),(z.1:Nat)⟩:cZ).cells]).length,_) ⟨hlt,?_⟩ (by simp only; omega) ?_ b_
  ·rw[A];have e:kP (g.1++[⟨[109]++cC i,(1+x.1:Nat),(1+y.1:Nat),(z.1:Nat)⟩])=kP g.1++[(⟨[109]++cC i,(1+x.1:Nat),(1+y.1:Nat),(z.1:Nat)⟩:cZ).cells]:=by simp[kP]
   simp only;rw[e];exact h6
  ·exact Lq
 ·have j:¬ (i:Int)<(n:Nat):=Om;have:i=n:=Om;subst this;simp only[go_sem,j];exact hK I _ _ (UQ rfl rfl rfl rfl rfl) rfl w
abbrev xW (x:dD) (w:PV):List PV:=[.str x.name,.int .i64 x.k,.int .i64 x.m,.int .i64 x.aST,.int .i64 x.s0,.int .i64 x.s1,.int .i64 x.s2,.int .i64 x.s3,.int .i64 x.s4,w,frs x.repair,
 .bool x.target.neg,aK x.target.num,aK x.target.den,.bool x.aSF.neg,aK x.aSF.num,aK x.aSF.den]
def tc (E:FE) (mc n i:Nat):PF:=(((gG E).set 11 (.int .i64 mc)).set 13 (.int .i64 n)).set 14 (.int .i64 i)
structure PAt (E:FE) (mc n i:Nat) (F:PF):Prop where
 f0:F 0=some (.ptr E.o 2 0 0)
 f1:F 1=some (.int .i64 E.aRU)
 f2:F 2=some (.int .i64 E.aRW)
 f6:F 6=some (.ptr E.o6 7 0 0)
 f7:F 7=some (.ptr E.o7 7 0 0)
 f11:F 11=some (.int .i64 mc)
 f13:F 13=some (.int .i64 n)
 f14:F 14=some (.int .i64 i)
def rM (l:List Nat) (a:Nat):Nat→List Int × Nat
 | 0=>([],a)
 | j+1=>let s:=rM l a j
  let t:=iU l s.2
  (s.1++[t.1],t.2)
theorem uQ (l:List Nat) {a:Nat} (h:a≤l.length):(iU l a).2≤l.length:=by
 unfold iU;simp only;split
 ·exact bS l 3 (bS l 3 h)
 ·exact bS l 3 h
theorem u6 (l:List Nat) {a:Nat} (h:a≤l.length):∀ j,(rM l a j).2≤l.length∧(rM l a j).1.length=j
 | 0=>⟨h,rfl⟩
 | j+1=>by obtain⟨e,u⟩:=u6 l h j;exact⟨uQ l e,by simp only[rM,aTM,aTT,u]⟩
abbrev rL (pre post:List PV) (s:List Int):List PV:=pre++(s.map fun x=>PV.int .i64 x)++aTK (4-s.length) (.int .i64 0)++post
theorem aGS {pre post:List PV} {s:List Int} (e:pre.length=5) (l:s.length<4) (x:Int):(rL pre post s).set (5+s.length) (.int .i64 x)=rL pre post (s++[x]):=by
 obtain⟨k,j⟩:∃ k,4-s.length=k+1:=⟨3-s.length,by omega⟩;unfold rL;rw[aTM,aTT,show 4-(s.length+1)=k by omega,j,List.replicate_succ,aUX,aUQ,aVZ];rw[List.set_append_left _ _ (by simp[e]),aWZ _ _ (by simp[e])];have:5+s.length-(pre++s.map fun x=>PV.int .i64 x).length=0:=by simp[e]
 rw[this,List.set_cons_zero];simp
theorem ayV {pre post:List PV} {s:List Int} (j:pre.length=5) (l:s.length<4):rL pre post s=rL pre post (s++[0]):=by
 obtain⟨k,e⟩:∃ k,4-s.length=k+1:=⟨3-s.length,by omega⟩;unfold rL;rw[aTM,aTT,show 4-(s.length+1)=k by omega,e,List.replicate_succ,aUX,aUQ,aVZ];simp
theorem aiI {C:Ctx} (Lb:nT C) {l:List Nat} {v:PV} (T:Tp l v) (E:FE) (mc n i a p:Nat) (ha:a≤l.length) (B:List BX) (L:List LI) (pre post:List PV) (e:pre.length=5) (A:post.length=8) (K:cE) (F:PF) (H:PH)
  (w:PAt E mc n i F) (U:F 15=some (.ptr p 17 0 0)) (V:F 16=some (.int .i64 1)) (I:aM H ((E.o,bM v a)::B++[(p,.rows 17 [rL pre post []])]) L)
  (hK:∀ R H',PAt E mc n i R→R 15=some (.ptr p 17 0 0)→aM H' ((E.o,bM v (rM l a 4).2)::B++[(p,.rows 17 [rL pre post (rM l a 4).1])]) L→K (.exit 6) R H') :
  aC.wp C (.loop yM) K F H:=by
 refine wp_loop (α:=Nat × PH) (fun t=>((tc E mc n i).set 15 (.ptr p 17 0 0)).set 16 (.int .i64 (t.1+1:Nat))) (fun t=>t.2) (fun t=>t.1≤4∧aM t.2 ((E.o,bM v (rM l a t.1).2)::B++[(p,.rows 17 [rL pre post (rM l a t.1).1])]) L) (fun t=>4-t.1) (0,H) ⟨aTQ _,I⟩ ?_ b_ ?_
 ·unfold tc gG
  (repeat' (first|exact c_|refine d_ ?_ ?_))<;>first|(simp only[go_sem,w.f0,w.f1,w.f2,w.f6,w.f7,w.f11,w.f13,w.f14,U,V]<;>rfl)|rfl
 rintro⟨j,H0⟩ ⟨hj,I⟩;simp only at hj I ⊢;obtain⟨k1,k2⟩:=u6 l ha j;have u:rM l a (j+1)=((rM l a j).1++[(iU l (rM l a j).2).1],(iU l (rM l a j).2).2):=rfl;simp only[go_sem,yM,ka,tc,gG];by_cases hlt:j<4
 ·generalize hg:rM l a j=g at *
  have ei:=dM (Om:j+1<9223372036854775807);simp only[go_sem,show ((j+1:Nat):Int)<5 by omega,kb];refine dT Lb.toHM T (o:=E.o) (n:=3) (a:=g.2) (by decide) k1 (by simp only[go_sem]; rfl) (I.at 0 rfl) ?_;have N:aM _ ((E.o,bM v (aF l 3 g.2).2)::B++[(p,.rows 17 [rL pre post g.1])]) L:=I.set 0 rfl (bM v (aF l 3 g.2).2);by_cases c:(aF l 3 g.2).1=0
  ·have Z:iU l g.2=(((1+(aF l 3 (aF l 3 g.2).2).1:Nat):Int),(aF l 3 (aF l 3 g.2).2).2):=by unfold iU; simp only[c,if_true]
   have n2:=cS l (show 0<3 by decide) (aF l 3 g.2).2;have e2:IntKind.i64.wrap (1+((aF l 3 (aF l 3 g.2).2).1:Int))=((1+(aF l 3 (aF l 3 g.2).2).1:Nat):Int):=by rw[wrap_i64 Om Om]; omega
   simp only[go_sem,bP (show (((aF l 3 g.2).1:Nat):Int)=0 by omega),kc];refine dT Lb.toHM T (o:=E.o) (n:=3) (a:=(aF l 3 g.2).2) (by decide) (bS l 3 k1) (by simp only[go_sem]; rfl) (N.at 0 rfl) ?_;have O:aM _ ((E.o,bM v (aF l 3 (aF l 3 g.2).2).2)::B++[(p,.rows 17 [rL pre post g.1])]) L:=N.set 0 rfl (bM v (aF l 3 (aF l 3 g.2).2).2);have S:=O.mG;rw[PH.set_set] at S O;have M:¬ p=E.o:=fun h=>by have Y:=O.ndB;simp[eD,h] at Y
   simp only[aT,if_neg M] at S;have X:((j+1:Nat):Int)<((5:Nat):Int):=Om;have W:(0:Int)≤((j+1:Nat):Int):=Om;have β:(rL pre post g.1).length=17:=by simp[rL,e,A,k2]; omega
   have x:=aGS (pre:=pre) (post:=post) (s:=g.1) e Om ((1+(aF l 3 (aF l 3 g.2).2).1:Nat):Int);rw[k2] at x;have J:4+(j+1)*1=5+j:=Om;have y:5+j+1≤17:=Om;simp only[go_sem,e2,X,W,J,M,S,y,aTW,aUJ,or_false,forall_eq,x,JV,ei];refine aH (j+1,_) ⟨hlt,?_⟩ (by simp only; omega) ?_ b_
   ·rw[u,Z];exact O.rG _
   ·exact Lq
  ·have Z:iU l g.2=(0,(aF l 3 g.2).2):=by unfold iU; simp only[c,if_false]
   simp only[go_sem,bE (show ¬ (((aF l 3 g.2).1:Nat):Int)=0 by omega),JV,ei];refine aH (j+1,_) ⟨hlt,?_⟩ (by simp only; omega) ?_ b_
   ·rw[ayV (pre:=pre) (post:=post) (s:=g.1) e Om] at N;rw[u,Z];exact N
   ·exact Lq
 ·have:j=4:=Om;subst this;simp only[go_sem,show ¬ ((4+1:Nat):Int)<5 by decide];exact hK _ _ ⟨by simp only[go_sem],by simp only[go_sem],by simp only[go_sem],by simp only[go_sem],by simp only[go_sem],by simp only[go_sem],by simp only[go_sem],by simp only[go_sem]⟩ Sq I
theorem aM.pY {E:FE} {v ext e j l u w x:PV} {a:Nat} {H:PH} {B:List BX} {L:List LI} (h:aM H (E.boxes v ext e j l u w x a++B) L) (b:Nat):aM (H.set E.o (bM v b)) (E.boxes v ext e j l u w x b++B) L:=h.set 0 rfl _
abbrev c9 (s:List UInt8) (k m q:Int) (w r e j l:PV) (h:RF):List PV:=[.str s,.int .i64 k,.int .i64 m,.int .i64 q,.int .i64 0,.int .i64 0,.int .i64 0,.int .i64 0,.int .i64 0,w,r,e,j,l,.bool h.neg,aK h.num,aK h.den]
theorem awG {C : Ctx} (Lb : nT C) {l : List Nat} {v : PV} (T : Tp l v) (E : FE) (mc n i a : Nat) (ha : a ≤ l.length) (hi : i < 50) (ext w1 w2 w3 w4 w5 w6 : PV) (L : List LI) (rest : aC) (K : cE) (F : PF) (H : PH)
    (hF : PAt E mc n i F) (hH : aM H (E.boxes v ext w1 w2 w3 w4 w5 w6 a) L)
    (hK : ∀ p F' H', PAt E mc n i F' → F' 15 = some (.ptr p 17 0 0) →
      (let k := aF l 2 a; let m := aF l 3 k.2; let h := aF l 4 m.2; let q := aF l (m.1 + 1) h.2; let r := lC l q.2 (max m.1 1); let g := aF l 9 r.2
       aM H' (E.boxes v ext w1 w2 w3 w4 w5 w6 g.2 ++ [(p, .rows 17 [rL [.str ([112] ++ cC i), .int .i64 (1 + k.1 : Nat), .int .i64 (m.1 : Nat), .int .i64 (1 + k.1 + q.1 : Nat), .int .i64 0]
        ([.aB, frs r.1] ++ (mkT (g.1 : Nat) 8).cells ++ (mkT ((1 + h.1 : Nat) : Int) 1).cells) []])]) L) → aC.wp C rest K F' H') :
    aC.wp C (.seq (.region JT) (.seq (.seq (.draw yN) (.draw yO)) (.seq (.region yP) (.seq (.region yQ) rest)))) K F H := by
  obtain ⟨f0, f1, f2, f6, f7, f11, f13, f14⟩ := hF;have nk := cS l (show 0 < 2 by decide) a;have ak := bS l 2 ha;have nm := cS l (show 0 < 3 by decide) (aF l 2 a).2;have am := bS l 3 ak;simp only at hK;generalize hk : aF l 2 a = k at *
  generalize hm : aF l 3 k.2 = m at *
  have nh := cS l (show 0 < 4 by decide) m.2;have ah := bS l 4 am;generalize hh : aF l 4 m.2 = h at *
  have nq := cS l (Om : 0 < m.1 + 1) h.2;have aq := bS l (m.1 + 1) ah;generalize hq : aF l (m.1 + 1) h.2 = q at *
  have ar := HC l aq (max m.1 1);generalize hr : lC l q.2 (max m.1 1) = r at *
  have ng := cS l (show 0 < 9 by decide) r.2;have ag := bS l 9 ar;generalize hg : aF l 9 r.2 = g at *
  have ek : IntKind.i64.wrap (1 + (k.1 : Int)) = ((1 + k.1 : Nat) : Int) := by rw [wrap_i64 Om Om]; omega
  have eh : IntKind.i64.wrap (1 + (h.1 : Int)) = ((1 + h.1 : Nat) : Int) := by rw [wrap_i64 Om Om]; omega
  have em : IntKind.i64.wrap ((m.1 : Int) + 1) = ((m.1 + 1 : Nat) : Int) := dM Om;have eq' : IntKind.i64.wrap (((1 + k.1 : Nat) : Int) + (q.1 : Int)) = ((1 + k.1 + q.1 : Nat) : Int) := by rw [wrap_i64 Om Om]; omega
  have h0 : aM H (E.boxes v ext w1 w2 w3 w4 w5 w6 a ++ []) L := by rw [aVC]; exact hH
  simp only[go_sem,JT,f14];refine aA (Lb.name [112] i (by decide) Om) rfl ?_;simp only[go_sem,f0];refine dT Lb.toHM T (o := E.o) (n := 2) (a := a) (by decide) ha rfl (h0.at 0 rfl) ?_;have g1 := h0.pY k.2;rw [hk];simp only[go_sem,ek,f0];refine dT Lb.toHM T (o := E.o) (n := 3) (a := k.2) (by decide) ak rfl (g1.at 0 rfl) ?_;have g2 := g1.pY m.2;rw [hm];rw [PH.set_set] at g2;simp only[go_sem,f0];refine dT Lb.toHM T (o := E.o) (n := 4) (a := m.2) (by decide) am rfl (g2.at 0 rfl) ?_;have g3 := g2.pY h.2;rw [hh];rw [PH.set_set] at g3;simp only[go_sem,eh];refine aA (Lb.int ((1 + h.1 : Nat) : Int) (by unfold dN; omega)) rfl ?_;simp only[go_sem,aTW,aUJ,or_false,forall_eq,forall_eq_or_imp];refine aO fun p hp => ?_;have g4 := g3.new hp (.rows 17 [c9 ([112] ++ cC i) (1 + k.1 : Nat) (m.1 : Nat) 0 .aB .aB (.bool false) .aB .aB (mkT ((1 + h.1 : Nat) : Int) 1)]);have hpo : ¬ p = E.o := g4.ne 3 0 rfl rfl (by decide);have hop : ¬ E.o = p := fun e => hpo e.symm;have q2 : ∀ (F2 : PF) (H2 : PH), PAt E mc n i F2 → F2 15 = some (.ptr p 17 0 0) → aM H2 (E.boxes v ext w1 w2 w3 w4 w5 w6 h.2 ++ [(p, .rows 17 [c9 ([112] ++ cC i) (1 + k.1 : Nat) (m.1 : Nat) 0 .aB .aB (.bool false) .aB .aB (mkT ((1 + h.1 : Nat) : Int) 1)])]) L →
      aC.wp C (.seq (.seq (.draw yN) (.draw yO)) (.seq (.region yP) (.seq (.region yQ) rest))) K F2 H2 := by
    intro F2 H2 hF2 f15 hH2;obtain ⟨f0, f1, f2, f6, f7, f11, f13, f14⟩ := hF2;have bp := hH2.at 3 rfl;have hHs : (PH.nil.set p (.rows 17 [c9 ([112] ++ cC i) (1 + k.1 : Nat) (m.1 : Nat) 0 .aB .aB (.bool false) .aB .aB (mkT ((1 + h.1 : Nat) : Int) 1)])).le H2 := e_ a_ bp;simp only[go_sem];refine bC _ (mkS l v) hHs ?_;simp only[go_sem,yN,f15,bp,em,f0];refine sF Lb.toHM T (o := E.o) (n := m.1 + 1) (a := h.2) Om ah rfl (hH2.at 0 rfl) ?_ ?_
    · rw [hq]; exact e_ a_ ((hH2.pY q.2).at 3 rfl)
    rw [hq];have g5 := hH2.pY q.2;simp only[go_sem,eq',f15];refine bC .nil cX a_ ?_;simp only[go_sem,yO,hpo,bp];refine ⟨a_, ?_⟩;have g6 : aM _ (E.boxes v ext w1 w2 w3 w4 w5 w6 q.2 ++ [(p, .rows 17 [c9 ([112] ++ cC i) (1 + k.1 : Nat) (m.1 : Nat) (1 + k.1 + q.1 : Nat) .aB .aB (.bool false) .aB .aB (mkT ((1 + h.1 : Nat) : Int) 1)])]) L := g5.set 3 rfl (.rows 17 [c9 ([112] ++ cC i) (1 + k.1 : Nat) (m.1 : Nat) (1 + k.1 + q.1 : Nat) .aB .aB (.bool false) .aB .aB (mkT ((1 + h.1 : Nat) : Int) 1)]);have bq := g6.at 3 rfl;simp only[go_sem,yP,f0,f15];refine nN (Lb.rep l v T E.o q.2 m.1 Om aq) (g6.at 0 rfl) rfl ?_;have g7 := g6.pY r.2;rw [hr];simp only[go_sem,hpo,f15];have g8 : aM _ (E.boxes v ext w1 w2 w3 w4 w5 w6 r.2 ++ [(p, .rows 17 [c9 ([112] ++ cC i) (1 + k.1 : Nat) (m.1 : Nat) (1 + k.1 + q.1 : Nat) .aB (frs r.1) (.bool false) .aB .aB (mkT ((1 + h.1 : Nat) : Int) 1)])]) L := g7.set 3 rfl (.rows 17 [c9 ([112] ++ cC i) (1 + k.1 : Nat) (m.1 : Nat) (1 + k.1 + q.1 : Nat) .aB (frs r.1) (.bool false) .aB .aB (mkT ((1 + h.1 : Nat) : Int) 1)]);simp only[go_sem,yQ,f0];refine dT Lb.toHM T (o := E.o) (n := 9) (a := r.2) (by decide) ar rfl (g8.at 0 rfl) ?_;have g9 := g8.pY g.2;rw [hg];simp only[go_sem];refine aA (Lb.fmk (g.1 : Int) 8 (by unfold dN; omega) (by unfold dN; omega)) rfl ?_;unfold xN;rw [if_neg (by decide)];simp only[go_sem,f15,hpo];have g10 := g9.set 3 rfl (.rows 17 [rL [.str ([112] ++ cC i), .int .i64 (1 + k.1 : Nat), .int .i64 (m.1 : Nat), .int .i64 (1 + k.1 + q.1 : Nat), .int .i64 0]
        ([.aB, frs r.1] ++ (mkT (g.1 : Nat) 8).cells ++ (mkT ((1 + h.1 : Nat) : Int) 1).cells) []])
    refine hK p _ _ ⟨by simp only[go_sem,f0], by simp only[go_sem,f1], by simp only[go_sem,f2], by simp only[go_sem,f6], by simp only[go_sem,f7], by simp only[go_sem,f11], by simp only[go_sem,f13], by simp only[go_sem,f14]⟩ (by simp only[go_sem,f15]) g10
  simp only [aC.wp, go_sem] at q2;simp only[go_sem,aTW,aUJ,or_false,forall_eq,forall_eq_or_imp];exact q2 _ _ ⟨by simp only[go_sem,f0], by simp only[go_sem,f1], by simp only[go_sem,f2], by simp only[go_sem,f6], by simp only[go_sem,f7], by simp only[go_sem,f11], by simp only[go_sem,f13], by simp only[go_sem,f14]⟩ rfl g4
abbrev FE.lists (x y A B E:PV) (l:List cI) (u:List cZ) (e:List cN) (j:List dQ) (w:List (List PV)):List LI:=[(x,4,jH l),(y,4,kP u),(A,7,kX e),(B,3,nA j),(E,17,w)]
theorem awH {C:Ctx} (Lb:nT C) {l:List Nat} {v:PV} (T:Tp l v) (E:FE) (mc n i a:Nat) (ha:a≤l.length) (η:0<mc) (μ:mc≤50) (ext y A B I w5:PV) (lw:List cI) (md:List cZ) (dm:List cN) (dv:List dQ) (pr:List (List PV)) (ρ:pr.length≤50)
  (s:List UInt8) (k m q:Int) (r t h:RF) (M:List RF) (p:Nat) (K:cE) (F:PF) (H:PH)
  (hF:PAt E mc n i F) (u:F 15=some (.ptr p 17 0 0))
  (hH:aM H (E.boxes v ext y A B I w5 .aB a++[(p,.rows 17 [rL [.str s,.int .i64 k,.int .i64 m,.int .i64 q,.int .i64 0] ([.aB,frs M]++t.cells++h.cells) []])]) (FE.lists y A B I w5 lw md dm dv pr))
  (V:(let J:=rM l a 4; let f:=aF l mc J.2; let b:=aF l 2 f.2
   let ms:List Int × Nat:=if 1<mc then (if b.1=0 then ([(f.1:Int),1-(f.1:Int)],b.2) else ([(f.1:Int)],b.2)) else ([(f.1:Int)],f.2)
   ∀ (w j:PV) (W:PF) (H':PH) (B':List BX),PAt E mc n i W→(∃ o,w=.osl o 1 0 ms.1.length)→aM H' (E.boxes v ext y A B I j .aB ms.2++B')
    (FE.lists y A B I j lw md dm dv (pr++[xW ⟨s,k,m,q,0,(J.1.getD 0 0),(J.1.getD 1 0),(J.1.getD 2 0),(J.1.getD 3 0),ms.1,M,t,h⟩ w])++[(w,1,cQ ms.1)])→K .normal W H')) :
  aC.wp C (.seq (.seq (.region JU) (.block 6 (.loop yM))) (.seq (.region JW) (.seq (.region JX) (.seq (.seq (.region JY) (.cond (.tmp 143) (.region JZ) .skip)) (.region yR))))) K F H:=by
 obtain⟨f0,f1,f2,f6,f7,f11,f13,f14⟩:=hF;simp only[go_sem,JU];refine aiI (C:=C) Lb T E mc n i a p ha [(E.o7,flB ext y A B I w5 .aB),(E.o6,flZ)] _ _ _ rfl rfl _ _ H ⟨by simp only[go_sem,f0],by simp only[go_sem,f1],by simp only[go_sem,f2],by simp only[go_sem,f6],by simp only[go_sem,f7],by simp only[go_sem,f11],by simp only[go_sem,f13],by simp only[go_sem,f14]⟩ (by simp only[go_sem,u]) rfl hH ?_;clear f0 f1 f2 f6 f7 f11 f13 f14 u hH;intro F1 H1 ε u x;obtain⟨f0,f1,f2,f6,f7,f11,f13,f14⟩:=ε;obtain⟨α,ls⟩:=u6 l ha 4;have ι:∃ N O R S,(rM l a 4).1=[N,O,R,S]:=⟨_,_,_,_,rfl⟩;simp only at V;generalize ν:rM l a 4=J at *
 obtain⟨N,O,R,S,hx⟩:=ι;rw[hx] at V x;replace x:aM H1 (E.boxes v ext y A B I w5 .aB J.2++[(p,.rows 17 [xW ⟨s,k,m,q,0,N,O,R,S,[],M,t,h⟩ .aB])]) (FE.lists y A B I w5 lw md dm dv pr):=x;have nf:=cS l η J.2;have af:=bS l mc α;generalize hf:aF l mc J.2=f at *
 have ab:=bS l 2 af;generalize hb:aF l 2 f.2=b at *
 have Z:¬ p=E.o:=x.ne 3 0 rfl rfl (by decide);have θ:¬ p=E.o7:=x.ne 3 1 rfl rfl (by decide);have ο:¬ E.o7=p:=fun e=>θ e.symm;have ξ:¬ E.o7=E.o:=x.ne 1 0 rfl rfl (by decide);simp only[go_sem,JW,f0,f11];refine dT Lb.toHM T (o:=E.o) (n:=mc) (a:=J.2) Om α rfl (x.at 0 rfl) ?_;have h2:=x.set 0 rfl (bM v f.2);rw[hf];simp only[go_sem,JX];refine aO fun o ho=>?_;have h3:=h2.t6 (s:=1) (rows:=cQ [(f.1:Int)]) ho;have b3:=h3.at 3 rfl;have ob:¬ p=o:=h3.neL 3 5 rfl rfl rfl;have σ:¬ E.o7=o:=h3.neL 1 5 rfl rfl rfl;have τ:¬ E.o=o:=h3.neL 0 5 rfl rfl rfl;simp only[aT,if_neg ob,if_neg Z] at b3;simp only[go_sem,u,ob,Z,b3,aTW,aUJ,or_false,forall_eq];have h4:=h3.set 3 rfl (.rows 17 [xW ⟨s,k,m,q,0,N,O,R,S,[],M,t,h⟩ (.osl o 1 0 1)]);have fin:∀ (w:PV) (ms:List Int) (a':Nat) (W:PF) (H':PH),PAt E mc n i W→W 15=some (.ptr p 17 0 0)→(∃ o,w=.osl o 1 0 ms.length) →
   aM H' (E.boxes v ext y A B I w5 .aB a'++[(p,.rows 17 [xW ⟨s,k,m,q,0,N,O,R,S,ms,M,t,h⟩ w])]) (FE.lists y A B I w5 lw md dm dv pr++[(w,1,cQ ms)]) →
   (∀ (j:PV) (U:PF) (H2:PH),PAt E mc n i U→aM H2 (E.boxes v ext y A B I j .aB a'++[(p,.rows 17 [xW ⟨s,k,m,q,0,N,O,R,S,ms,M,t,h⟩ w])]) (FE.lists y A B I j lw md dm dv (pr++[xW ⟨s,k,m,q,0,N,O,R,S,ms,M,t,h⟩ w])++[(w,1,cQ ms)])→K .normal U H2) →
   wpOps C yR (K .normal) W H':=by
  intro w ms a' W H' δ u hw Y ζ;obtain⟨wo,rfl⟩:=hw;obtain⟨f0,f1,f2,f6,f7,f11,f13,f14⟩:=δ;have c1:=Y.at 1 rfl;have c3:=Y.at 3 rfl;have γ:(1:Nat)*17≤16777216:=by decide
  simp only[go_sem,yR,f7,u,c1,c3,γ,aTW,aUJ,or_false,forall_eq,forall_eq_or_imp];refine Y.append 4 (src:=[xW ⟨s,k,m,q,0,N,O,R,S,ms,M,t,h⟩ (.osl wo 1 0 ms.length)]) rfl rfl (by unfold roomFor; simp only[aTT,maxLen]; omega) fun j H2 h5 κ=>?_;obtain⟨q5,rfl⟩:=κ (by simp);have c2:=h5.at 1 rfl;simp only[go_sem,c2,aTW,aUJ,or_false,forall_eq];exact ζ _ _ _ ⟨by simp only[go_sem,f0],by simp only[go_sem,f1],by simp only[go_sem,f2],by simp only[go_sem,f6],by simp only[go_sem,f7],by simp only[go_sem,f11],by simp only[go_sem,f13],by simp only[go_sem,f14]⟩ (h5.set 1 rfl (flB ext y A B I _ .aB))
 simp only[go_sem,JY,f11];by_cases c:1<mc
 ·have c':(mc:Int)>1:=Om;simp only[go_sem,c',f0];refine dT Lb.toHM T (o:=E.o) (n:=2) (a:=f.2) (by decide) af rfl (h4.at 0 rfl) ?_;have h5:=h4.set 0 rfl (bM v b.2);rw[hb];by_cases c2:b.1=0
  ·have X:(b.1:Int)=0:=Om;rw[if_pos c,if_pos c2] at V;have e1:IntKind.i64.wrap (1-(f.1:Int))=1-(f.1:Int):=wrap_i64 Om Om;have c3:=h5.at 3 rfl;have β:(1:Nat)*1≤16777216:=by decide
   simp only[go_sem,bP X,JZ,u,Z,e1,β];refine h5.append 5 (src:=[[.int .i64 (1-(f.1:Int))]]) rfl rfl (by unfold roomFor; simp only[cQ,aTJ,aTT,maxLen]; omega) fun w' H2 h6 hw=>?_;obtain⟨q2,rfl⟩:=hw (by simp);have c4:=h6.at 3 rfl;simp only[go_sem,c4,u,aTW,aUJ,or_false,forall_eq];have h7:=h6.set 3 rfl (.rows 17 [xW ⟨s,k,m,q,0,N,O,R,S,[(f.1:Int),1-(f.1:Int)],M,t,h⟩ (.osl q2 1 0 2)]);exact fin (.osl q2 1 0 2) [(f.1:Int),1-(f.1:Int)] b.2 _ _ ⟨by simp only[go_sem,f0],by simp only[go_sem,f1],by simp only[go_sem,f2],by simp only[go_sem,f6],by simp only[go_sem,f7],by simp only[go_sem,f11],by simp only[go_sem,f13],by simp only[go_sem,f14]⟩ (by simp only[go_sem,u]) ⟨q2,rfl⟩ h7 (fun j U H2 g1 g2=>V _ j U H2 _ g1 ⟨q2,rfl⟩ g2)
  ·have X:¬ (b.1:Int)=0:=Om;rw[if_pos c,if_neg c2] at V;simp only[go_sem,bE X];exact fin (.osl o 1 0 1) [(f.1:Int)] b.2 _ _ ⟨by simp only[go_sem,f0],by simp only[go_sem,f1],by simp only[go_sem,f2],by simp only[go_sem,f6],by simp only[go_sem,f7],by simp only[go_sem,f11],by simp only[go_sem,f13],by simp only[go_sem,f14]⟩ (by simp only[go_sem,u]) ⟨o,rfl⟩ h5 (fun j U H2 g1 g2=>V _ j U H2 _ g1 ⟨o,rfl⟩ g2)
 ·have c':¬ (mc:Int)>1:=Om;rw[if_neg c] at V;simp only[go_sem,c'];exact fin (.osl o 1 0 1) [(f.1:Int)] f.2 _ _ ⟨by simp only[go_sem,f0],by simp only[go_sem,f1],by simp only[go_sem,f2],by simp only[go_sem,f6],by simp only[go_sem,f7],by simp only[go_sem,f11],by simp only[go_sem,f13],by simp only[go_sem,f14]⟩ (by simp only[go_sem,u]) ⟨o,rfl⟩ h4 (fun j U H2 g1 g2=>V _ j U H2 _ g1 ⟨o,rfl⟩ g2)
abbrev mT (l:List dD):List (List PV):=l.map dD.cells
abbrev pD (l:List fE):List (List PV):=l.map fE.cells
theorem rB {rows:List (List PV)} (h:∀ r∈rows,∀ c∈r,c.oid=none):Flat rows:=Flat.of fun r j c e q s rs=>IL (h r j c e) q s rs
theorem Yj (l:List cI):Flat (jH l):=rB fun r j c e=>by
 obtain⟨x,_,rfl⟩:=aUK.1 j;simp only[cI.cells,aTW,aUJ,or_false] at e;rcases e with rfl | rfl | rfl | rfl<;>rfl
theorem Yz (l:List cZ):Flat (kP l):=rB fun r j c e=>by
 obtain⟨x,_,rfl⟩:=aUK.1 j;simp only[cZ.cells,aTW,aUJ,or_false] at e;rcases e with rfl | rfl | rfl | rfl<;>rfl
theorem Vi (l:List cN):Flat (kX l):=rB fun r j c e=>by
 obtain⟨x,_,rfl⟩:=aUK.1 j;simp only[cN.cells,aTW,aUJ,or_false] at e;rcases e with rfl | rfl | rfl | rfl | rfl | rfl | rfl<;>rfl
theorem Vl (l:List dQ):Flat (nA l):=rB fun r j c e=>by
 obtain⟨x,_,rfl⟩:=aUK.1 j;simp only[dQ.cells,aTW,aUJ,or_false] at e;rcases e with rfl | rfl | rfl<;>rfl
theorem aHN (l:List fE):Flat (pD l):=rB fun r j c e=>by
 obtain⟨x,_,rfl⟩:=aUK.1 j;simp only[fE.cells,aTW,aUJ,or_false] at e;rcases e with rfl | rfl<;>rfl
theorem abG (l:List dD):Flat (mT l):=rB fun r j c e=>by
 obtain⟨x,_,rfl⟩:=aUK.1 j;simp only[dD.cells,aTW,aUJ,or_false] at e;rcases e with rfl | rfl | rfl | rfl | rfl | rfl | rfl | rfl | rfl | rfl | rfl | rfl | rfl | rfl | rfl | rfl | rfl<;>rfl
theorem ajN (l:List Nat) (mc i:Nat) {a:Nat} (h:a≤l.length):(mX l mc i a).2≤l.length:=by
 have j:=bS l 9 (HC l (bS l ((aF l 3 (aF l 2 a).2).1+1) (bS l 4 (bS l 3 (bS l 2 h)))) (max (aF l 3 (aF l 2 a).2).1 1));have e:=bS l mc (uQ l (uQ l (uQ l (uQ l j))));unfold mX;simp only;split
 ·split
  ·exact bS l 2 e
  ·exact bS l 2 e
 ·exact e
theorem BF (l:List Nat) (mc:Nat) {a:Nat} (h:a≤l.length):∀ k,(eA l mc a k).2≤l.length∧(eA l mc a k).1.length=k
 | 0=>⟨h,rfl⟩
 | k+1=>by obtain⟨e,j⟩:=BF l mc h k;exact⟨ajN l mc k e,by simp only[eA,aTM,aTT,j]⟩
theorem XQ (l:List Nat) (pc:Nat) {a:Nat} (h:a≤l.length):∀ k,(eZ l pc a k).2≤l.length∧(eZ l pc a k).1.length=k
 | 0=>⟨h,rfl⟩
 | k+1=>by obtain⟨e,j⟩:=XQ l pc h k;exact⟨bS l pc e,by simp only[eZ,aTM,aTT,j]⟩
theorem Lw {C:Ctx} (Lb:nT C) {l:List Nat} {v:PV} (T:Tp l v) (E:FE) (mc n a:Nat) (hn:n≤10) (θ:0<mc) (Z:mc≤50) (ha:a≤l.length) (N:Int) (j u y A:PV) (S:List cI) (U:List cZ) (O:List cN) (R:List dQ) (K:cE) (F:PF) (H:PH)
  (J:PAt E mc n 0 F) (W:aM H (E.boxes v (.int .i64 N) j u y A .aB .aB a) [(j,4,jH S),(u,4,kP U),(y,7,kX O),(A,3,nA R)])
  (hK:∀ V F' H',(gG E).le F'→aM H' (E.boxes v (.int .i64 N) j u y A V .aB (eA l mc a n).2) (FE.lists j u y A V S U O R (mT (eA l mc a n).1))→K (.exit 4) F' H') :
  aC.wp C (.loop JR) K F H:=by
 refine wp_loop (α:=Nat × PV × PH) (fun t=>tc E mc n t.1) (fun t=>t.2.2) (fun t=>t.1≤n∧aM t.2.2 (E.boxes v (.int .i64 N) j u y A t.2.1 .aB (eA l mc a t.1).2) (FE.lists j u y A t.2.1 S U O R (mT (eA l mc a t.1).1))) (fun t=>n-t.1) (0,.aB,H) ⟨aTQ _,W.kS 17⟩ ?_ b_ ?_
 ·unfold tc gG
  (repeat' (first|exact c_|refine d_ ?_ ?_))<;>first|(simp only[go_sem,J.f0,J.f1,J.f2,J.f6,J.f7,J.f11,J.f13,J.f14]<;>rfl)|rfl
 rintro⟨i,V,H0⟩ ⟨hi,W⟩;simp only at hi W ⊢;obtain⟨k1,k2⟩:=BF l mc ha i;have I:eA l mc a (i+1)=((eA l mc a i).1++[(mX l mc i (eA l mc a i).2).1],(mX l mc i (eA l mc a i).2).2):=rfl;simp only[go_sem,JR,j9,tc,gG];by_cases hlt:i<n
 ·have B:(i:Int)<(n:Nat):=Om;generalize hg:eA l mc a i=g at *
  simp only[go_sem,B];refine awG (C:=C) Lb T E mc n i g.2 k1 Om (.int .i64 N) j u y A V .aB _ _ _ _ H0 ⟨by simp only[go_sem],by simp only[go_sem],by simp only[go_sem],by simp only[go_sem],by simp only[go_sem],by simp only[go_sem],by simp only[go_sem],by simp only[go_sem]⟩ W ?_;intro p F1 H1 γ β X;simp only at X;have ι:mX l mc i g.2=_:=rfl;have Y:=bS l 9 (HC l (bS l ((aF l 3 (aF l 2 g.2).2).1+1) (bS l 4 (bS l 3 (bS l 2 k1)))) (max (aF l 3 (aF l 2 g.2).2).1 1));refine awH (C:=C) Lb T E mc n i _ Y θ Z (.int .i64 N) j u y A V S U O R _ (by rw[aTJ,k2]; omega) _ _ _ _ (mkT 0 1) _ _ _ p _ F1 H1 γ β X ?_;intro M f b ms w e F2 H2 B' δ hw ε;obtain⟨o,rfl⟩:=hw;have hP:mX l mc i g.2=(⟨[112]++cC i,(1+(aF l 2 g.2).1:Nat),((aF l 3 (aF l 2 g.2).2).1:Nat),(1+(aF l 2 g.2).1+(aF l ((aF l 3 (aF l 2 g.2).2).1+1) (aF l 4 (aF l 3 (aF l 2 g.2).2).2).2).1:Nat),0,M.1.getD 0 0,M.1.getD 1 0,M.1.getD 2 0,M.1.getD 3 0,ms.1,(lC l (aF l ((aF l 3 (aF l 2 g.2).2).1+1) (aF l 4 (aF l 3 (aF l 2 g.2).2).2).2).2 (max (aF l 3 (aF l 2 g.2).2).1 1)).1,mkT ((aF l 9 (lC l (aF l ((aF l 3 (aF l 2 g.2).2).1+1) (aF l 4 (aF l 3 (aF l 2 g.2).2).2).2).2 (max (aF l 3 (aF l 2 g.2).2).1 1)).2).1:Nat) 8,mkT ((1+(aF l 4 (aF l 3 (aF l 2 g.2).2).2).1:Nat):Int) 1⟩,ms.2):=rfl;rw[hP] at I;generalize ζ:(⟨[112]++cC i,(1+(aF l 2 g.2).1:Nat),((aF l 3 (aF l 2 g.2).2).1:Nat),(1+(aF l 2 g.2).1+(aF l ((aF l 3 (aF l 2 g.2).2).1+1) (aF l 4 (aF l 3 (aF l 2 g.2).2).2).2).1:Nat),0,M.1.getD 0 0,M.1.getD 1 0,M.1.getD 2 0,M.1.getD 3 0,ms.1,(lC l (aF l ((aF l 3 (aF l 2 g.2).2).1+1) (aF l 4 (aF l 3 (aF l 2 g.2).2).2).2).2 (max (aF l 3 (aF l 2 g.2).2).1 1)).1,mkT ((aF l 9 (lC l (aF l ((aF l 3 (aF l 2 g.2).2).1+1) (aF l 4 (aF l 3 (aF l 2 g.2).2).2).2).2 (max (aF l 3 (aF l 2 g.2).2).1 1)).2).1:Nat) 8,mkT ((1+(aF l 4 (aF l 3 (aF l 2 g.2).2).2).1:Nat):Int) 1⟩:dD)=P at *
  have η:P.aRV=ms.1:=by rw[← ζ]
  obtain⟨rs,z1,z2,z3,z4,z5⟩:=ε.frz 5 rfl;have y1:=z4 0 _ (by decide) rfl;have y2:=z4 1 _ (by decide) rfl;have y3:=z4 2 _ (by decide) rfl;have y4:=z4 3 _ (by decide) rfl;have y5:=z4 4 _ (by decide) rfl;simp only at y1 y2 y3 y4 y5;have y0:=T.frz o 1 rs;obtain⟨f0,f1,f2,f6,f7,f11,f13,f14⟩:=δ;simp only[go_sem,kd,f14,wZz i];refine QK (i+1,e,H2.frz o 1 rs) z1 ⟨hlt,?_⟩ (by simp only; omega) ?_ b_
  ·rw[I];have eB:(E.boxes v (.int .i64 N) j u y A e .aB ms.2).map (fun b=>(b.1,b.2.frz o 1 rs))=E.boxes v (.int .i64 N) j u y A e .aB ms.2:=by show [(E.o,bO.rows 2 [[PV.cH o 1 rs v,.int .i64 ms.2]]),(E.o7,bO.rows 7 [[.int .i64 N,PV.cH o 1 rs j,PV.cH o 1 rs u,PV.cH o 1 rs y,PV.cH o 1 rs A,PV.cH o 1 rs e,.aB]]),(E.o6,flZ)]=_;rw[y0,y1,y2,y3,y4,y5]
   have e5:(mT g.1++[xW P (.osl o 1 0 ms.1.length)]).map (fun r=>r.map (PV.cH o 1 rs))=mT (g.1++[P]):=by
    rw[aUX,abG];have:([xW P (.osl o 1 0 ms.1.length)]:List (List PV)).map (fun r=>r.map (PV.cH o 1 rs))=[P.cells]:=by show [[PV.str P.name,.int .i64 P.k,.int .i64 P.m,.int .i64 P.aST,.int .i64 P.s0,.int .i64 P.s1,.int .i64 P.s2,.int .i64 P.s3,.int .i64 P.s4,PV.cH o 1 rs (.osl o 1 0 ms.1.length),frs P.repair,.bool P.target.neg,aK P.target.num,aK P.target.den,.bool P.aSF.neg,aK P.aSF.num,aK P.aSF.den]]=_;rw[z2,← η];rfl
    rw[this];simp[mT]
   have eL:(FE.lists j u y A e S U O R (mT g.1++[xW P (.osl o 1 0 ms.1.length)])).map (fun x=>(x.1,x.2.1,x.2.2.map fun r=>r.map (PV.cH o 1 rs)))=FE.lists j u y A e S U O R (mT (g.1++[P])):=by show [(j,4,(jH S).map _),(u,4,(kP U).map _),(y,7,(kX O).map _),(A,3,(nA R).map _),(e,17,(mT g.1++[xW P (.osl o 1 0 ms.1.length)]).map _)]=_;rw[Yj,Yz,Vi,Vl,e5]
   rw[← eB,← eL];exact z5.sub (by rw[aUX]; exact aXG ..) (aVO.refl _)
  ·(repeat' (first|exact c_|refine d_ ?_ ?_))<;>first|(simp only[go_sem,f0,f1,f2,f6,f7,f11,f13]<;>rfl)|rfl
 ·have B:¬ (i:Int)<(n:Nat):=Om;have:i=n:=Om;subst this;simp only[go_sem,B];exact hK V _ _ (UQ Sq Sq Sq Sq Sq) W
theorem Uj {C:Ctx} (V:nT C) {l:List Nat} {v:PV} (T:Tp l v) (E:FE) (pc n a:Nat) (hn:n≤60) (β:pc≤50) (ha:a≤l.length) (ext B I J M j:PV) (A:List dD) (S:A.length=pc) (L:List LI) (K:cE) (F:PF) (H:PH)
  (hF:(((gG E).set 18 (.int .i64 n)).set 19 (.int .i64 0)).le F) (x:aM H (E.boxes v ext B I J M j .aB a) ((j,17,mT A)::L))
  (hK:∀ w U H',(gG E).le U→aM H' (E.boxes v ext B I J M j w (eZ l pc a n).2) ((j,17,mT A)::L++[(w,2,pD (eZ l pc a n).1)])→K (.exit 8) U H') :
  aC.wp C (.loop JS) K F H:=by
 refine wp_loop (α:=Nat × PV × PH) (fun t=>((gG E).set 18 (.int .i64 n)).set 19 (.int .i64 t.1)) (fun t=>t.2.2) (fun t=>t.1≤n∧aM t.2.2 (E.boxes v ext B I J M j t.2.1 (eZ l pc a t.1).2) ((j,17,mT A)::L++[(t.2.1,2,pD (eZ l pc a t.1).1)])) (fun t=>n-t.1) (0,.aB,H) ⟨aTQ _,x.kS 2⟩ hF b_ ?_;rintro⟨i,w,Z⟩ ⟨hi,x⟩;simp only at hi x ⊢;obtain⟨k1,k2⟩:=XQ l pc ha i;have y:eZ l pc a (i+1)=((eZ l pc a i).1++[⟨[118]++cC i,((aF l pc (eZ l pc a i).2).1:Nat)⟩],(aF l pc (eZ l pc a i).2).2):=rfl;simp only[go_sem,JS,kh,gG];by_cases hlt:i<n
 ·have u:(i:Int)<(n:Nat):=Om;generalize hg:eZ l pc a i=g at *
  have X:=x.set 0 rfl (bM v (aF l pc g.2).2);generalize O:aF l pc g.2=z at *
  have b1:=x.at 1 rfl;have Y:=(x.own 0 rfl).uA;rw[aTJ,S] at Y;have N:(PH.nil.set E.o7 (flB ext B I J M j w)).le Z:=e_ a_ b1;simp only[go_sem,u];refine bC (PH.nil.set E.o7 (flB ext B I J M j w)) (mkS l v) N ?_;simp only[go_sem,ki];refine HU V.totP (s:=[118]) (n:=i) (by decide) Om rfl N ?_;simp only[go_sem,Y];refine sF V.toHM T (o:=E.o) (n:=pc) (a:=g.2) Om k1 rfl (x.at 0 rfl) ?_ ?_
  ·rw[O]; exact e_ a_ (X.at 1 rfl)
  rw[O];have R:(1:Nat)*2≤16777216:=by decide
  simp only[go_sem,R,aTW,aUJ,or_false,forall_eq,forall_eq_or_imp];refine X.append (v:=w) (s:=2) (rows:=pD g.1) (L.length+1) (src:=[(⟨[118]++cC i,(z.1:Nat)⟩:fE).cells]) (by simp) rfl (by unfold roomFor; rw[aTJ]; simp only[aTT,maxLen]; omega) fun w' H2 h5 hw=>?_;obtain⟨q,rfl⟩:=hw (by simp);rw[show ((j,17,mT A)::L++[(w,2,pD g.1)])=((j,17,mT A)::L)++[(w,2,pD g.1)] from rfl,aWZ _ _ (by simp),show L.length+1-((j,17,mT A)::L).length=0 by simp] at h5;have W:=h5.at 1 rfl;refine⟨e_ a_ W,?_⟩;refine bC .nil cX a_ ?_;simp only[go_sem,kj,W,aTW,aUJ,or_false,forall_eq];have h6:=h5.set 1 rfl (flB ext B I J M j (.osl q 2 0 (pD g.1++[(⟨[118]++cC i,(z.1:Nat)⟩:fE).cells]).length));refine⟨a_,?_⟩;simp only[go_sem,kk,wZz i];refine aH (i+1,.osl q 2 0 (pD g.1++[(⟨[118]++cC i,(z.1:Nat)⟩:fE).cells]).length,_) ⟨hlt,?_⟩ (by simp only; omega) ?_ b_
  ·rw[y];have e:pD (g.1++[⟨[118]++cC i,(z.1:Nat)⟩])=pD g.1++[(⟨[118]++cC i,(z.1:Nat)⟩:fE).cells]:=by simp[pD]
   simp only;rw[e];exact h6
  ·exact Lq
 ·have u:¬ (i:Int)<(n:Nat):=Om;have:i=n:=Om;subst this;simp only[go_sem,u];exact hK w _ _ (UQ rfl rfl rfl rfl rfl) x
def OQ (l:List Nat) (v:PV) (o aRU aRW a:Nat) (r:PV) (H:PH):Prop:=Co r (.agg (jQ l aRU aRW a).1.cells)∧H=PH.nil.set o (bM v (jQ l aRU aRW a).2)
structure En (C:Ctx):Prop extends nT C where
 grow:∀ (l:List Nat) (v:PV),Tp l v→∀ (mc aRU:Nat),0<mc→mc≤1000→aRU≤60→gj C l v mc aRU 4
theorem aoG {C:Ctx} (R:En C) {l:List Nat} {v:PV} (T:Tp l v) (o aRU aRW a:Nat) (Δ:aRU≤60) (Ψ:aRW≤50) (ha:a≤l.length) :
  DZ.wp C (aR Lx.res (OQ l v o aRU aRW a)) (PF.args [.ptr o 2 0 0,.int .i64 aRU,.int .i64 aRW]) (PH.nil.set o (bM v a)):=by
 have hT:jQ l aRU aRW a=jQ l aRU aRW a:=rfl
 conv at hT=>rhs; unfold jQ
 dsimp only at hT;have hR:∀ r H,OQ l v o aRU aRW a r H↔Co r (.agg (jQ l aRU aRW a).1.cells)∧H=PH.nil.set o (bM v (jQ l aRU aRW a).2):=fun _ _=>Iff.rfl;have ne:=cS l (show 0<2 by decide) a;have ae:=bS l 2 ha;generalize he:aF l 2 a=e at *
 have Ω:=cS l (show 0<2 by decide) e.2;have ζ:=bS l 2 ae;generalize Θ:aF l 2 e.2=O at *
 obtain⟨S,δ⟩:=aj l ζ (1+O.1);generalize α:jK l O.2 (1+O.1)=aSC at *
 have a':=cS l (show 0<2 by decide) aSC.2;have η:=bS l 2 S;generalize Λ:aF l 2 aSC.2=u at *
 obtain⟨U,Y⟩:=KJ l (1+O.1) η (1+u.1);generalize W:eW l (1+O.1) u.2 (1+u.1)=aRV at *
 have κ:GOk l aRU ⟨[nE],[],aRV.2⟩:=⟨by simp,aTQ _,U⟩;obtain⟨hG,-⟩:=ZM (mc:=1+u.1) 4 0 κ;generalize hg:fG l (1+u.1) aRU 4 0 ⟨[nE],[],aRV.2⟩=g at *
 have b':=cS l (show 0<2 by decide) g.a;have θ:=bS l 2 hG.a;generalize Φ:aF l 2 g.a=pl at *
 obtain⟨V,ε⟩:=BF l (1+u.1) θ (1+pl.1);generalize β:eA l (1+u.1) pl.2 (1+pl.1)=pols at *
 have c':=cS l (Om:0<aRW+1) pols.2;have σ:=bS l (aRW+1) V;generalize ο:aF l (aRW+1) pols.2=vo at *
 generalize γ:eZ l (1+pl.1) vo.2 vo.1=vols at *
 have ee:IntKind.i64.wrap (1+(e.1:Int))=((1+e.1:Nat):Int):=by rw[wrap_i64 Om Om]; omega
 have τ:IntKind.i64.wrap (1+(O.1:Int))=((1+O.1:Nat):Int):=by rw[wrap_i64 Om Om]; omega
 have υ:IntKind.i64.wrap (1+(u.1:Int))=((1+u.1:Nat):Int):=by rw[wrap_i64 Om Om]; omega
 have χ:IntKind.i64.wrap (1+(pl.1:Int))=((1+pl.1:Nat):Int):=by rw[wrap_i64 Om Om]; omega
 have ψ:IntKind.i64.wrap ((aRW:Int)+1)=((aRW+1:Nat):Int):=dM Om;have h0:aM (PH.nil.set o (bM v a)) [(o,bM v a)] []:=aM.nil.new (H:=PH.nil) rfl (bM v a);simp only[go_sem,DZ,x2,Lx];refine aO fun o6 μ=>?_;have w:=h0.new μ flZ;simp only[go_sem,x3];refine dT R.toHM T (o:=o) (n:=2) (a:=a) (by decide) ha rfl (w.at 0 rfl) ?_;have A:=w.set 0 rfl (bM v e.2);rw[he];simp only[go_sem,ee];refine aO fun o7 ν=>?_;have J:=A.new ν (flB (.int .i64 (1+e.1:Nat)) .aB .aB .aB .aB .aB .aB);simp only[go_sem,x4,aTW,aUJ,or_false,forall_eq,forall_eq_or_imp];refine dT R.toHM T (o:=o) (n:=2) (a:=e.2) (by decide) ae rfl (J.at 0 rfl) ?_;have h4:=J.set 0 rfl (bM v O.2);rw[Θ];have h5:=h4.perm (B':=FE.boxes ⟨o,o6,o7,aRU,aRW⟩ v (.int .i64 (1+e.1:Nat)) .aB .aB .aB .aB .aB .aB O.2) (L':=[]) (aVX.cons _ (aVX.swap _ _ _)) (aVX.refl _);obtain⟨E,j⟩:∃ E:FE,E=⟨o,o6,o7,aRU,aRW⟩:=⟨_,rfl⟩;rw[← j] at h5;simp only[go_sem,τ,x5];refine awF (C:=C) R.tonT T E (1+O.1) O.2 Om ζ _ _ _ _ ?_ h5 ?_
 ·rw[j];unfold gG;exact Lq
 clear h5 h4 J A w h0 μ ν;intro y F1 H1 K w;rw[α] at w;have f0:F1 0=some (.ptr o 2 0 0):=K 0 _ (by rw[j]; unfold gG; simp only[go_sem]);have f1:F1 1=some (.int .i64 aRU):=K 1 _ (by rw[j]; unfold gG; simp only[go_sem]);have f2:F1 2=some (.int .i64 aRW):=K 2 _ (by rw[j]; unfold gG; simp only[go_sem]);have f6:F1 6=some (.ptr o6 7 0 0):=K 6 _ (by rw[j]; unfold gG; simp only[go_sem]);have f7:F1 7=some (.ptr o7 7 0 0):=K 7 _ (by rw[j]; unfold gG; simp only[go_sem]);have Z:=w.at 0 rfl;rw[j] at Z;simp only[go_sem,ju,f0];refine dT R.toHM T (o:=o) (n:=2) (a:=aSC.2) (by decide) S rfl Z ?_;have A:=w.set 0 rfl (bM v u.2);rw[Λ];simp only[go_sem,υ,jv];refine aiH (C:=C) R.tonT T E (1+u.1) u.2 (1+O.1) Om Om η (.int .i64 (1+e.1:Nat)) y aSC.1 δ _ _ _ ?_ (by rw[j] at A ⊢; exact A) ?_
 ·rw[j];unfold gG;exact Lq
 clear Z A w f0 f1 f2 f6 f7 K;intro w2 F2 H2 M f11 A;rw[W] at A;have f0:F2 0=some (.ptr o 2 0 0):=M 0 _ (by rw[j]; unfold gG; simp only[go_sem]);have f1:F2 1=some (.int .i64 aRU):=M 1 _ (by rw[j]; unfold gG; simp only[go_sem]);have f2:F2 2=some (.int .i64 aRW):=M 2 _ (by rw[j]; unfold gG; simp only[go_sem]);have f6:F2 6=some (.ptr o6 7 0 0):=M 6 _ (by rw[j]; unfold gG; simp only[go_sem]);have f7:F2 7=some (.ptr o7 7 0 0):=M 7 _ (by rw[j]; unfold gG; simp only[go_sem]);obtain⟨qm,ξ⟩:=(A.own 1 rfl).one (by rw[aTJ]; omega);rw[aTJ,Y] at ξ;subst ξ;have ω:(1:Nat)*7≤16777216:=by decide
 simp only[go_sem,j5];refine aA (R.int 0 (by unfold dN; omega)) rfl ?_;simp only[go_sem,aTW,aUJ,or_false,forall_eq,forall_eq_or_imp,ω];refine aO fun od Ξ=>?_;have J:=A.t6 (s:=7) (rows:=kX [nE]) Ξ;have b7:=A.at 1 rfl;rw[j] at b7;have n7:¬ o7=od:=by have:=J.neL 1 2 rfl rfl rfl;rw[j] at this; exact this
 simp only[go_sem,f7,b7,n7,aTW,aUJ,or_false,forall_eq];have h4:=(J.set 1 rfl (flB (.int .i64 (1+e.1:Nat)) y (.osl qm 4 0 (1+u.1)) (.osl od 7 0 1) .aB .aB .aB)).kS 3;rw[j] at h4;have h5:=h4.perm (B':=(GE.mk o o7 qm (.int .i64 (1+e.1:Nat)) y .aB .aB).boxes v (1+u.1) (.osl od 7 0 1) .aB aRV.2++[(o6,flZ)]) (L':=mS ⟨[nE],[],aRV.2⟩ (.osl od 7 0 1) .aB++[(y,4,jH aSC.1),(.osl qm 4 0 (1+u.1),4,kP aRV.1)]) (aVX.refl _)
  (List.perm_append_comm (l₁:=[(y,4,jH aSC.1),(.osl qm 4 0 (1+u.1),4,kP aRV.1)]) (l₂:=mS ⟨[nE],[],aRV.2⟩ (.osl od 7 0 1) .aB))
 simp only[go_sem,j6,f0,f1,f7];refine FX h5 (fun H0 Γ=>R.grow l v T (1+u.1) aRU Om Om Δ (GE.mk o o7 qm (.int .i64 (1+e.1:Nat)) y .aB .aB) (.osl od 7 0 1) .aB ⟨[nE],[],aRV.2⟩ 0 nE κ rfl rfl H0 Γ) (by simp only[go_sem,f0,f1,f7]; rfl) ?_;rintro r B' L' H3 ⟨rfl,F,I,rfl,rfl⟩ h6;rw[hg] at h6;have h7:=h6.perm (B':=E.boxes v (.int .i64 (1+e.1:Nat)) y (.osl qm 4 0 (1+u.1)) F I .aB .aB g.a) (L':=[(y,4,jH aSC.1),(.osl qm 4 0 (1+u.1),4,kP aRV.1),(F,7,kX g.aSE),(I,3,nA g.aSO)]) (by rw[j]; exact aVX.refl _)
  (List.perm_append_comm (l₁:=mS g F I) (l₂:=[(y,4,jH aSC.1),(.osl qm 4 0 (1+u.1),4,kP aRV.1)]))
 have Z:=h7.at 0 rfl;rw[j] at Z;simp only[go_sem,j7,f0];refine dT R.toHM T (o:=o) (n:=2) (a:=g.a) (by decide) hG.a rfl Z ?_;have h8:=h7.set 0 rfl (bM v pl.2);rw[Φ];simp only[go_sem,χ,j8];refine Lw (C:=C) R.tonT T E (1+u.1) (1+pl.1) pl.2 Om Om Om θ ((1+e.1:Nat):Int) y (.osl qm 4 0 (1+u.1)) F I aSC.1 aRV.1 g.aSE g.aSO _ _ _ (by rw[j]; exact⟨by simp only[go_sem,f0],by simp only[go_sem,f1],by simp only[go_sem,f2],by simp only[go_sem,f6],by simp only[go_sem,f7],by simp only[go_sem,f11],by simp only[go_sem],by simp only[go_sem]; rfl⟩) (by rw[j] at h8 ⊢; exact h8) ?_;clear h8 h7 h6 h5 h4 J A Z b7 f0 f1 f2 f6 f7 M;intro w5 F4 H4 N w;rw[β] at w;have f0:F4 0=some (.ptr o 2 0 0):=N 0 _ (by rw[j]; unfold gG; simp only[go_sem]);have f1:F4 1=some (.int .i64 aRU):=N 1 _ (by rw[j]; unfold gG; simp only[go_sem]);have f2:F4 2=some (.int .i64 aRW):=N 2 _ (by rw[j]; unfold gG; simp only[go_sem]);have f6:F4 6=some (.ptr o6 7 0 0):=N 6 _ (by rw[j]; unfold gG; simp only[go_sem]);have f7:F4 7=some (.ptr o7 7 0 0):=N 7 _ (by rw[j]; unfold gG; simp only[go_sem]);have Z:=w.at 0 rfl;rw[j] at Z;simp only[go_sem,kf,f0,f2,ψ];refine dT R.toHM T (o:=o) (n:=aRW+1) (a:=pols.2) Om V rfl Z ?_;have A:=w.set 0 rfl (bM v vo.2);rw[ο];have J:=A.perm (B':=E.boxes v (.int .i64 (1+e.1:Nat)) y (.osl qm 4 0 (1+u.1)) F I w5 .aB vo.2) (L':=(w5,17,mT pols.1)::[(y,4,jH aSC.1),(.osl qm 4 0 (1+u.1),4,kP aRV.1),(F,7,kX g.aSE),(I,3,nA g.aSO)]) (aVX.refl _)
  (List.perm_append_comm (l₁:=[(y,4,jH aSC.1),(.osl qm 4 0 (1+u.1),4,kP aRV.1),(F,7,kX g.aSE),(I,3,nA g.aSO)]) (l₂:=[(w5,17,mT pols.1)]))
 simp only[go_sem,kg];refine Uj (C:=C) R.tonT T E (1+pl.1) vo.1 vo.2 Om Om σ _ _ _ _ _ w5 pols.1 ε _ _ _ _ ?_ (by rw[j] at J ⊢; exact J) ?_
 ·rw[j];unfold gG;exact Lq
 clear J A w Z f0 f1 f2 f6 f7 N;intro w6 F5 H5 ι w;rw[γ] at w;have f6:F5 6=some (.ptr o6 7 0 0):=ι 6 _ (by rw[j]; unfold gG; simp only[go_sem]);have f7:F5 7=some (.ptr o7 7 0 0):=ι 7 _ (by rw[j]; unfold gG; simp only[go_sem]);rw[j] at w;have b7:=w.at 1 rfl;have b6:=w.at 2 rfl;have one:∀ (x:PV),x∈[y,F,I,w5,w6]→(∃ q s n,x=.osl q s 0 n)∨x=.aB:=by
  intro x hx;have X:∀ {s:Nat} {rows:List (List PV)},cA H5 s x rows→(∃ q s n,x=.osl q s 0 n)∨x=.aB:=by
   rintro s rows (⟨_,h⟩ | ⟨q,rs,h,_⟩)
   ·exact .inr h
   ·exact .inl ⟨q,s,_,h⟩
  simp only[aTW,aUJ,or_false] at hx;rcases hx with rfl | rfl | rfl | rfl | rfl
  ·exact X (w.own 1 rfl)
  ·exact X (w.own 3 rfl)
  ·exact X (w.own 4 rfl)
  ·exact X (w.own 0 rfl)
  ·exact X (w.own 5 rfl)
 have B:∀ (x:PV),x∈[y,F,I,w5,w6]→PV.one x=true:=fun x hx=>by rcases one x hx with ⟨q,s,n,rfl⟩ | rfl<;>rfl
 have o1:=B y (by simp);have o3:=B F (by simp);have o4:=B I (by simp);have o5:=B w5 (by simp);have ρ:=B w6 (by simp);simp only[PV.one] at o1 o3 o4 o5 ρ;simp only[go_sem,kn,f6,f7,b7,b6,aTW,aUJ,or_false,forall_eq,forall_eq_or_imp,o1,o3,o4,o5,ρ];have A:=w.set 2 rfl (flB (.int .i64 (1+e.1:Nat)) y (.osl qm 4 0 (1+u.1)) F I w5 w6);have J:=A.sub (B':=[(o,bM v vols.2)]) (aVO.cons_cons _ (List.nil_sublist _)) (aVO.refl _);obtain⟨φ,H6,k1,k2,k3,k4⟩:=aM.giveUp _ J (fun x hx=>by
  simp only[List.cons_append,aWP,aTW,aUJ,or_false] at hx;rcases hx with rfl | rfl | rfl | rfl | rfl | rfl
  ·exact abG _
  ·exact Yj _
  ·exact Yz _
  ·exact Vi _
  ·exact Vl _
  ·exact aHN _) (fun b hb q s rs=>by
  simp only[aTW,aUJ,or_false] at hb;subst hb;simp only[bO.frz,aUQ,aVZ,T.frz];rfl)
 refine oH (vs:=[.agg [.int .i64 (1+e.1:Nat),y,.osl qm 4 0 (1+u.1),F,I,w5,w6]]) (.inr rfl) (by simp only[go_sem,f6]) (k4 _ _ (.done (H2:=PH.nil.set o (bM v vols.2)) ?_ (e_ a_ (k3.at 0 rfl))));rw[hR,hT];refine⟨CoL.agg ?_,rfl⟩;have s5:=k1 (w5,17,mT pols.1) (by simp);have s1:=k1 (y,4,jH aSC.1) (by simp);have s2:=k1 (.osl qm 4 0 (1+u.1),4,kP aRV.1) (by simp);have s3:=k1 (F,7,kX g.aSE) (by simp);have s4:=k1 (I,3,nA g.aSO) (by simp);have s6:=k1 (w6,2,pD vols.1) (by simp);have s0:φ (.int .i64 (1+e.1:Nat))=.int .i64 (1+e.1:Nat):=k2 _ rfl;show CoL [φ (.int .i64 (1+e.1:Nat)),φ y,φ (.osl qm 4 0 (1+u.1)),φ F,φ I,φ w5,φ w6] _;rw[s0];exact CoL.cons (.refl _) (CoL.cons s1.co (CoL.cons s2.co (CoL.cons s3.co (CoL.cons s4.co (CoL.cons s5.co (CoL.cons s6.co .nil))))))
structure alY (C:Ctx):Prop extends En C where
 new:∀ (l:List Nat),(∀ x∈l,x<256)→l.length≤9223372036854775807→aG C 28 [.sl 1 (kU l)] .nil (afQ l)
 fleet:∀ (l:List Nat) (v:PV),Tp l v→∀ (o aRU aRW a:Nat),aRU≤60→aRW≤50→a≤l.length →
  aG C 0 [.ptr o 2 0 0,.int .i64 aRU,.int .i64 aRW] (PH.nil.set o (bM v a)) (fun r H=>r=.agg (jQ l aRU aRW a).1.cells∧H=PH.nil.set o (bM v (jQ l aRU aRW a).2))
theorem OQ.exact {C:Ctx} {name:Nat} {args:List PV} {H:PH} {l:List Nat} {v:PV} {o aRU aRW a:Nat} (h:aG C name args H (OQ l v o aRU aRW a)):aG C name args H (fun r H=>r=.agg (jQ l aRU aRW a).1.cells∧H=PH.nil.set o (bM v (jQ l aRU aRW a).2)) :=
 h.post fun r H' e=>⟨_,e.1,rfl,e.2⟩
theorem aoD {C:Ctx} (y:alY C) (l:List Nat) (hb:∀ x∈l,x<256) (B:l.length≤9223372036854775807) (aRU aRW:Nat) (j:aRU≤60) (w:aRW≤50) :
  DX.wp C (aR K9.res (cB (.agg (jQ (l.take 400) aRU aRW 0).1.cells))) (PF.args [.sl 1 (kU l),.int .i64 aRU,.int .i64 aRW]) .nil:=by
 simp only[go_sem,DX,xu,K9];refine aO fun o6 E=>?_;simp only[go_sem,xv];refine eO (y.new l hb B) rfl a_ ?_;rintro r H' ⟨o,v,rfl,T,rfl⟩ A;have u:¬ o6=o:=by intro e;subst e;have:=A o6 (bM v 0) (by rw[aT,if_pos rfl]) rfl;rw[aT,if_pos rfl] at this;cases this
 rw[PH.qG];simp only[go_sem];refine nN (y.fleet _ v T o aRU aRW 0 j w (aTQ _)) (by rw[aT,if_pos rfl]) rfl ?_;simp only[go_sem,u];exact aV (vs:=[.agg (jQ (l.take 400) aRU aRW 0).1.cells]) (.inr rfl) .nil Sq a_ ⟨.refl _,rfl⟩
theorem CoL.axJ:CoL [] []:=⟨rfl,fun j p q h=>by simp at h⟩
theorem CoL.CA {p q:PV} {ps l:List PV} (h:Co p q) (e:CoL ps l):CoL (p::ps) (q::l):=by
 refine⟨by simp[e.len],fun j x y a b=>?_⟩;cases j with
 | zero =>simp only[List.getElem?_cons_zero,aVU.injEq] at a b;subst a; subst b; exact h
 | succ j=>exact e.at_ j x y (by simpa using a) (by simpa using b)
theorem aG.seen {C:Ctx} {name:Nat} {args:List PV} {H:PH} {v:PV} (h:aG C name args H (cB v)):aG C name args H (aI v) :=
 h.post fun r H' e=>⟨v,e.1,rfl,e.2⟩
def UX (x:RF):Bool:=(x.num.all (fun n=>decide (n<4294967296))&&x.den.all fun n=>decide (n<4294967296))&&(decide (x.num.length≤9)&&decide (x.den.length≤9))
theorem LK {x:RF} (h:UX x=true):x.Ok:=by
 simp only[UX,aUC,aUH,decide_eq_true_eq] at h;exact⟨h.1.1,h.1.2,by omega,by omega⟩
def HE (l:List RF):Bool:=decide (l.length≤9)&&l.all UX
theorem CU {l:List RF} (h:HE l=true):kR l:=by
 simp only[HE,aUC,aUH,decide_eq_true_eq] at h;exact⟨by unfold Fits; omega,fun x e=>LK (h.2 x e)⟩
def Kp (x:cI):Bool:=(HE x.start&&HE x.exit)&&(decide (x.aRZ.length≤9)&&x.aRZ.all HE)
theorem anS {x:cI} (h:Kp x=true):x.Ok:=by
 simp only[Kp,aUC,aUH,decide_eq_true_eq] at h;exact⟨CU h.1.1,CU h.1.2,by unfold Fits; omega,fun r e=>CU (h.2.2 r e)⟩
def Ot (x:dD):Bool:=(decide (dN x.k∧dN x.m∧dN x.aST)&&(decide (x.aRV.length≤9)&&x.aRV.all fun m=>decide (dN m)))&&(HE x.repair&&(UX x.target&&UX x.aSF))
theorem apV {x:dD} (h:Ot x=true):x.Ok:=by
 simp only[Ot,aUC,aUH,decide_eq_true_eq] at h;exact⟨h.1.1.1,h.1.1.2.1,h.1.1.2.2,by unfold Fits; omega,h.1.2.2,CU h.2.1,LK h.2.2.1,LK h.2.2.2⟩
def okB (f:aD):Bool:=(decide (f.aSC.length≤99∧f.aRV.length≤99∧f.aRX.length≤99∧f.aRU.length≤99∧f.aRY.length≤99∧f.aRW.length≤99)&&(f.aSC.all Kp&&f.aRY.all Ot)) &&
 (f.aRX.all (fun x=>UX x.aSK&&decide (dN x.level∧dN x.parent))&&(f.aRU.all (fun x=>decide (dN x.model∧dN x.machine))&&f.aRW.all fun x=>decide (dN x.aSH)))
theorem aJN {f:aD} (h:okB f=true):f.Ok:=by
 simp only[okB,aUC,aUH,decide_eq_true_eq] at h;obtain⟨⟨⟨y,A,B,E,F,I⟩,l,u⟩,j,w,h5⟩:=h;exact⟨by unfold Fits; omega,by unfold Fits; omega,by unfold Fits; omega,by unfold Fits; omega,by unfold Fits; omega,by unfold Fits; omega,fun x e=>anS (l x e),fun x e=>⟨LK (j x e).1,(j x e).2⟩,w,fun x e=>apV (u x e),h5⟩
noncomputable def fB:aD:={ (jQ [] 1 0 0).1 with aRW:=[⟨[118,48],0⟩] }
theorem kE:dA fB=true:=by decide +kernel
theorem tE:fB.Ok:=aJN (by decide +kernel)
theorem Uv:xF fB [[0]] []=true:=by
 unfold xF akZ;rw[kE,if_pos rfl,if_pos (by decide +kernel)];decide +kernel
end Go.PM
