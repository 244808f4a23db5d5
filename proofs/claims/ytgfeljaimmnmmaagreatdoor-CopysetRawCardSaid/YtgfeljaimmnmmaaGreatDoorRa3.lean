/-
  Texts of ours, joined: FlW2 FlW3 FlW4 FlW5 FlW6 FlW7 FlW8 FlW9 ToPlain ToCode ToW1 ToW2 Pm34 ToW3 ToW4 ToW5 ToW6 ToW7 ToW8 ToW9 ToW10 MkCode R1Code R1W1 R1W2 R1W3 R1W4 MkPlain MkW1 Pm35 Pm36 MkW2 MkW3 MkW4 MkW5 MkW6 MkW7 Mk. No condition.
-/
import Derived.Test.YtgfeljaimmnmmaaGreatDoorRa1
import Derived.Test.YtgfeljaimmnmmaaGreatDoorRa2
import Derived.Lib.ItoaNum
set_option linter.unusedSimpArgs false
set_option linter.unusedVariables false
open Nat renaming reduceEqDiff → γ, reduceAdd → δ, reduceSub → ε, reduceMul → ζ, reduceLT → η, reduceLeDiff → θ, reduceBEq → τ
open Int renaming reduceLT → ι, reduceLE → κ, reduceEq → μ, reduceToNat → ν, reduceAdd → ξ, reduceNeg → ο, reduceBEq → ρ, reduceBNe → σ
open List renaming reduceReplicate → υ
open List renaming length_map → a6K, range → a6L, getElem_mem → a6M, replicate → a6N, length_append → a6T, mem_cons → a6V, length_singleton → a6X, getElem?_eq_getElem → a6Y, all_eq_true → a7B, getD_eq_getElem?_getD → a7C, length_take → a7D, take_of_length_le → a7F, not_mem_nil → a7G, getElem?_map → a7J, map_append → a7L, take_length → a7M, mem_map → a7N, mem_range → a7P, getElem?_eq_some_iff → a7T, append_assoc → a7V, drop_zero → a7W, getElem?_eq_none → a7Z, map_cons → a8B, length_cons → a8D, take_succ_eq_append_getElem → a8E, append_nil → a8H, drop_eq_getElem_cons → a8I, mem_append → a8J, range' → a8K, Sublist → a8L, length_set → a8M, getElem_map → a8P, length_drop → a8Q, map_nil → a8W, getElem?_append_left → a8Z, mem_singleton → a9A, getElem?_append_right → a9B, getElem_of_mem → a9C, mem_of_getElem? → a9D, length_nil → a9F, nodup_append → a9G, set_append_right → a9H, take_append_drop → a9I, ext_getElem → a9R, range_succ → a9U, all_append → a9X, getElem?_take → a9Y, drop_of_length_le → baE, length_filter_le → baF
open Nat renaming gcd → a6O, zero_le → a6Q, le_refl → a6S, mul_add → a6Z, lt_or_ge → a7H, zero_add → a7I, mul_assoc → a7K, mul_comm → a7O, add_mul → a7Q, mul_le_mul_right → a7R, le_trans → a7U, mod_eq_of_lt → a7X, mod_lt → a8A, pow_succ → a8C, add_zero → a8N, eq_zero_or_pos → a8R, min_eq_left → a8S, mul_le_mul_left → a8T, pos_of_ne_zero → a8U, add_assoc → a8X, pow_pos → a9E, pow_le_pow_right → a9J, div_lt_iff_lt_mul → a9M, sub_self → a9N, succ_mul → a9O, div_add_mod → a9Z, div_eq_of_lt → baA, div_le_self → baB
open Bool renaming not_true → a6P, false_and → a6R, true_and → a6W, not_false → a7A, and_eq_true → a7E, and_false → a7S, and_true → a8V, and_assoc → a9L, and_self → a9Q, false_eq_true → a9T
open Option renaming map_eq_some_iff → a6U, map_some → a7Y, some → a8Y, getD_some → a9K, bind_some → a9V, bind_eq_some_iff → baC
open Array renaming replicate → a8F, length_toList → a9P, getElem?_eq_some_iff → a9S, getElem?_eq_getElem → a9W, getD_eq_getD_getElem? → baD
open Int renaming toNat_natCast → a8G, tdiv → a8O
namespace Go.PM
open Go Go.Na
theorem bD {t:Nat} {b c:Bool} {F:PF} {H:PH} (h:F t=some (.bool b)) (e:b=c):aV [.tmp t] (bX (.bool c)) .ret F H:=by
 subst e;exact bA (.inr rfl) .nil (vs:=[.bool b]) (by rw[jU,mX,h,oG]) a_ ⟨.refl _,rfl⟩
theorem arU {C:Ctx} (n lo hi:Int):zG.wp C (aV gin.res (bX (.bool (within n lo hi)))) (PF.args [.int .i64 n,.int .i64 lo,.int .i64 hi]) .nil:=by
 by_cases a:lo≤n
 ·by_cases b:n≤hi
  ·simp only[go_sem,zG,jf,jg,gin,show n≥lo from a,b];exact bD Ev (by simp[within,a,b])
  ·simp only[go_sem,zG,jf,jg,gin,show n≥lo from a,b];exact bD Ev (by simp[within,a,b])
 ·have c:¬ n≥lo:=a;simp only[go_sem,zG,jf,jg,gin,c];exact bD Ev (by simp[within,a])
theorem za {C:Ctx} (L:qO C) (x:RF) (c:x.Ok):CM.wp C (aV jd.res (bX (.bool (cH x)))) (PF.args [.agg x.cells]) .nil:=by
 simp only[go_sem,CM,zb,zc,jd];refine aA (L.bits x.num c.1 c.2.2.1) Ev ?_;simp only[go_sem];refine bD Ev ?_;have:=@jO (val x.num);rw[cH,decide_eq_decide];omega
structure d8 (C:Ctx):Prop extends AP C where
 frac:∀ n d:Int,dE n→dE d→aG C 115 [.int .i64 n,.int .i64 d] .nil (aF (jt n d))
 red:∀ x:RF,x.Ok→aG C 116 [.agg x.cells] .nil (aF (frV (oM x)))
 ord:∀ x y:RF,x.Ok→y.Ok→aG C 114 [.agg x.cells,.agg y.cells] .nil (aF (BB x.neg (val x.num) (val x.den) y.neg (val y.num) (val y.den)))
 plus:∀ x y:RF,x.Ok→y.Ok→aG C 113 [.agg x.cells,.agg y.cells] .nil (aF (frV (gU x.v y.v)))
 tot:∀ l:List RF,gY l→aG C 117 [frs l] .nil (aF (frV (pM (l.map RF.v))))
theorem IN {neg:Bool} {a b:Nat} {e:Int} (h:gW neg a b=.error e):e=2:=by
 unfold gW at h;split at h
 ·injection h with h; exact h.symm
 ·cases h
theorem Qz {x:RF} {e:Int} (h:oM x=.error e):e≠0:=by
 unfold oM at h;split at h
 ·rw[IN h]; decide
 ·injection h with h; subst h; decide
theorem aQR {x:RF} {r:FV} (h:oM x=.ok r):r.rf.Ok:=by
 unfold oM at h;split at h
 ·exact (sO h).2
 ·cases h
theorem Y4 {C:Ctx} (L:d8 C) (x:RF) (p:x.Ok):PR.wp C (aV ajS.res (bX (.bool (cP x)))) (PF.args [.agg x.cells]) .nil:=by
 simp only[go_sem,PR,Y5,Y6,ajS];refine aA (L.red x p) Ev ?_;unfold cP;cases i:oM x with
 | error e =>have:=bF (Qz i);simp only[go_sem,frV];refine aR fun o l=>?_;simp only[go_sem,UN,this];exact bD Ev rfl
 | ok r =>
  obtain⟨n,a,b⟩:=r;obtain⟨q,u,w,y⟩:=aQR i;simp only[go_sem,frV];refine aR fun o l=>?_;cases n with
  | true =>simp only[go_sem,UN];exact bD Ev rfl
  | false =>
   simp only[go_sem,UN];refine aA (L.bits _ q w) Ev ?_;rw[show val (FV.rf (false,a,b)).num=a from aW a];by_cases d:cJ a≤32
   ·have c:((cJ a:Nat):Int)≤32:=Om;simp only[go_sem,c];refine aA (L.bits _ u y) Ev ?_;rw[show val (FV.rf (false,a,b)).den=b from aW b];simp only[go_sem];refine bD Ev ?_;rw[decide_eq_true d];simp;omega
   ·have c:¬ ((cJ a:Nat):Int)≤32:=Om;simp only[go_sem,c];refine bD Ev ?_;rw[decide_eq_false d];rfl
theorem Nq:gW false 1 1=.ok (false,1,1):=by
 have:cJ 1=1:=by rw[oZ (by decide),jH]
 simp[gW,this]
theorem Ns:jt 1 1=frV (.ok (false,1,1)):=by
 rw[jt,if_neg (by decide),ui];show frV (gW false 1 1)=_;rw[Nq]
theorem auI:(FV.rf (false,1,1)).Ok:=(sO Nq).2
theorem Ea:cR 1 1=true:=by
 have:cJ 1=1:=by rw[oZ (by decide),jH]
 simp[cR,this]
theorem Zb {C:Ctx} (L:d8 C) (x:RF) (c:x.Ok):PT.wp C (aV gone.res (bX (.bool (wE x)))) (PF.args [.agg x.cells]) .nil:=by
 simp only[go_sem,PT,Zc,Zd,gone];refine aA (L.frac 1 1 (by decide) (by decide)) Ev ?_;rw[Ns];simp only[go_sem,frV];refine aR fun o d=>?_;simp only[go_sem,Ze];refine aA (L.ord x (FV.rf (false,1,1)) c auI) Ev ?_;rw[show val (FV.rf (false,1,1)).num=1 from aW 1,show val (FV.rf (false,1,1)).den=1 from aW 1,show (FV.rf (false,1,1)).neg=false from rfl];unfold BB wE;rw[Ea,a8V];cases e:cR (val x.num) (val x.den) with
 | false =>simp only[go_sem,t7];exact bD Ev rfl
 | true =>simp only[go_sem,t7];exact bD Ev rfl
theorem K3 {C:Ctx} (p:RF→Bool) (fn:Nat) (l:List RF) (q:Fits l) (h:∀ x∈l,aG C fn [.agg x.cells] .nil (aF (.bool (p x)))) :
  HS.wp C (aV Gr.res (bX (.bool (l.all p)))) (PF.args [frs l,.fn fn []]) .nil:=by
 simp only[go_sem,HS,K4,K5,Gr];refine wp_loop (α:=Nat) (fun k=>((((PF.nil.set 1 (.fn fn [])).set 7 (frs l)).set 8 (.int .i64 (l.length:Nat))).set 9 (.int .i64 k))) (fun _=>.nil) (fun k=>k≤l.length∧(l.take k).all p=true) (fun k=>l.length-k) 0 ⟨a6Q _,rfl⟩ ?_ a_ ?_
 ·(repeat' (first|exact c_|refine d_ ?_ ?_))<;>first|(simp only[go_sem,a6K]<;>rfl)|rfl
 rintro k ⟨u,d⟩;simp only[go_sem,K0,K6];by_cases hlt:k<l.length
 ·have c:(k:Int)<(l.length:Nat):=Om;have i:(l.map RF.cells)[k]?=some (l[k]).cells:=by simp[hlt]
  simp only[go_sem,c,K7,i];refine aR fun o w=>?_;simp only[go_sem,K8];refine aA (h _ (a6M hlt)) Ev ?_;cases e:p l[k] with
  | false =>simp only[go_sem,K9];exact bD (b:=false) Ev (oY (p:=p) hlt e).symm
  | true =>simp only[go_sem,La,wZz k];refine aD (k+1) ⟨hlt,a7B.1 (oX hlt d e)⟩ Om ?_ a_;exact Lq
 ·have c:¬ (k:Int)<(l.length:Nat):=Om;simp only[go_sem,c,Lc];have:k=l.length:=Om;subst this;rw[a7F (a6S _)] at d;exact bD Ev d.symm
theorem Le {C:Ctx} (p:Int→Bool) (fn:Nat) (l:List Int) (q:Fits l) (h:∀ x∈l,aG C fn [.int .i64 x] .nil (aF (.bool (p x)))) :
  HT.wp C (aV Gs.res (bX (.bool (l.all p)))) (PF.args [ints l,.fn fn []]) .nil:=by
 simp only[go_sem,HT,Lf,Lg,Gs];refine wp_loop (α:=Nat) (fun k=>((((PF.nil.set 1 (.fn fn [])).set 7 (ints l)).set 8 (.int .i64 (l.length:Nat))).set 9 (.int .i64 k))) (fun _=>.nil) (fun k=>k≤l.length∧(l.take k).all p=true) (fun k=>l.length-k) 0 ⟨a6Q _,rfl⟩ ?_ a_ ?_
 ·(repeat' (first|exact c_|refine d_ ?_ ?_))<;>first|(simp only[go_sem,a6K]<;>rfl)|rfl
 rintro k ⟨u,d⟩;simp only[go_sem,Ld,Lh];by_cases hlt:k<l.length
 ·have c:(k:Int)<(l.length:Nat):=Om;have i:(l.map fun n=>[PV.int .i64 n])[k]?=some [.int .i64 l[k]]:=by simp[hlt]
  simp only[go_sem,c,Li,i,Lj];refine aA (h _ (a6M hlt)) Ev ?_;cases e:p l[k] with
  | false =>simp only[go_sem,Lk];exact bD (b:=false) Ev (oY (p:=p) hlt e).symm
  | true =>simp only[go_sem,Ll,wZz k];refine aD (k+1) ⟨hlt,a7B.1 (oX hlt d e)⟩ Om ?_ a_;exact Lq
 ·have c:¬ (k:Int)<(l.length:Nat):=Om;simp only[go_sem,c,Lm];have:k=l.length:=Om;subst this;rw[a7F (a6S _)] at d;exact bD Ev d.symm
abbrev aiG (l:List Bool):PV:=.sl 1 (l.map fun b=>[PV.bool b])
theorem Kr {C:Ctx} (p:Bool→Bool) (fn:Nat) (l:List Bool) (q:Fits l) (h:∀ x∈l,aG C fn [.bool x] .nil (aF (.bool (p x)))) :
  HR.wp C (aV Gq.res (bX (.bool (l.all p)))) (PF.args [aiG l,.fn fn []]) .nil:=by
 simp only[go_sem,HR,Ks,Kt,Gq];refine wp_loop (α:=Nat) (fun k=>((((PF.nil.set 1 (.fn fn [])).set 7 (aiG l)).set 8 (.int .i64 (l.length:Nat))).set 9 (.int .i64 k))) (fun _=>.nil) (fun k=>k≤l.length∧(l.take k).all p=true) (fun k=>l.length-k) 0 ⟨a6Q _,rfl⟩ ?_ a_ ?_
 ·(repeat' (first|exact c_|refine d_ ?_ ?_))<;>first|(simp only[go_sem,a6K]<;>rfl)|rfl
 rintro k ⟨u,d⟩;simp only[go_sem,Kq,Ku];by_cases hlt:k<l.length
 ·have c:(k:Int)<(l.length:Nat):=Om;have i:(l.map fun b=>[PV.bool b])[k]?=some [.bool l[k]]:=by simp[hlt]
  simp only[go_sem,c,Kv,i,Kw];refine aA (h _ (a6M hlt)) Ev ?_;cases e:p l[k] with
  | false =>simp only[go_sem,Kx];exact bD (b:=false) Ev (oY (p:=p) hlt e).symm
  | true =>simp only[go_sem,Ky,wZz k];refine aD (k+1) ⟨hlt,a7B.1 (oX hlt d e)⟩ Om ?_ a_;exact Lq
 ·have c:¬ (k:Int)<(l.length:Nat):=Om;simp only[go_sem,c,Kz];have:k=l.length:=Om;subst this;rw[a7F (a6S _)] at d;exact bD Ev d.symm
theorem zd {C:Ctx} (b:Bool):CN.wp C (aV je.res (bX (.bool b))) (PF.args [.bool b]) .nil:=by
 simp only[go_sem,CN,ze,zf,je];exact bD Ev rfl
theorem L5 {C:Ctx} (c:∀ n lo hi:Int,aG C 104 [.int .i64 n,.int .i64 lo,.int .i64 hi] .nil (aF (.bool (within n lo hi)))) (n:Int):HX.wp C (aV Gu.res (bX (.bool (within n 0 8)))) (PF.args [.int .i64 n]) .nil:=by
 simp only[go_sem,HX,L6,L7,Gu];refine aA (c n 0 8) Ev ?_;simp only[go_sem];exact bD Ev rfl
theorem zk {C:Ctx} (d:∀ x:RF,x.Ok→aG C 105 [.agg x.cells] .nil (aF (.bool (cP x)))) (e:∀ x:RF,x.Ok→aG C 97 [.agg x.cells] .nil (aF (.bool (cH x)))) (x:RF) (c:x.Ok) :
  CO.wp C (aV jh.res (bX (.bool (cP x&&cH x)))) (PF.args [.agg x.cells]) .nil:=by
 simp only[go_sem,CO,zl,zm,jh];refine aA (d x c) Ev ?_;cases i:cP x with
 | false =>simp only[go_sem];exact bD Ev rfl
 | true =>simp only[go_sem];refine aA (e x c) Ev ?_;simp only[go_sem];exact bD Ev rfl
structure qV (C:Ctx):Prop extends d8 C where
 inn:∀ n lo hi:Int,aG C 104 [.int .i64 n,.int .i64 lo,.int .i64 hi] .nil (aF (.bool (within n lo hi)))
 lS:∀ x:RF,x.Ok→aG C 97 [.agg x.cells] .nil (aF (.bool (cH x)))
 lim:∀ x:RF,x.Ok→aG C 105 [.agg x.cells] .nil (aF (.bool (cP x)))
 one:∀ x:RF,x.Ok→aG C 101 [.agg x.cells] .nil (aF (.bool (wE x)))
 allf:∀ (p:RF→Bool) (fn:Nat) (l:List RF),Fits l→(∀ x∈l,aG C fn [.agg x.cells] .nil (aF (.bool (p x))))→aG C 99 [frs l,.fn fn []] .nil (aF (.bool (l.all p)))
 alli:∀ (p:Int→Bool) (fn:Nat) (l:List Int),Fits l→(∀ x∈l,aG C fn [.int .i64 x] .nil (aF (.bool (p x))))→aG C 100 [ints l,.fn fn []] .nil (aF (.bool (l.all p)))
 allb:∀ (p:Bool→Bool) (fn:Nat) (l:List Bool),Fits l→(∀ x∈l,aG C fn [.bool x] .nil (aF (.bool (p x))))→aG C 98 [aiG l,.fn fn []] .nil (aF (.bool (l.all p)))
 ends1:∀ b:Bool,aG C 103 [.bool b] .nil (aF (.bool b))
 num1:∀ n:Int,aG C 107 [.int .i64 n] .nil (aF (.bool (within n 0 8)))
 rate1:∀ x:RF,x.Ok→aG C 109 [.agg x.cells] .nil (aF (.bool (cP x&&cH x)))
 name:∀ s:List UInt8,aG C 123 [.str s] .nil (aF (.bool (isName s)))
theorem qV.aFH {C:Ctx} (L:qV C) (l:List RF) (h:gY l):aG C 99 [frs l,.fn 105 []] .nil (aF (.bool (l.all cP))) :=
 L.allf cP 105 l h.fits fun x c=>L.lim x (h.all x c)
theorem within_iff {n lo hi:Int}:within n lo hi=true↔lo≤n∧n≤hi:=by simp[within]
theorem Y7 {C:Ctx} (L:qV C) (p:bT) (A:p.Ok) :
  PS.wp C (aV ajT.res (bX (.bool (RK p)))) (PF.args [.int .i64 p.k,.int .i64 p.m,.int .i64 p.a5X,.agg [.int .i64 p.s0,.int .i64 p.s1,.int .i64 p.s2,.int .i64 p.s3,.int .i64 p.s4]]) .nil:=by
 simp only[go_sem,PS,Y8,Y9,ajT];refine aA (L.inn p.k 1 6) rfl ?_;unfold RK;cases q:within p.k 1 6 with
 | false =>simp only[go_sem,a7A,yC];exact bD rfl (by simp only[a6R])
 | true =>
  obtain⟨k1,k2⟩:=within_iff.1 q;simp only[go_sem,a6P];refine aA (L.inn p.m 0 4) rfl ?_;cases u:within p.m 0 4 with
  | false =>simp only[go_sem,a7A,yC];exact bD rfl (by simp only[a6R,a7S])
  | true =>
   obtain⟨B,E⟩:=within_iff.1 u;have l:IntKind.i64.wrap (p.k+p.m)=p.k+p.m:=wrap_i64 Om Om;by_cases i:p.k+p.m≤8
   ·have c:¬ p.k+p.m>8:=Om;simp only[go_sem,a6P,l,c];refine aA (L.inn p.a5X p.k (p.k+p.m)) rfl ?_;cases y:within p.a5X p.k (p.k+p.m) with
    | false =>simp only[go_sem,a7A,yC];exact bD rfl (by simp only[a6R,a7S])
    | true =>
     have d:(0:Int)<((5:Nat):Int):=by decide
     by_cases h5:p.s0=0
     ·have e:chunks 1 5 [PV.int .i64 p.s0,.int .i64 p.s1,.int .i64 p.s2,.int .i64 p.s3,.int .i64 p.s4]=([p.s0,p.s1,p.s2,p.s3,p.s4].map fun n=>[PV.int .i64 n]):=rfl;have w:5≤maxLen:=by decide
      simp only[go_sem,a6P,d,cA h5,Za,e,w];refine aA (L.alli (fun n=>within n 0 8) 107 [p.s0,p.s1,p.s2,p.s3,p.s4] (show 5≤9223372036854775807 by decide) fun x _=>L.num1 x) rfl ?_;simp only[go_sem];exact bD rfl (by rw[decide_eq_true i,decide_eq_true h5]; simp only[a6W])
     ·simp only[go_sem,a6P,d,dK h5,yC];exact bD rfl (by rw[decide_eq_false h5]; simp only[a6R,a7S])
   ·have c:p.k+p.m>8:=Om;simp only[go_sem,a6P,l,c,yC];exact bD rfl (by rw[decide_eq_false i]; simp only[a6R,a7S])
theorem max_eq (a b:Int):(if a<b then b else a)=max a b:=by
 rw[Int.max_def];by_cases h:a<b
 ·rw[if_pos h,if_pos Om]
 ·by_cases c:a≤b
  ·rw[if_neg h,if_pos c]; omega
  ·rw[if_neg h,if_neg c]
theorem Mb {C:Ctx} (L:qV C) (p:bT) (c:p.Ok) :
  HY.wp C (aV Gv.res (bX (.bool (KD p)))) (PF.args [.int .i64 p.m,frs p.repair,.agg p.target.cells,.agg p.a5J.cells]) .nil:=by
 simp only[go_sem,HY,Mc,Md,Gv,max_eq,a6K];unfold KD;by_cases d:(p.repair.length:Int)=max p.m 1
 ·simp only[go_sem,bH d];refine aA (L.allf (fun x=>cP x&&cH x) 109 p.repair c.repair.fits fun x e=>L.rate1 x (c.repair.all x e)) rfl ?_;rw[decide_eq_true d,a6W];cases i:p.repair.all fun x=>cP x&&cH x with
  | false =>simp only[go_sem];exact bD rfl rfl
  | true =>
   simp only[go_sem];refine aA (L.lim _ c.target) rfl ?_;cases l:cP p.target with
   | false =>simp only[go_sem];exact bD rfl rfl
   | true =>
    simp only[go_sem];refine aA (L.one _ c.target) rfl ?_;cases q:wE p.target with
    | false =>simp only[go_sem];exact bD rfl rfl
    | true =>simp only[go_sem];refine aA (L.lim _ c.a5J) rfl ?_;simp only[go_sem];exact bD rfl rfl
 ·simp only[go_sem,bF d];exact bD rfl (by rw[decide_eq_false d]; rfl)
def qI (l:List (List UInt8)) (k:List KS):Option PV:=match k with
 | [.str s]=>if l.contains s then some (.bool true) else none
 | _=>none
theorem avT (l:List (List UInt8)) (s:List UInt8):(fun k=>if k=[KS.str s] then some (PV.bool true) else qI l k)=qI (l++[s]):=by
 funext k
 match k with
 | []=>rfl
 | [.int a b]=>simp[qI]
 | [.bool a]=>simp[qI]
 | [.str t] =>
  by_cases h:t=s
  ·subst h; simp[qI]
  ·simp[qI,h]
 | a::b::c=>simp[qI]
abbrev texts (l:List (List UInt8)):PV:=.sl 1 (l.map fun s=>[PV.str s])
theorem avS:qI []=(fun _=>none:jI):=by
 funext k
 match k with
 | []=>rfl
 | [.int a b]=>rfl
 | [.bool a]=>rfl
 | [.str t]=>rfl
 | a::b::c=>cases a<;>rfl
theorem avU (l:List (List UInt8)) (s:List UInt8):jI.upd (qI l) [KS.str s] (.bool true)=qI (l++[s]):=avT l s
theorem Rt (l:List (List UInt8)) (s:List UInt8):(qI l [KS.str s]).getD (.bool false)=.bool (l.contains s):=by
 show (if l.contains s then some (PV.bool true) else none).getD (.bool false)=_;cases l.contains s<;>rfl
theorem vt {p:Nat→Bool} {k:Nat} (h:(a6L k).all p=true) (c:p k=true):(a6L (k+1)).all p=true:=by
 rw[a9U,a9X,h]; simp[c]
theorem eN {p:Nat→Bool} {n k:Nat} (c:k<n) (d:p k=false):(a6L n).all p=false:=by
 rw[List.all_eq_false];exact⟨k,a7P.2 c,by simp[d]⟩
def qU (p:Nat→Bool) (k:Nat):Prop:=(a6L k).all p=true
theorem qU.zero {p:Nat→Bool}:qU p 0:=rfl
theorem qU.step {p:Nat→Bool} {k:Nat} (h:qU p k) (c:p k=true):qU p (k+1):=vt h c
def apC (l:List (List UInt8)) (o k:Nat):PF:=((((PF.nil.set 3 (.map o)).set 7 (texts l)).set 8 (.int .i64 (l.length:Nat))).set 9 (.int .i64 k))
theorem Mf {C:Ctx} (L:qV C) (l:List (List UInt8)) (B:Fits l):HZ.wp C (aV Gw.res (bX (.bool (distinct l)))) (PF.args [texts l]) .nil:=by
 simp only[go_sem,HZ,Mg,Mh,Gw];refine aR fun o F=>?_;simp only[go_sem,Mi];have x:(PH.nil.set o (.map (false,[.str]) (fun _=>none)))=PH.nil.set o (.map (false,[.str]) (qI (l.take 0))):=by rw[List.take_zero,avS]
 unfold distinct;generalize y:(fun i=>isName (l.getD i [])&&!(l.take i).contains (l.getD i []))=p;have q:∀ k (h:k<l.length),p k=(isName l[k]&&!(l.take k).contains l[k]):=by intro k h;rw[← y];simp only[a7C,a6Y h,a9K]
 refine wp_loop (α:=Nat) (fun k=>apC l o k) (fun k=>PH.nil.set o (.map (false,[.str]) (qI (l.take k)))) (fun k=>k≤l.length∧qU p k) (fun k=>l.length-k) 0 ⟨a6Q _,.zero⟩ ?_ ?_ ?_
 ·unfold apC
  (repeat' (first|exact c_|refine d_ ?_ ?_))<;>first|(simp only[go_sem,a6K]<;>rfl)|rfl
 ·rw[x]; exact b_
 rintro k ⟨E,w⟩;simp only[go_sem,Me,Mj,apC];by_cases hlt:k<l.length
 ·have d:(k:Int)<(l.length:Nat):=Om;have A:(l.map fun s=>[PV.str s])[k]?=some [.str l[k]]:=by simp[hlt]
  simp only[go_sem,d,Mk,A,Ml];refine aA (L.name l[k]) rfl ?_;have c:=q k hlt;cases u:isName l[k] with
  | false =>rw[u,a6R] at c;simp only[go_sem,a7A,ZN];exact bD (b:=false) rfl (eN hlt c).symm
  | true =>
   rw[u,a6W] at c;cases e:(l.take k).contains l[k] with
   | true =>rw[e] at c;simp only[go_sem,a6P,Rt,e,ZN];exact bD (b:=false) rfl (eN hlt c).symm
   | false =>
    rw[e] at c;simp only[go_sem,a6P,Rt,e,Mm,avU,Mn,wZz k];refine aD (k+1) ⟨hlt,w.step c⟩ Om ?_ ?_
    ·exact Lq
    ·rw[a8E hlt];exact PH.aJ a_ Sq
 ·have d:¬ (k:Int)<(l.length:Nat):=Om;simp only[go_sem,d,zn];have:k=l.length:=Om;subst this;exact bD (b:=true) rfl (show qU p l.length from w).symm
def marks (n:Nat) (l:List Int):List Bool:=(a6L n).map fun (i:Nat)=>l.contains (i:Int)
theorem QB (n:Nat) (l:List Int):(marks n l).length=n:=by simp[marks]
theorem Ac (n:Nat):marks n []=a6N n false:=by
 refine a9R (by simp[marks]) fun i c d=>by simp[marks]
theorem zP {n:Nat} {l:List Int} {m:Int} (c:0≤m) (d:m<n):(marks n l)[m.toNat]?=some (l.contains m):=by
 have:m.toNat<n:=Om;simp only[marks,a7J,List.getElem?_range this,a7Y];rw[Int.toNat_of_nonneg c]
theorem QC {n:Nat} {l:List Int} {m:Int} (d:0≤m) (e:m<n):(marks n l).set m.toNat true=marks n (l++[m]):=by
 refine a9R (by simp[marks]) fun i p q=>?_;simp only[marks,a8P,List.getElem_range,List.getElem_set,List.contains_append];by_cases h:m.toNat=i
 ·subst h;rw[if_pos rfl,Int.toNat_of_nonneg d]; simp
 ·have c:((i:Nat):Int)≠m:=Om;rw[if_neg h]; simp[c]
abbrev dB (l:List Bool):List (List PV):=l.map fun b=>[PV.bool b]
theorem jP (l:List Bool) (i:Nat) (b:Bool):(dB l).set i [.bool b]=dB (l.set i b):=by unfold dB; rw[List.map_set]
structure d7 (C:Ctx):Prop extends qV C where
 num:∀ p:bT,p.Ok→aG C 106 [.int .i64 p.k,.int .i64 p.m,.int .i64 p.a5X,.agg [.int .i64 p.s0,.int .i64 p.s1,.int .i64 p.s2,.int .i64 p.s3,.int .i64 p.s4]] .nil (aF (.bool (RK p)))
 rate:∀ p:bT,p.Ok→aG C 108 [.int .i64 p.m,frs p.repair,.agg p.target.cells,.agg p.a5J.cells] .nil (aF (.bool (KD p)))
 uniq:∀ l:List (List UInt8),Fits l→aG C 110 [texts l] .nil (aF (.bool (distinct l)))
def aHA (p:bT) (a5A:Nat) (o k:Nat):PF:=(((((PF.nil.set 1 (.int .i64 a5A)).set 5 (.osl o 1 0 a5A)).set 39 (ints p.a5A)).set 40 (.int .i64 (p.a5A.length:Nat))).set 41 (.int .i64 k))
theorem Zf {C:Ctx} (L:d7 C) (p:bT) (B:p.Ok) (a5A:Nat) (R:a5A≤4):PU.wp C (aV ajU.res (bX (.bool (kI a5A p)))) (PF.args [.agg p.cells,.int .i64 a5A]) .nil:=by
 simp only[go_sem,PU,Zg,Zh,ajU];refine aA (L.num p B) rfl ?_;unfold kI;cases l:RK p with
 | false =>simp only[go_sem,a7A,UO];exact bD rfl (by simp only[a6R])
 | true =>
  by_cases i:p.a5A.length=0
  ·simp only[go_sem,a6P,a6K,bH (Om:(p.a5A.length:Int)=0),UO];refine bD rfl ?_;have:decide (p.a5A.length≠0)=false:=by simp[i]
   rw[this]; simp only[a6R,a7S]
  ·have x:decide (p.a5A.length≠0)=true:=by simp[i]
   simp only[go_sem,a6P,a6K,bF (Om:(p.a5A.length:Int)≠0)];refine aA (L.rate p B) rfl ?_;rw[x];cases O:KD p with
   | false =>simp only[go_sem,a7A,UO];exact bD rfl (by simp only[a6R,a7S])
   | true =>
    have y:((a5A:Nat):Int)*((1:Nat):Int)≤140737488355328:=Om;have A:((a5A:Nat):Int)≤9223372036854775807:=Om;simp only[a6W];simp only[go_sem,a6P,Zi,y,A];refine aR fun o S=>?_;simp only[go_sem,Zj];have J:a6N a5A [PV.bool false]=dB (marks a5A (p.a5A.take 0)):=by rw[List.take_zero,Ac]; simp[dB]
    rw[J];generalize K:(fun j=>within (p.a5A.getD j 0) 0 ((a5A:Int)-1)&&!(p.a5A.take j).contains (p.a5A.getD j 0))=q;have E:∀ k (h:k<p.a5A.length),q k=(within p.a5A[k] 0 ((a5A:Int)-1)&&!(p.a5A.take k).contains p.a5A[k]):=by intro k h;rw[← K];simp only[a7C,a6Y h,a9K]
    refine wp_loop (α:=Nat) (fun k=>aHA p a5A o k) (fun k=>PH.nil.set o (.rows 1 (dB (marks a5A (p.a5A.take k))))) (fun k=>k≤p.a5A.length∧qU q k) (fun k=>p.a5A.length-k) 0 ⟨a6Q _,.zero⟩ ?_ (b_) ?_
    ·unfold aHA
     (repeat' (first|exact c_|refine d_ ?_ ?_))<;>first|(simp only[go_sem,a6K]<;>rfl)|rfl
    rintro k ⟨Q,F⟩;simp only[go_sem,L8,Zk,aHA];have H:=B.a5A;by_cases hlt:k<p.a5A.length
    ·have d:(k:Int)<(p.a5A.length:Nat):=Om;have M:(p.a5A.map fun n=>[PV.int .i64 n])[k]?=some [.int .i64 p.a5A[k]]:=by simp[hlt]
     have N:IntKind.i64.wrap ((a5A:Int)-1)=(a5A:Int)-1:=wrap_i64 Om Om;simp only[go_sem,d,Zl,M,Zm,N];refine aA (L.inn p.a5A[k] 0 ((a5A:Int)-1)) rfl ?_;have c:=E k hlt;cases l:within p.a5A[k] 0 ((a5A:Int)-1) with
     | false =>rw[l,a6R] at c;simp only[go_sem,a7A,t8];exact bD (b:=false) rfl (eN hlt c).symm
     | true =>
      rw[l,a6W] at c;obtain⟨u,U⟩:=within_iff.1 l;have w:p.a5A[k]<(a5A:Nat):=Om;have e:(dB (marks a5A (p.a5A.take k)))[p.a5A[k].toNat]?=some [.bool ((p.a5A.take k).contains p.a5A[k])]:=by unfold dB;rw[a7J,zP u w]; rfl
      cases i:(p.a5A.take k).contains p.a5A[k] with
      | true =>rw[i] at c e;simp only[go_sem,a6P,u,w,a7I,e,t8];exact bD (b:=false) rfl (eN hlt c).symm
      | false =>
       rw[i] at c e;simp only[go_sem,a6P,u,w,a7I,e,Zn,jP,QC u w,L9,wZz k];refine aD (k+1) ⟨hlt,F.step c⟩ Om ?_ ?_
       ·exact Lq
       ·rw[a8E hlt];exact PH.aJ a_ Sq
    ·have d:¬ (k:Int)<(p.a5A.length:Nat):=Om;simp only[go_sem,d,Ma];have:k=p.a5A.length:=Om;subst this;exact bD (b:=true) rfl (show qU q p.a5A.length from F).symm
def aDV:PV→RF
 | .agg [.bool n,a,b]=>⟨n,iV a,iV b⟩
 | _=>⟨false,[],[]⟩
theorem aiX (x:RF):aDV (.agg x.cells)=x:=by
 show (⟨x.neg,iV (aI x.num),iV (aI x.den)⟩:RF)=x;rw[eC,eC]
def flS:Spec:=fun name vs=>match name,vs with
 | 104,[.int _ n,.int _ lo,.int _ hi]=>some ([],fun _=>aF (.bool (within n lo hi)))
 | 105,[x]=>some ([],fun _=>aF (.bool (cP (aDV x))))
 | 97,[x]=>some ([],fun _=>aF (.bool (cH (aDV x))))
 | _,_=>none
theorem Kc (n lo hi:Int):flS 104 [.int .i64 n,.int .i64 lo,.int .i64 hi]=some ([],fun _=>aF (.bool (within n lo hi))):=rfl
theorem aOF (x:RF):flS 105 [.agg x.cells]=some ([],fun _=>aF (.bool (cP x))):=by
 show some _=_; rw[aiX]
def ajQ (f:aE) (t:List cE) (k:Nat):PF:=((((PF.nil.set 1 (.bG f.cells)).set 45 (.sl 7 (t.map cE.cells))).set 46 (.int .i64 (t.length:Nat))).set 47 (.int .i64 k))
theorem Yo {C:Ctx} (L:qV C) (f:aE) (Y:f.Ok):BE.wp C (aV Ln.res (bX (.bool (qW f)))) (PF.args [.agg f.cells]) .nil:=by
 obtain⟨a6D,a5G,a5A,a5C,a4Z,a5D,a5B⟩:=f;cases a5C with
 | nil =>rw[show qW ⟨a6D,a5G,a5A,[],a4Z,a5D,a5B⟩=false from rfl];simp only[go_sem,BE,tz,t6,Ln,a8W,a9F];have:(((0:Nat):Int)==0)=true:=rfl;simp only[go_sem,this,Yp];exact bD rfl rfl
 | cons r t =>
  generalize hF:(⟨a6D,a5G,a5A,r::t,a4Z,a5D,a5B⟩:aE)=f at *
  have A:f.a5C=r::t:=by rw[← hF]
  have hP:qW f=UG f r t:=by unfold qW; rw[A]
  rw[hP];unfold UG;have e:f.a5C.length=t.length+1:=by rw[A]; rfl
  have Z:=Y.a5C;have H:(f.a5C.map cE.cells)[0]?=some r.cells:=by rw[A]; rfl
  have β:(f.a5C.map cE.cells)[Int.toNat 0]?=some r.cells:=H;have E:=Y.dom;have u:=E r (by rw[A]; exact List.mem_cons_self ..);simp only[go_sem,BE,tz,t6,Ln,a6K,e,bF (Om:((t.length+1:Nat):Int)≠0),Yq,H];refine aR fun o ho=>?_;by_cases w:r.name=[]
  ·rw[decide_eq_true w];by_cases y:r.level=0
   ·rw[decide_eq_true y];by_cases B:r.parent=-1
    ·rw[decide_eq_true B];by_cases J:r.a5T=0
     ·rw[decide_eq_true J];simp only[go_sem,yA,pQ w,a6P,cA y,cA B,cA J];refine aA (L.lim r.a5O u.1) rfl ?_;cases c5:cP r.a5O with
      | false =>simp only[go_sem,a7A,tU];exact bD rfl (by simp only[a7S,a6R])
      | true =>
       simp only[go_sem,a6P];refine aA (L.lS r.a5O u.1) rfl ?_;cases c6:cH r.a5O with
       | true =>simp only[go_sem,tU];exact bD rfl (by simp only[a6P,a7S,a6R])
       | false =>
        have S:(0:Int)≤1∧(1:Int)≤((t.length+1:Nat):Int):=Om;have x:((f.a5C.map cE.cells).take (t.length+1)).drop (Int.toNat 1)=t.map cE.cells:=by rw[a7F (by simp[e]),A]; rfl
        have p:((f.a5C.map cE.cells).take (t.length+1)).drop 1=t.map cE.cells:=x;simp only[go_sem,Yr,a6K,e,S,p,a8G];generalize hq:(fun i=>match t[i]? with | some d=>YY f i d | none=>false)=q;have Q:∀ k (h:k<t.length),q k=YY f k t[k]:=by intro k h;rw[← hq];simp only[a6Y h]
        refine wp_loop (α:=Nat) (fun k=>ajQ f t k) (fun k=>.nil) (fun k=>k≤t.length∧qU q k) (fun k=>t.length-k) 0 ⟨a6Q _,.zero⟩ ?_ a_ ?_
        ·unfold ajQ
         (repeat' (first|exact c_|refine d_ ?_ ?_))<;>first|(simp only[go_sem,a6K]<;>rfl)|rfl
        rintro k ⟨hk,X⟩;simp only[go_sem,Lo,Ys,ajQ];by_cases hlt:k<t.length
        ·have l:(k:Int)<(t.length:Nat):=Om;have R:(t.map cE.cells)[k]?=some (t[k]).cells:=by simp[hlt]
         have N:=E t[k] (by rw[A]; exact List.mem_cons_of_mem _ (a6M hlt));have c:=Q k hlt;unfold YY at c;simp only[go_sem,l,Yt,R];refine aR fun o2 γ=>?_;simp only[go_sem];refine bV .nil flS a_ ?_;simp only[go_sem,Yu];refine bM (Kc _ 0 k) (L.inn (t[k]).parent 0 k) rfl a_ ?_;cases M:within (t[k]).parent 0 k with
         | false =>simp only[M,a6R] at c;simp only[go_sem,a7A,tT];exact bD (b:=false) rfl (eN hlt c).symm
         | true =>
          obtain⟨i1,i2⟩:=within_iff.1 M;have i3:(t[k]).parent.toNat<f.a5C.length:=Om;have F:(f.a5C.map cE.cells)[(t[k]).parent.toNat]?=some (f.a5C[(t[k]).parent.toNat]).cells:=by simp[i3]
          have O:(f.a5C.map cE.level).getD (t[k]).parent.toNat 0=(f.a5C[(t[k]).parent.toNat]).level:=by simp[i3]
          rw[O,M,a6W] at c;by_cases K:(f.a5C[(t[k]).parent.toNat]).level=IntKind.i64.wrap ((t[k]).level-1)
          ·rw[decide_eq_true K,a6W] at c;simp only[go_sem,a6P,i1,F,cA K];refine bM (Kc _ 1 4) (L.inn (t[k]).level 1 4) rfl a_ ?_;cases U:within (t[k]).level 1 4 with
           | false =>simp only[U,a6R] at c;simp only[go_sem,a7A,tT];exact bD (b:=false) rfl (eN hlt c).symm
           | true =>
            rw[U,a6W] at c;simp only[go_sem,a6P];refine bM (Kc _ 1 64) (L.inn (t[k]).a5T 1 64) rfl a_ ?_;cases V:within (t[k]).a5T 1 64 with
            | false =>simp only[V,a6R] at c;simp only[go_sem,a7A,tT];exact bD (b:=false) rfl (eN hlt c).symm
            | true =>
             rw[V,a6W] at c;simp only[go_sem,a6P];refine bM (aOF (t[k]).a5O) (L.lim _ N.1) rfl a_ ?_;cases W:cP (t[k]).a5O with
             | false =>rw[W] at c;simp only[go_sem,a7A,tT];exact bD (b:=false) rfl (eN hlt c).symm
             | true =>rw[W] at c;simp only[go_sem,a6P,Lp,wZz k];refine aD (k+1) ⟨hlt,X.step c⟩ Om ?_ a_;exact Lq
          ·simp only[decide_eq_false K,a6R] at c;simp only[go_sem,a6P,i1,F,dK K,tT];exact bD (b:=false) rfl (eN hlt c).symm
        ·have l:¬ (k:Int)<(t.length:Nat):=Om;simp only[go_sem,l,Lr];have:k=t.length:=Om;subst this;exact bD (b:=true) rfl (show qU q t.length from X).symm
     ·simp only[go_sem,yA,pQ w,a6P,cA y,cA B,dK J,tU];exact bD rfl (by rw[decide_eq_false J]; simp only[a7S,a6R])
    ·simp only[go_sem,yA,pQ w,a6P,cA y,dK B,tU];exact bD rfl (by rw[decide_eq_false B]; simp only[a7S,a6R])
   ·simp only[go_sem,yA,pQ w,a6P,dK y,tU];exact bD rfl (by rw[decide_eq_false y]; simp only[a7S,a6R])
  ·simp only[go_sem,yA,fi w,a7A,tU];exact bD rfl (by rw[decide_eq_false w]; simp only[a7S,a6R])
theorem tA (R:List Bool) (i:Nat) (row:List RF):∀ k,(cS R i row k).length=R.length
 | 0=>rfl
 | k+1=>by simp only[cS,a8M,tA R i row k]
theorem Qy (l:cG) (R:List Bool) (i:Nat):(zZ l R i).length=R.length:=by
 unfold zZ; rw[tA,a8M]
theorem qF (l:cG) (R:List Bool):∀ i,(dH l R i).length=R.length
 | 0=>rfl
 | i+1=>by simp only[dH,Qy,qF l R i]
theorem qE (l:cG):∀ r,(dO l r).length=l.exit.length
 | 0=>by simp[dO]
 | r+1=>by simp only[dO,qF,qE l r]
theorem rD {R:List Bool} {i:Nat} (h:i<R.length):(dB R)[i]?=some [.bool (R.getD i false)]:=by
 unfold dB;rw[a7J,a6Y h,a7C,a6Y h]; rfl
theorem AU (R:List Bool):(dB R).length=R.length:=by simp[dB]
def UH (l:cG) (o r:Nat):PF:=(((PF.nil.set 1 (.bG l.cells)).set 3 (.osl o 1 0 l.exit.length)).set 4 (.int .i64 r))
def HG (l:cG) (o r i:Nat):PF:=(((((PF.nil.set 1 (.bG l.cells)).set 3 (.osl o 1 0 l.exit.length)).set 4 (.int .i64 r)).set 19 (.int .i64 (l.exit.length:Nat))).set 20 (.int .i64 i))
def sG (l:cG) (o r i:Nat) (row:List RF) (k:Nat):PF:=(((((((((PF.nil.set 1 (.bG l.cells)).set 3 (.osl o 1 0 l.exit.length)).set 4 (.int .i64 r)).set 19 (.int .i64 (l.exit.length:Nat))).set 20 (.int .i64 i)).set 5 (.int .i64 i)).set 42 (frs row)).set 43 (.int .i64 (row.length:Nat))).set 44 (.int .i64 k))
def gP (o:Nat) (R:List Bool):PH:=PH.nil.set o (.rows 1 (dB R))
theorem Va {C:Ctx} (L:qV C) (l:cG) (o r i:Nat) (row:List RF) (B:gY row) (V:row.length=l.exit.length) (hi:i<l.exit.length) (Z:l.exit.length≤4) (d:List Bool) (W:d.length=l.exit.length) (K:bQ) (F:PF) (H:PH)
  (M:(sG l o r i row 0).le F) (E:(gP o d).le H)
  (S:∀ F H,(sG l o r i row row.length).le F→(gP o (cS d i row row.length)).le H→K .normal F H) :
  aC.wp C (.block 4 (.loop BF)) K F H:=by
 simp only[go_sem];refine wp_loop (α:=Nat) (fun k=>sG l o r i row k) (fun k=>gP o (cS d i row k)) (fun k=>k≤row.length) (fun k=>row.length-k) 0 (a6Q _) M E ?_;intro k Y;simp only[go_sem,BF,L3,sG,gP];have O:=tA d i row k;by_cases hlt:k<row.length
 ·have e:(k:Int)<(row.length:Nat):=Om;have U:(row.map RF.cells)[k]?=some (row[k]).cells:=by simp[hlt]
  simp only[go_sem,e,zh,U];refine aR fun o7 y=>?_;have J:o≠o7:=by rintro rfl; simp only[aT,if_true] at y; cases y
  have q:(i:Int)<(l.exit.length:Nat):=Om;have x:(k:Int)<(l.exit.length:Nat):=Om;have p:=rD (R:=cS d i row k) (i:=i) Om;have u:=rD (R:=cS d i row k) (i:=k) Om;have w:cS d i row (k+1)=(cS d i row k).set i ((cS d i row k).getD i false||cH row[k]&&(cS d i row k).getD k false):=by simp only[cS,a7C,a7J,a6Y hlt,a7Y,a9K]
  have fin:∀ (b:Bool) (F:PF) (H:PH),b=((cS d i row k).getD i false||cH row[k]&&(cS d i row k).getD k false)→(sG l o r i row (k+1)).le F→H o=some (.rows 1 ((dB (cS d i row k)).set i [.bool b])) →
    fB (fun k=>sG l o r i row k) (fun k=>gP o (cS d i row k)) (fun k=>k≤row.length) (fun k=>row.length-k) (row.length-k) (eP 4 K) .normal F H:=by
   intro b F H N M E;refine aD (k+1) hlt Om M ?_;rw[jP,N,← w] at E;exact PH.aJ a_ E
  unfold sG gP at fin;generalize N:(cS d i row k).getD i false=b at *
  generalize X:(cS d i row k).getD k false=c at *
  generalize Q:cH row[k]=A at *
  cases b with
  | true =>simp only[go_sem,PO,J,q,a7I,p,BH,wZz k];exact fin true _ _ (by simp) Lq Sq
  | false =>
   simp only[go_sem,PO,J,q,a7I,p];refine aA (L.lS _ (B.all _ (a6M hlt))) rfl ?_;rw[Q];cases A with
   | false =>simp only[go_sem,q,x,J,a7I,p,u,BH,wZz k];exact fin false _ _ (by simp) Lq Sq
   | true =>simp only[go_sem,q,x,J,a7I,p,u,BH,wZz k];exact fin c _ _ (by simp) Lq Sq
 ·have e:¬ (k:Int)<(row.length:Nat):=Om;simp only[go_sem,e];have:k=row.length:=Om;subst this;exact S _ _ (by unfold sG; exact Lq) (b_)
structure AO (l:cG):Prop where
 n:l.exit.length≤4
 a5E:l.a5E.length=l.exit.length
 row:∀ r∈l.a5E,r.length=l.exit.length
theorem Vb {C:Ctx} (L:qV C) (l:cG) (Q:l.Ok) (N:AO l) (o r:Nat) (R:List Bool) (hR:R.length=l.exit.length) (K:bQ) (F:PF) (H:PH)
  (p:(HG l o r 0).le F) (J:(gP o R).le H)
  (hK:∀ F H,(UH l o r).le F→(gP o (dH l R l.exit.length)).le H→K .normal F H) :
  aC.wp C (.block 2 (.loop BG)) K F H:=by
 simp only[go_sem];refine wp_loop (α:=Nat) (fun i=>HG l o r i) (fun i=>gP o (dH l R i)) (fun i=>i≤l.exit.length) (fun i=>l.exit.length-i) 0 (a6Q _) p J ?_;intro i hi;have S:=qF l R i;have hn:=N.n;by_cases hlt:i<l.exit.length
 ·have c:(i:Int)<(l.exit.length:Nat):=Om;have e:i<l.a5E.length:=by rw[N.a5E]; exact hlt
  have u:=rD (R:=dH l R i) (i:=i) Om;have hx:(l.exit.map RF.cells)[i]?=some (l.exit[i]).cells:=by simp[hlt]
  have A:(l.a5E.map fun r=>[frs r])[i]?=some [frs l.a5E[i]]:=by simp[e]
  have O:(l.a5E[i]).length=l.exit.length:=N.row _ (a6M e);generalize d:(dH l R i).set i ((dH l R i).getD i false||cH l.exit[i])=B;have y:B.length=l.exit.length:=by rw[← d,a8M]; omega
  have w:dH l R (i+1)=cS B i l.a5E[i] (l.a5E[i]).length:=by
   simp only[dH,zZ];have V:(l.exit.map cH).getD i false=cH l.exit[i]:=by simp[a7C,hlt]
   have W:l.a5E.getD i []=l.a5E[i]:=by simp[a7C,e]
   rw[V,W,d]
  have rest:∀ (F:PF) (H:PH),(((((((PF.nil.set 1 (.bG l.cells)).set 3 (.osl o 1 0 l.exit.length)).set 4 (.int .i64 r)).set 19 (.int .i64 (l.exit.length:Nat))).set 20 (.int .i64 i)).set 5 (.int .i64 i)):PF).le F→H o=some (.rows 1 (dB B)) →
    aC.wp C (.seq (.region ZH) (.block 4 (.loop BF))) (eP 3 (fV C (aC.wp C (.region PP)) (fB (fun i=>HG l o r i) (fun i=>gP o (dH l R i)) (fun i=>i≤l.exit.length) (fun i=>l.exit.length-i) (l.exit.length-i) (eP 2 K)))) F H:=by
   intro F H p J;have f1:F 1=some (.bG l.cells):=p 1 _ rfl;have f3:F 3=some (.osl o 1 0 l.exit.length):=p 3 _ rfl;have f4:F 4=some (.int .i64 r):=p 4 _ rfl;have X:F 19=some (.int .i64 (l.exit.length:Nat)):=p 19 _ rfl;have Y:F 20=some (.int .i64 i):=p 20 _ rfl;have Z:F 5=some (.int .i64 i):=p 5 _ rfl;rw[ww];simp only[go_sem,ZH,f1,Z,A,a6K];have inner:=Va L l o r i l.a5E[i] (Q.row _ (a6M e)) O hlt hn B y;simp only[aC.wp,go_sem] at inner;refine inner _ _ _ ?_ (PH.aJ a_ J) ?_
   ·unfold sG;exact Lq
   ·intro U H' x M;have E:U 20=some (.int .i64 i):=x 20 _ (by unfold sG; simp only[go_sem]);simp only[go_sem,PP,E,wZz i];refine aD (i+1) hlt Om ?_ (by rw[w]; exact M);have g:=fun (q:Nat) v h=>x q v h;unfold HG;unfold sG at g;refine d_ (d_ (d_ (d_ (d_ c_ ?_) ?_) ?_) ?_) ?_
    ·simp only[go_sem]; exact g 1 _ rfl
    ·simp only[go_sem]; exact g 3 _ rfl
    ·simp only[go_sem]; exact g 4 _ rfl
    ·simp only[go_sem]; exact g 19 _ rfl
    ·simp only[go_sem]
  simp only[aC.wp,go_sem] at rest;simp only[go_sem,BG,ZF,HG,gP,c,L0];generalize hb:(dH l R i).getD i false=b at *
  cases b with
  | true =>simp only[go_sem,ZG,c,a7I,u];refine rest _ _ Lq ?_;rw[← d];simp only[go_sem,jP,Bool.true_or]
  | false =>simp only[go_sem,ZG,c,a7I,u,hx];refine aA (L.lS _ (Q.exit.all _ (a6M hlt))) rfl ?_;simp only[go_sem,c,a7I,u];refine rest _ _ Lq ?_;rw[← d];simp only[go_sem,jP,Bool.false_or]
 ·have c:¬ (i:Int)<(l.exit.length:Nat):=Om;simp only[go_sem,BG,ZF,HG,gP,c];have:i=l.exit.length:=Om;subst this;exact hK _ _ (by unfold UH; exact Lq) b_
theorem Lt {C:Ctx} (L:qV C) (l:cG) (E:l.Ok) (y:AO l):HU.wp C (aV Gt.res (bX (.bool (wU l)))) (PF.args [.agg l.cells]) .nil:=by
 have F:=y.n;have u:(l.exit.length:Int)*((1:Nat):Int)≤140737488355328:=Om;have w:(l.exit.length:Int)≤9223372036854775807:=Om;simp only[go_sem,HU,Lu,Lw,Gt,a6K,u,w];refine aR fun o H=>?_;simp only[go_sem,Lx];refine wp_loop (α:=Nat) (fun r=>UH l o r) (fun r=>gP o (dO l r)) (fun r=>r≤l.exit.length+1) (fun r=>l.exit.length+1-r) 0 (a6Q _) ?_ ?_ ?_
 ·unfold UH;exact Lq
 ·refine PH.aJ a_ ?_;simp only[go_sem,dO];simp[dB]
 intro r J;have d:=qE l r;simp only[go_sem,zg,Ly,UH,gP];by_cases hlt:r≤l.exit.length
 ·have c:(r:Int)≤(l.exit.length:Nat):=Om;simp only[go_sem,c,Lz];have inner:=Vb L l E y o r (dO l r) d;simp only[aC.wp,go_sem] at inner;refine inner _ _ _ ?_ b_ ?_
  ·unfold HG;exact Lq
  ·intro A H' i p;have g:=fun (q:Nat) v h=>i q v h;unfold UH at g;have g4:A 4=some (.int .i64 r):=g 4 _ rfl;simp only[go_sem,zi,g4,wZz r];refine aD (r+1) Om Om ?_ p;refine d_ (d_ (d_ c_ ?_) ?_) ?_
   ·simp only[go_sem]; exact g 1 _ rfl
   ·simp only[go_sem]; exact g 3 _ rfl
   ·simp only[go_sem]
 ·have c:¬ (r:Int)≤(l.exit.length:Nat):=Om;have:r=l.exit.length+1:=Om;subst this;simp only[go_sem,c,zj];have e:=L.allb id 103 (dO l (l.exit.length+1)) (Om:(dO l (l.exit.length+1)).length≤_) fun x _=>L.ends1 x;have B:(dB (dO l (l.exit.length+1))).length=l.exit.length:=by rw[AU,d]
  refine qT e (rs:=dB (dO l (l.exit.length+1))) (o:=o) (s:=1) Sq ?_ ?_
  ·simp only[go_sem,tR (show l.exit.length≤(dB (dO l (l.exit.length+1))).length by omega),a7F (show (dB (dO l (l.exit.length+1))).length≤l.exit.length by omega)]
  ·simp only[go_sem];exact bD rfl rfl
structure NP (C:Ctx):Prop extends d7 C where
 ends:∀ l:cG,l.Ok→AO l→aG C 102 [.agg l.cells] .nil (aF (.bool (wU l)))
def rI (l:cG) (i:Nat):Bool:=decide ((l.a5E.getD i []).length=l.start.length)&&(l.a5E.getD i []).all cP&&!((l.a5E.getD i []).map cH).getD i false
def uJ (l:cG):Bool:=match pM (l.start.map RF.v) with
 | .ok (n,a,b)=>decide (rH n a b false 1 1=0)
 | .error _=>false
theorem Zw (l:cG):lJ l=(within l.start.length 1 4&&decide (l.exit.length=l.start.length)&&decide (l.a5E.length=l.start.length)&&l.start.all cP&&l.exit.all cP&&(a6L l.a5E.length).all (rI l)&&uJ l&&wU l):=rfl
theorem R1 {l:List FV} {e:Int} (h:pM l=.error e):e≠0:=by
 have:∀ (l:List FV) (b:FV) (e:Int),l.foldlM gU b=.error e→e≠0:=by
  intro l
  induction l with
  | nil=>intro b e h; cases h
  | cons x t i =>
   intro b e h;rw[List.foldlM_cons] at h;cases c:gU b x with
   | error d =>
    rw[c] at h;have:d=e:=by injection h
    subst this;obtain⟨p,a1,b1⟩:=b;obtain⟨q,a2,b2⟩:=x;simp only[gU] at c;split at c
    ·split at c
     ·rw[IN c]; decide
     ·split at c
      ·rw[IN c]; decide
      ·rw[IN c]; decide
    ·injection c with c; subst c; decide
   | ok y=>rw[c] at h; exact i y e h
 exact this l _ e h
theorem adU {l:List FV} {r:FV} (h:pM l=.ok r):r.rf.Ok:=by
 have:∀ (l:List FV) (b r:FV),b.rf.Ok→l.foldlM gU b=.ok r→r.rf.Ok:=by
  intro l
  induction l with
  | nil=>intro b r d h; injection h with h; subst h; exact d
  | cons x t e =>
   intro b r d h;rw[List.foldlM_cons] at h;cases c:gU b x with
   | error i=>rw[c] at h; cases h
   | ok y=>rw[c] at h; exact e y r (tc c) h
 refine this l _ r ⟨aX _,aX _,?_,?_⟩ h
 ·show (aH 0).length≤_;rw[fG]; simp
 ·show (aH 1).length≤_;rw[oE (by decide) (by decide)]; simp
theorem IP {neg:Bool} {a b:Nat} {r:FV} (c:b≠0) (h:gW neg a b=.ok r):cR r.2.1 r.2.2=true:=by
 unfold gW at h;split at h
 ·cases h
 ·rename_i l;injection h with h
  subst h;have d:a6O a b ∣ b:=Nat.gcd_dvd_right _ _;have e:b/a6O a b≠0:=by have:=Nat.div_pos (Nat.le_of_dvd (a8U c) d) (a8U fun h=>c (Nat.gcd_eq_zero_iff.1 h).2);omega
  have i:=@jO (b/a6O a b);simp only[cR,a7E,decide_eq_true_eq];omega
theorem ahV {x y r:FV} (h:gU x y=.ok r):cR r.2.1 r.2.2=true:=by
 obtain⟨e,a1,b1⟩:=x;obtain⟨i,a2,b2⟩:=y;simp only[gU] at h;split at h
 ·rename_i d;rw[a7E] at d;have c:b1*b2≠0:=Nat.mul_ne_zero (fJ.1 d.1).1 (fJ.1 d.2).1;split at h
  ·exact IP c h
  ·split at h
   ·exact IP c h
   ·exact IP c h
 ·cases h
theorem apI:cR 0 1=true:=by
 have:cJ 1=1:=by rw[oZ (by decide),jH]
 simp[cR,this,jH]
theorem nz {l:List FV} {r:FV} (h:pM l=.ok r):cR r.2.1 r.2.2=true:=by
 have:∀ (l:List FV) (b r:FV),cR b.2.1 b.2.2=true→l.foldlM gU b=.ok r→cR r.2.1 r.2.2=true:=by
  intro l
  induction l with
  | nil=>intro b r d h; injection h with h; subst h; exact d
  | cons x t e =>
   intro b r d h;rw[List.foldlM_cons] at h;cases c:gU b x with
   | error i=>rw[c] at h; cases h
   | ok y=>rw[c] at h; exact e y r (ahV c) h
 exact this l _ r apI h
theorem aEF:(⟨false,[],[]⟩:RF).Ok:=⟨fun _ h=>absurd h (a7G),fun _ h=>absurd h (a7G),show 0≤35184372087808 by decide,show 0≤35184372087808 by decide⟩
def aFC (l:cG) (k:Nat):PF:=(((((PF.nil.set 1 (.bG l.cells)).set 3 (.int .i64 (l.start.length:Nat))).set 45 (amN l.a5E)).set 46 (.int .i64 (l.a5E.length:Nat))).set 47 (.int .i64 k))
theorem arV {C:Ctx} (L:NP C) (l:cG) (A:l.Ok) (J:AO l) (F:PF) (u:F 1=some (.bG l.cells)) :
  aC.wp C (.seq (.region ZI) (.seq (.region HV) (.seq (.region HW) (.seq (.region tV) .ret)))) (aV [.tmp 2] (bX (.bool (uJ l&&wU l)))) F .nil:=by
 simp only[go_sem,ZI,u];refine aA (L.tot l.start A.start) rfl ?_;obtain⟨B,x,y,e,Q⟩:=tP (pM (l.start.map RF.v));have go:∀ (z:RF) (e:Int),z.Ok→(e=0→(BB z.neg (val z.num) (val z.den) false 1 1=.tup [.int .i64 (rH z.neg (val z.num) (val z.den) false 1 1),.int .i64 0])∧uJ l=decide (rH z.neg (val z.num) (val z.den) false 1 1=0))→(e≠0→uJ l=false) →
   frV (pM (l.start.map RF.v))=.tup [.agg z.cells,.int .i64 e] →
   wpOps C [⟨(some 69),.mv (.tmp 72),none⟩,⟨(some 73),.extract (.tmp 69) 0,none⟩,⟨(some 74),.extract (.tmp 69) 1,none⟩,⟨(some 6),.alloc [(.bool false),.aB,.aB],none⟩,⟨none,.store 3 (.tmp 6) (.tmp 73),none⟩,⟨(some 7),.mv (.tmp 74),none⟩]
    (aC.wp C (.seq (.region HV) (.seq (.region HW) (.seq (.region tV) .ret))) (aV [.tmp 2] (bX (.bool (uJ l&&wU l))))) ((((F.set 70 (.bG [frs l.start,amN l.a5E,frs l.exit])).set 71 (frs l.start))).set 72 (.tup [.agg z.cells,.int .i64 e])) .nil:=by
  intro z e N E H _;simp only[go_sem];refine aR fun o6 K=>?_;simp only[go_sem,HV];refine aA (L.frac 1 1 (by decide) (by decide)) rfl ?_;rw[Ns];simp only[go_sem,frV];refine aR fun o8 p=>?_;have O:o6≠o8:=by rintro rfl; simp only[aT,if_true] at p; cases p
  simp only[go_sem,HW,O];refine aA (L.ord z (FV.rf (false,1,1)) N auI) rfl ?_;rw[show val (FV.rf (false,1,1)).num=1 from aW 1,show val (FV.rf (false,1,1)).den=1 from aW 1,show (FV.rf (false,1,1)).neg=false from rfl];by_cases c:e=0
  ·obtain⟨g1,g2⟩:=E c;rw[g1,g2];by_cases d:rH z.neg (val z.num) (val z.den) false 1 1=0
   ·simp only[go_sem,tV,bH c,bH d,u];refine aA (L.ends l A J) rfl ?_;simp only[go_sem];exact bD rfl (by rw[decide_eq_true d,a6W])
   ·simp only[go_sem,tV,bH c,bF d];exact bD rfl (by rw[decide_eq_false d,a6R])
  ·rw[H c];have:∃ v w,BB z.neg (val z.num) (val z.den) false 1 1=.tup [.int .i64 v,.int .i64 w]:=by
    unfold BB;split
    ·exact⟨_,_,rfl⟩
    ·exact⟨_,_,rfl⟩
   obtain⟨v,w,q⟩:=this;rw[q];simp only[go_sem,tV,bF c];exact bD rfl rfl
 cases i:pM (l.start.map RF.v) with
 | error e =>rw[i] at go;exact go ⟨false,[],[]⟩ e aEF (fun h=>absurd h (R1 i)) (fun _=>by rw[uJ,i]) rfl
 | ok r =>obtain⟨n,a,b⟩:=r;rw[i] at go;have M:=adU i;refine go (FV.rf (n,a,b)) 0 M (fun _=>?_) (fun h=>absurd rfl h) rfl;rw[show val (FV.rf (n,a,b)).num=a from aW a,show val (FV.rf (n,a,b)).den=b from aW b,show (FV.rf (n,a,b)).neg=n from rfl];refine⟨?_,by rw[uJ,i]⟩;have q:cR a b=true:=nz i;rw[BB,q,Ea];rfl
theorem Yv {C:Ctx} (L:NP C) (l:cG) (w:l.Ok):PQ.wp C (aV ajR.res (bX (.bool (lJ l)))) (PF.args [.agg l.cells]) .nil:=by
 rw[Zw];simp only[go_sem,PQ,Yw,Yx,ajR,Yy,a6K];refine aA (L.inn l.start.length 1 4) rfl ?_;cases K:within l.start.length 1 4 with
 | false =>simp only[go_sem,a7A,yB];exact bD rfl (by simp only[a6R])
 | true =>
  obtain⟨S,U⟩:=within_iff.1 K;by_cases A:l.exit.length=l.start.length
  ·rw[decide_eq_true A];by_cases B:l.a5E.length=l.start.length
   ·rw[decide_eq_true B];simp only[go_sem,a6P,a6K,cA (Om:(l.exit.length:Int)=(l.start.length:Nat)),cA (Om:(l.a5E.length:Int)=(l.start.length:Nat))];refine aA (L.aFH l.start w.start) rfl ?_;cases O:l.start.all cP with
    | false =>simp only[go_sem,a7A,yB];exact bD rfl (by simp only[a6R])
    | true =>
     simp only[go_sem,a6P];refine aA (L.aFH l.exit w.exit) rfl ?_;cases Q:l.exit.all cP with
     | false =>simp only[go_sem,a7A,yB];exact bD rfl (by simp only[a6R])
     | true =>
      simp only[go_sem,a6P,Yz,a6K];have u:∀ k (h:k<l.a5E.length),rI l k=(decide ((l.a5E[k]).length=l.start.length)&&(l.a5E[k]).all cP&&!((l.a5E[k]).map cH).getD k false):=by
       intro k h;have:l.a5E.getD k []=l.a5E[k]:=by simp[a7C,h]
       rw[rI,this]
      refine wp_loop (α:=Nat) (fun k=>aFC l k) (fun _=>.nil) (fun k=>k≤l.a5E.length∧qU (rI l) k) (fun k=>l.a5E.length-k) 0 ⟨a6Q _,.zero⟩ ?_ a_ ?_
      ·unfold aFC
       (repeat' (first|exact c_|refine d_ ?_ ?_))<;>first|(simp only[go_sem,a6K]<;>rfl)|rfl
      rintro k ⟨R,J⟩;simp only[go_sem,L4,Y0,aFC];by_cases hlt:k<l.a5E.length
      ·have d:(k:Int)<(l.a5E.length:Nat):=Om;have y:(l.a5E.map fun r=>[frs r])[k]?=some [frs l.a5E[k]]:=by simp[hlt]
       have c:=u k hlt;have p:=w.row l.a5E[k] (a6M hlt);simp only[go_sem,d,Y1,y,Y2,a6K];by_cases E:(l.a5E[k]).length=l.start.length
       ·rw[decide_eq_true E,a6W] at c;simp only[go_sem,cA (show (((l.a5E[k]).length:Nat):Int)=(l.start.length:Nat) by omega)];refine aA (L.aFH _ p) rfl ?_;cases F:(l.a5E[k]).all cP with
        | false =>rw[F,a6R] at c;simp only[go_sem,a7A,UM];refine bD (b:=false) rfl ?_;have:(a6L l.a5E.length).all (rI l)=false:=eN hlt c;rw[this]; simp only[a6R,a7S]
        | true =>
         have q:k<(l.a5E[k]).length:=Om;have N:((l.a5E[k]).map RF.cells)[k]?=some ((l.a5E[k])[k]).cells:=by simp[q]
         have x:((l.a5E[k]).map cH).getD k false=cH (l.a5E[k])[k]:=by simp[a7C,q]
         rw[F,a6W,x] at c;simp only[go_sem,a6P,N];refine aA (L.lS _ (p.all _ (a6M q))) rfl ?_;cases H:cH (l.a5E[k])[k] with
         | true =>rw[H] at c;simp only[go_sem,UM];refine bD (b:=false) rfl ?_;have:(a6L l.a5E.length).all (rI l)=false:=eN hlt c;rw[this]; simp only[a6R,a7S]
         | false =>rw[H] at c;simp only[go_sem,Y3,wZz k];refine aD (k+1) ⟨hlt,J.step c⟩ Om ?_ a_;exact Lq
       ·simp only[decide_eq_false E,a6R] at c;simp only[go_sem,dK (show (((l.a5E[k]).length:Nat):Int)≠(l.start.length:Nat) by omega),UM];refine bD (b:=false) rfl ?_;have:(a6L l.a5E.length).all (rI l)=false:=eN hlt c;rw[this]; simp only[a6R,a7S]
      ·have d:¬ (k:Int)<(l.a5E.length:Nat):=Om;have:k=l.a5E.length:=Om;subst this;have e:(a6L l.a5E.length).all (rI l)=true:=J;have M:AO l:=⟨by omega,by omega,fun r y=>by obtain⟨i,hi,rfl⟩:=a9C y;have:=a7B.1 e i (a7P.2 hi);rw[u i hi] at this;simp only[a7E,decide_eq_true_eq] at this;omega⟩
       have tail:=arV L l w M;simp only[aC.wp,go_sem] at tail;rw[e];simp only[go_sem,d,a6W,a8V];exact tail _ rfl
   ·simp only[go_sem,a6P,a6K,cA (Om:(l.exit.length:Int)=(l.start.length:Nat)),dK (Om:(l.a5E.length:Int)≠(l.start.length:Nat)),yB];exact bD rfl (by rw[decide_eq_false B]; simp only[a6R,a7S])
  ·simp only[go_sem,a6P,a6K,dK (Om:(l.exit.length:Int)≠(l.start.length:Nat)),yB];exact bD rfl (by rw[decide_eq_false A]; simp only[a6R,a7S])
structure jN (C:Ctx):Prop extends NP C where
 law:∀ l:cG,l.Ok→aG C 95 [.agg l.cells] .nil (aF (.bool (lJ l)))
 pol:∀ (p:bT) (n:Nat),p.Ok→n≤4→aG C 112 [.agg p.cells,.int .i64 n] .nil (aF (.bool (kI n p)))
 a5I:∀ f:aE,f.Ok→aG C 111 [.agg f.cells] .nil (aF (.bool (qW f)))
abbrev eR (l:List (List UInt8)):List (List PV):=l.map fun s=>[PV.str s]
theorem vW (l:List (List UInt8)) {k:Nat} (h:k<l.length):eR (l.take k)++[[.str l[k]]]=eR (l.take (k+1)):=by
 unfold eR;rw[a8E h,a7L]; rfl
theorem rW {l:List (List UInt8)} (h:l.length≤1000):roomFor (eR l).length 1 16:=by
 unfold roomFor eR;simp only[a6K,maxLen]; omega
def iD {α:Type} (l:List α) (p:α→Bool) (k:Nat):Bool:=(l.take k).all p
theorem sC {α:Type} (l:List α) (p:α→Bool):iD l p 0=true:=rfl
theorem sB {α:Type} (l:List α) (p:α→Bool) {k:Nat} (h:k<l.length):iD l p (k+1)=(iD l p k&&p l[k]):=by
 unfold iD;rw[a8E h,a9X]; simp
theorem vH {α:Type} (l:List α) (p:α→Bool):iD l p l.length=l.all p:=by unfold iD; rw[a7M]
def iR (f:aE) (c d e i l:PV) (ok:Bool):PF:=(((((((PF.nil.set 1 (.bG f.cells)).set 3 (c)).set 4 (d)).set 5 (e)).set 6 (i)).set 7 (l)).set 8 (.bool ok))
structure kB (F:PF) (f:aE) (w3 w4 w5 w6 w7:PV) (ok:Bool):Prop where
 a1:F 1=some (.bG f.cells)
 a3:F 3=some w3
 a4:F 4=some w4
 a5:F 5=some w5
 a6:F 6=some w6
 a7:F 7=some w7
 a8:F 8=some (.bool ok)
theorem ajY {C:Ctx} (L:jN C) (f:aE) (O:f.Ok) (V:f.a5G.length≤4) (y A B E:PV) (K:bQ) (F:PF) (H:PH) (i:kB F f .aB y A B E true)
  (u:F 67=some (.sl 4 (f.a5G.map cG.cells))) (w:F 68=some (.int .i64 (f.a5G.length:Nat))) (x:F 69=some (.int .i64 0))
  (N:∀ v J H',kB J f v y A B E (f.a5G.all lJ)→bP H' 1 v (eR (f.a5G.map cG.name))→K (.exit 0) J H') :
  aC.wp C (.loop IA) K F H:=by
 refine wp_loop (α:=Nat × PV × PH) (fun t=>(((iR f t.2.1 y A B E (iD f.a5G lJ t.1)).set 67 (.sl 4 (f.a5G.map cG.cells))).set 68 (.int .i64 (f.a5G.length:Nat))).set 69 (.int .i64 t.1)) (fun t=>t.2.2)
  (fun t=>t.1≤f.a5G.length∧bP t.2.2 1 t.2.1 (eR ((f.a5G.map cG.name).take t.1))) (fun t=>f.a5G.length-t.1) (0,.aB,.nil) ⟨a6Q _,.nil⟩ ?_ a_ ?_
 ·unfold iR
  (repeat' (first|exact c_|refine d_ ?_ ?_))<;>first|(simp only[go_sem,i.a1,i.a3,i.a4,i.a5,i.a6,i.a7,i.a8,u,w,x,sC]<;>rfl)|rfl
 rintro⟨k,v,U⟩ ⟨Q,q⟩;simp only at Q q ⊢;simp only[go_sem,IA,Zt,iR];by_cases hlt:k<f.a5G.length
 ·have d:(k:Int)<(f.a5G.length:Nat):=Om;have S:(f.a5G.map cG.cells)[k]?=some (f.a5G[k]).cells:=by simp[hlt]
  have p:=vW (f.a5G.map cG.name) (k:=k) (by simpa using hlt);rw[a8P] at p;simp only[go_sem,d,Zu,S];refine aR fun o R=>?_;simp only[go_sem,Zv];refine mT q R (rW (by simp; omega)) fun v' H' e l=>?_;rw[p] at e;have c:=sB f.a5G lJ hlt;cases M:iD f.a5G lJ k with
  | false =>rw[M,a6R] at c;simp only[go_sem,ud,l,ZO,wZz k];refine aD (k+1,v',H') ⟨hlt,e⟩ (by simp only; omega) ?_ b_;simp only[c];exact Lq
  | true =>rw[M,a6W] at c;simp only[go_sem,ud,l];refine aA (L.law _ (O.law _ (a6M hlt))) Ev ?_;simp only[go_sem,ZO,wZz k];refine aD (k+1,v',H') ⟨hlt,e⟩ (by simp only; omega) ?_ b_;simp only[c];exact Lq
 ·have d:¬ (k:Int)<(f.a5G.length:Nat):=Om;have:k=f.a5G.length:=Om;subst this;rw[a7F (by simp)] at q;rw[vH];simp only[go_sem,d];exact N v _ _ ⟨by simp only[go_sem],by simp only[go_sem],by simp only[go_sem],by simp only[go_sem],by simp only[go_sem],by simp only[go_sem],by simp only[go_sem]⟩ q
theorem BZ {n:Nat} (h:n≤1000):IntKind.i64.wrap ((n:Int)-1)=(n:Int)-1:=wrap_i64 Om Om
theorem ajZ {C:Ctx} (L:jN C) (f:aE) (hs:f.a5A.length≤4) (hl:f.a5G.length≤4) (q:Bool) (y A B E:PV) (K:bQ) (F:PF) (H:PH) (l:kB F f y .aB A B E q)
  (N:F 85=some (.sl 4 (f.a5A.map cQ.cells))) (O:F 86=some (.int .i64 (f.a5A.length:Nat))) (Q:F 87=some (.int .i64 0))
  (V:∀ v p H',kB p f y v A B E (q&&f.a5A.all (jX f))→bP H' 1 v (eR (f.a5A.map cQ.name))→K (.exit 2) p H') :
  aC.wp C (.loop IB) K F H:=by
 refine wp_loop (α:=Nat × PV × PH) (fun t=>(((iR f y t.2.1 A B E (q&&iD f.a5A (jX f) t.1)).set 85 (.sl 4 (f.a5A.map cQ.cells))).set 86 (.int .i64 (f.a5A.length:Nat))).set 87 (.int .i64 t.1)) (fun t=>t.2.2)
  (fun t=>t.1≤f.a5A.length∧bP t.2.2 1 t.2.1 (eR ((f.a5A.map cQ.name).take t.1))) (fun t=>f.a5A.length-t.1) (0,.aB,.nil) ⟨a6Q _,.nil⟩ ?_ a_ ?_
 ·unfold iR
  (repeat' (first|exact c_|refine d_ ?_ ?_))<;>first|(simp only[go_sem,l.a1,l.a3,l.a4,l.a5,l.a6,l.a7,l.a8,N,O,Q,sC,a8V]<;>rfl)|rfl
 rintro⟨k,v,H0⟩ ⟨X,J⟩;simp only at X J ⊢;simp only[go_sem,IB,Mo,iR];by_cases hlt:k<f.a5A.length
 ·have d:(k:Int)<(f.a5A.length:Nat):=Om;have Z:(f.a5A.map cQ.cells)[k]?=some (f.a5A[k]).cells:=by simp[hlt]
  have x:=vW (f.a5A.map cQ.name) (k:=k) (by simpa using hlt);rw[a8P] at x;simp only[go_sem,d,Mp,Z];refine aR fun o Y=>?_;simp only[go_sem,Mq];refine mT J Y (rW (by simp; omega)) fun v' H' u e=>?_;rw[x] at u;have i:=sB f.a5A (jX f) hlt;have fin:∀ (c:Bool) (p:PF),c=(q&&iD f.a5A (jX f) (k+1))→((((iR f y v' A B E c).set 85 (.sl 4 (f.a5A.map cQ.cells))).set 86 (.int .i64 (f.a5A.length:Nat))).set 87 (.int .i64 (k+1:Nat))).le p →
    fB (fun (t:Nat × PV × PH)=>(((iR f y t.2.1 A B E (q&&iD f.a5A (jX f) t.1)).set 85 (.sl 4 (f.a5A.map cQ.cells))).set 86 (.int .i64 (f.a5A.length:Nat))).set 87 (.int .i64 t.1)) (fun (t:Nat × PV × PH)=>t.2.2)  (fun (t:Nat × PV × PH)=>t.1≤f.a5A.length∧bP t.2.2 1 t.2.1 (eR ((f.a5A.map cQ.name).take t.1))) (fun (t:Nat × PV × PH)=>f.a5A.length-t.1) (f.a5A.length-k) K .normal p H':=by
   intro c p W w;refine aD (α:=Nat × PV × PH) (k+1,v',H') ⟨hlt,u⟩ (by simp only; omega) ?_ b_;rw[W] at w;exact w
  unfold iR at fin;rw[i,← a9L] at fin;have R:jX f f.a5A[k]=(within (f.a5A[k]).a5P 1 16&&within (f.a5A[k]).port 1 64&&within (f.a5A[k]).law 0 ((f.a5G.length:Int)-1)):=rfl;cases U:(q&&iD f.a5A (jX f) k) with
  | false =>rw[U,a6R] at fin;simp only[go_sem,ZQ,e,zK,wZz k];refine fin false _ rfl ?_;exact Lq
  | true =>
   rw[U,a6W] at fin;simp only[go_sem,ZQ,e];refine aA (L.inn _ 1 16) Ev ?_;cases M:within (f.a5A[k]).a5P 1 16 with
   | false =>simp only[go_sem,zK,wZz k];refine fin false _ (by rw[R,M]; simp only[a6R]) ?_;exact Lq
   | true =>
    simp only[go_sem,e];refine aA (L.inn _ 1 64) Ev ?_;cases S:within (f.a5A[k]).port 1 64 with
    | false =>simp only[go_sem,zK,wZz k];refine fin false _ (by rw[R,M,S]; simp only[a6R,a7S]) ?_;exact Lq
    | true =>simp only[go_sem,e,a6K,BZ (Om:f.a5G.length≤1000)];refine aA (L.inn _ 0 _) Ev ?_;simp only[go_sem,zK,wZz k];refine fin (within (f.a5A[k]).law 0 ((f.a5G.length:Int)-1)) _ (by rw[R,M,S]; simp only[a6W]) ?_;exact Lq
 ·have d:¬ (k:Int)<(f.a5A.length:Nat):=Om;have:k=f.a5A.length:=Om;subst this;rw[a7F (by simp)] at J;rw[vH];simp only[go_sem,d];exact V v _ _ ⟨by simp only[go_sem],by simp only[go_sem],by simp only[go_sem],by simp only[go_sem],by simp only[go_sem],by simp only[go_sem],by simp only[go_sem]⟩ J
theorem akA {C:Ctx} (L:jN C) (f:aE) (t:List cE) (S:t.length≤40) (p:Bool) (x y A B:PV) (K:bQ) (F:PF) (H:PH) (d:kB F f x y .aB A B p)
  (q:F 119=some (.sl 7 (t.map cE.cells))) (u:F 120=some (.int .i64 (t.length:Nat))) (w:F 121=some (.int .i64 0))
  (J:∀ v E H',kB E f x y v A B p→bP H' 1 v (eR (t.map cE.name))→K (.exit 4) E H') :
  aC.wp C (.loop IC) K F H:=by
 refine wp_loop (α:=Nat × PV × PH) (fun a=>(((iR f x y a.2.1 A B p).set 119 (.sl 7 (t.map cE.cells))).set 120 (.int .i64 (t.length:Nat))).set 121 (.int .i64 a.1)) (fun a=>a.2.2)
  (fun a=>a.1≤t.length∧bP a.2.2 1 a.2.1 (eR ((t.map cE.name).take a.1))) (fun a=>t.length-a.1) (0,.aB,.nil) ⟨a6Q _,.nil⟩ ?_ a_ ?_
 ·unfold iR
  (repeat' (first|exact c_|refine d_ ?_ ?_))<;>first|(simp only[go_sem,d.a1,d.a3,d.a4,d.a5,d.a6,d.a7,d.a8,q,u,w]<;>rfl)|rfl
 rintro⟨k,v,R⟩ ⟨M,l⟩;simp only at M l ⊢;simp only[go_sem,IC,Mr,iR];by_cases hlt:k<t.length
 ·have c:(k:Int)<(t.length:Nat):=Om;have Q:(t.map cE.cells)[k]?=some (t[k]).cells:=by simp[hlt]
  have i:=vW (t.map cE.name) (k:=k) (by simpa using hlt);rw[a8P] at i;simp only[go_sem,c,Ms,Q];refine aR fun o N=>?_;simp only[go_sem,Mt];refine mT l N (rW (by simp; omega)) fun v' H' e O=>?_;rw[i] at e;simp only[go_sem,Mu,wZz k];refine aD (k+1,v',H') ⟨hlt,e⟩ (by simp only; omega) ?_ b_;exact Lq
 ·have c:¬ (k:Int)<(t.length:Nat):=Om;have:k=t.length:=Om;subst this;rw[a7F (by simp)] at l;simp only[go_sem,c];exact J v _ _ ⟨by simp only[go_sem],by simp only[go_sem],by simp only[go_sem],by simp only[go_sem],by simp only[go_sem],by simp only[go_sem],by simp only[go_sem]⟩ l
theorem akB {C:Ctx} (L:jN C) (f:aE) (d:List (List UInt8)) (hn:d.length≤40) (hs:f.a4Z.length≤24) (hm:f.a5A.length≤4) (hd:f.a5C.length≤40) (w:Bool) (B E Y J M:PV) (K:bQ) (F:PF) (H:PH) (q:kB F f B E Y J M w)
  (h0:bP H 1 Y (eR d))
  (S:F 132=some (.sl 3 (f.a4Z.map dN.cells))) (U:F 133=some (.int .i64 (f.a4Z.length:Nat))) (V:F 134=some (.int .i64 0))
  (hK:∀ v u H',kB u f B E v J M (w&&f.a4Z.all (iY f))→bP H' 1 v (eR (d++f.a4Z.map dN.name))→K (.exit 6) u H') :
  aC.wp C (.loop ID) K F H:=by
 refine wp_loop (α:=Nat × PV × PH) (fun t=>(((iR f B E t.2.1 J M (w&&iD f.a4Z (iY f) t.1)).set 132 (.sl 3 (f.a4Z.map dN.cells))).set 133 (.int .i64 (f.a4Z.length:Nat))).set 134 (.int .i64 t.1)) (fun t=>t.2.2)
  (fun t=>t.1≤f.a4Z.length∧bP t.2.2 1 t.2.1 (eR (d++(f.a4Z.map dN.name).take t.1))) (fun t=>f.a4Z.length-t.1) (0,Y,H) ⟨a6Q _,by rw[List.take_zero,a8H]; exact h0⟩ ?_ b_ ?_
 ·unfold iR
  (repeat' (first|exact c_|refine d_ ?_ ?_))<;>first|(simp only[go_sem,q.a1,q.a3,q.a4,q.a5,q.a6,q.a7,q.a8,S,U,V,sC,a8V]<;>rfl)|rfl
 rintro⟨k,v,H0⟩ ⟨hk,R⟩;simp only at hk R ⊢;simp only[go_sem,ID,Mv,iR];by_cases hlt:k<f.a4Z.length
 ·have e:(k:Int)<(f.a4Z.length:Nat):=Om;have hr:(f.a4Z.map dN.cells)[k]?=some (f.a4Z[k]).cells:=by simp[hlt]
  have X:eR (d++(f.a4Z.map dN.name).take k)++[[.str (f.a4Z[k]).name]]=eR (d++(f.a4Z.map dN.name).take (k+1)):=by rw[a8E (by simpa using hlt),← a7V,a8P];unfold eR;simp only[a7L,a8B,a8W]
  simp only[go_sem,e,Mw,hr];refine aR fun o ho=>?_;simp only[go_sem,Mx];refine mT R ho (rW (by simp; omega)) fun v' H' x l=>?_;rw[X] at x;have p:=sB f.a4Z (iY f) hlt;have fin:∀ (c:Bool) (u:PF),c=(w&&iD f.a4Z (iY f) (k+1))→((((iR f B E v' J M c).set 132 (.sl 3 (f.a4Z.map dN.cells))).set 133 (.int .i64 (f.a4Z.length:Nat))).set 134 (.int .i64 (k+1:Nat))).le u →
    fB (fun (t:Nat × PV × PH)=>(((iR f B E t.2.1 J M (w&&iD f.a4Z (iY f) t.1)).set 132 (.sl 3 (f.a4Z.map dN.cells))).set 133 (.int .i64 (f.a4Z.length:Nat))).set 134 (.int .i64 t.1)) (fun (t:Nat × PV × PH)=>t.2.2)  (fun (t:Nat × PV × PH)=>t.1≤f.a4Z.length∧bP t.2.2 1 t.2.1 (eR (d++(f.a4Z.map dN.name).take t.1))) (fun (t:Nat × PV × PH)=>f.a4Z.length-t.1) (f.a4Z.length-k) K .normal u H':=by
   intro c u hc y;refine aD (α:=Nat × PV × PH) (k+1,v',H') ⟨hlt,x⟩ (by simp only; omega) ?_ b_;rw[hc] at y;exact y
  unfold iR at fin;rw[p,← a9L] at fin;have i:iY f f.a4Z[k]=(within (f.a4Z[k]).model 0 ((f.a5A.length:Int)-1)&&within (f.a4Z[k]).machine 0 ((f.a5C.length:Int)-1)&&decide ((f.a5C.map cE.level).getD (f.a4Z[k]).machine.toNat 0=4)):=rfl;cases Z:(w&&iD f.a4Z (iY f) k) with
  | false =>rw[Z,a6R] at fin;simp only[go_sem,ZT,l,tW,wZz k];refine fin false _ rfl ?_;exact Lq
  | true =>
   rw[Z,a6W] at fin;simp only[go_sem,ZT,l,a6K,BZ (Om:f.a5A.length≤1000)];refine aA (L.inn _ 0 _) Ev ?_;cases N:within (f.a4Z[k]).model 0 ((f.a5A.length:Int)-1) with
   | false =>simp only[go_sem,tW,wZz k];refine fin false _ (by rw[i,N]; simp only[a6R]) ?_;exact Lq
   | true =>
    simp only[go_sem,l,a6K,BZ (Om:f.a5C.length≤1000)];refine aA (L.inn _ 0 _) Ev ?_;cases O:within (f.a4Z[k]).machine 0 ((f.a5C.length:Int)-1) with
    | false =>simp only[go_sem,tW,wZz k];refine fin false _ (by rw[i,N,O]; simp only[a6R,a7S]) ?_;exact Lq
    | true =>
     obtain⟨i1,i2⟩:=within_iff.1 O;have i3:(f.a4Z[k]).machine.toNat<f.a5C.length:=Om;have A:(f.a5C.map cE.cells)[(f.a4Z[k]).machine.toNat]?=some (f.a5C[(f.a4Z[k]).machine.toNat]).cells:=by simp[i3]
     have W:(f.a5C.map cE.level).getD (f.a4Z[k]).machine.toNat 0=(f.a5C[(f.a4Z[k]).machine.toNat]).level:=by simp[i3]
     rw[W] at i;by_cases Q:(f.a5C[(f.a4Z[k]).machine.toNat]).level=4
     ·simp only[go_sem,l,i1,A,bH Q,tW,wZz k];refine fin true _ (by rw[i,N,O,decide_eq_true Q]; rfl) ?_;exact Lq
     ·simp only[go_sem,l,i1,A,bF Q,tW,wZz k];refine fin false _ (by rw[i,N,O,decide_eq_false Q]; rfl) ?_;exact Lq
 ·have e:¬ (k:Int)<(f.a4Z.length:Nat):=Om;have:k=f.a4Z.length:=Om;subst this;rw[a7F (by simp)] at R;rw[vH];simp only[go_sem,e];exact hK v _ _ ⟨by simp only[go_sem],by simp only[go_sem],by simp only[go_sem],by simp only[go_sem],by simp only[go_sem],by simp only[go_sem],by simp only[go_sem]⟩ R
theorem akC {C:Ctx} (L:jN C) (f:aE) (U:f.Ok) (hs:f.a5D.length≤4) (W:f.a5A.length≤4) (p:Bool) (y A B E:PV) (K:bQ) (F:PF) (H:PH) (i:kB F f y A B .aB E p)
  (M:F 174=some (.sl 17 (f.a5D.map bT.cells))) (N:F 175=some (.int .i64 (f.a5D.length:Nat))) (O:F 176=some (.int .i64 0))
  (R:∀ v l H',kB l f y A B v E (p&&f.a5D.all (kI f.a5A.length))→bP H' 1 v (eR (f.a5D.map bT.name))→K (.exit 8) l H') :
  aC.wp C (.loop IE) K F H:=by
 refine wp_loop (α:=Nat × PV × PH) (fun t=>(((iR f y A B t.2.1 E (p&&iD f.a5D (kI f.a5A.length) t.1)).set 174 (.sl 17 (f.a5D.map bT.cells))).set 175 (.int .i64 (f.a5D.length:Nat))).set 176 (.int .i64 t.1)) (fun t=>t.2.2)
  (fun t=>t.1≤f.a5D.length∧bP t.2.2 1 t.2.1 (eR ((f.a5D.map bT.name).take t.1))) (fun t=>f.a5D.length-t.1) (0,.aB,.nil) ⟨a6Q _,.nil⟩ ?_ a_ ?_
 ·unfold iR
  (repeat' (first|exact c_|refine d_ ?_ ?_))<;>first|(simp only[go_sem,i.a1,i.a3,i.a4,i.a5,i.a6,i.a7,i.a8,M,N,O,sC,a8V]<;>rfl)|rfl
 rintro⟨k,v,Z⟩ ⟨V,J⟩;simp only at V J ⊢;simp only[go_sem,IE,My,iR];by_cases hlt:k<f.a5D.length
 ·have d:(k:Int)<(f.a5D.length:Nat):=Om;have Y:(f.a5D.map bT.cells)[k]?=some (f.a5D[k]).cells:=by simp[hlt]
  have x:=vW (f.a5D.map bT.name) (k:=k) (by simpa using hlt);rw[a8P] at x;simp only[go_sem,d,Mz,Y];refine aR fun o X=>?_;simp only[go_sem,M0];refine mT J X (rW (by simp; omega)) fun v' H' q w=>?_;rw[x] at q;have e:=sB f.a5D (kI f.a5A.length) hlt;have fin:∀ (c:Bool) (l:PF),c=(p&&iD f.a5D (kI f.a5A.length) (k+1))→((((iR f y A B v' E c).set 174 (.sl 17 (f.a5D.map bT.cells))).set 175 (.int .i64 (f.a5D.length:Nat))).set 176 (.int .i64 (k+1:Nat))).le l →
    fB (fun (t:Nat × PV × PH)=>(((iR f y A B t.2.1 E (p&&iD f.a5D (kI f.a5A.length) t.1)).set 174 (.sl 17 (f.a5D.map bT.cells))).set 175 (.int .i64 (f.a5D.length:Nat))).set 176 (.int .i64 t.1)) (fun (t:Nat × PV × PH)=>t.2.2)  (fun (t:Nat × PV × PH)=>t.1≤f.a5D.length∧bP t.2.2 1 t.2.1 (eR ((f.a5D.map bT.name).take t.1))) (fun (t:Nat × PV × PH)=>f.a5D.length-t.1) (f.a5D.length-k) K .normal l H':=by
   intro c l S u;refine aD (α:=Nat × PV × PH) (k+1,v',H') ⟨hlt,q⟩ (by simp only; omega) ?_ b_;rw[S] at u;exact u
  unfold iR at fin;rw[e,← a9L] at fin;cases Q:(p&&iD f.a5D (kI f.a5A.length) k) with
  | false =>rw[Q,a6R] at fin;simp only[go_sem,ZV,w,ZW,wZz k];refine fin false _ rfl ?_;exact Lq
  | true =>rw[Q,a6W] at fin;simp only[go_sem,ZV,w,a6K];refine aA (L.pol _ _ (U.a5L _ (a6M hlt)) W) Ev ?_;simp only[go_sem,ZW,wZz k];refine fin _ _ rfl ?_;exact Lq
 ·have d:¬ (k:Int)<(f.a5D.length:Nat):=Om;have:k=f.a5D.length:=Om;subst this;rw[a7F (by simp)] at J;rw[vH];simp only[go_sem,d];exact R v _ _ ⟨by simp only[go_sem],by simp only[go_sem],by simp only[go_sem],by simp only[go_sem],by simp only[go_sem],by simp only[go_sem],by simp only[go_sem]⟩ J
theorem akD {C:Ctx} (L:jN C) (f:aE) (hs:f.a5B.length≤12) (Z:f.a5D.length≤4) (p:Bool) (y A B E:PV) (K:bQ) (F:PF) (H:PH) (i:kB F f y A B E .aB p)
  (M:F 195=some (.sl 2 (f.a5B.map eO.cells))) (N:F 196=some (.int .i64 (f.a5B.length:Nat))) (O:F 197=some (.int .i64 0))
  (R:∀ v l H',kB l f y A B E v (p&&f.a5B.all (oN f))→bP H' 1 v (eR (f.a5B.map eO.name))→K (.exit 10) l H') :
  aC.wp C (.loop IF) K F H:=by
 refine wp_loop (α:=Nat × PV × PH) (fun t=>(((iR f y A B E t.2.1 (p&&iD f.a5B (oN f) t.1)).set 195 (.sl 2 (f.a5B.map eO.cells))).set 196 (.int .i64 (f.a5B.length:Nat))).set 197 (.int .i64 t.1)) (fun t=>t.2.2)
  (fun t=>t.1≤f.a5B.length∧bP t.2.2 1 t.2.1 (eR ((f.a5B.map eO.name).take t.1))) (fun t=>f.a5B.length-t.1) (0,.aB,.nil) ⟨a6Q _,.nil⟩ ?_ a_ ?_
 ·unfold iR
  (repeat' (first|exact c_|refine d_ ?_ ?_))<;>first|(simp only[go_sem,i.a1,i.a3,i.a4,i.a5,i.a6,i.a7,i.a8,M,N,O,sC,a8V]<;>rfl)|rfl
 rintro⟨k,v,Y⟩ ⟨U,J⟩;simp only at U J ⊢;simp only[go_sem,IF,M1,iR];by_cases hlt:k<f.a5B.length
 ·have d:(k:Int)<(f.a5B.length:Nat):=Om;have X:(f.a5B.map eO.cells)[k]?=some (f.a5B[k]).cells:=by simp[hlt]
  have x:=vW (f.a5B.map eO.name) (k:=k) (by simpa using hlt);rw[a8P] at x;simp only[go_sem,d,M2,X];refine aR fun o W=>?_;simp only[go_sem,M3];refine mT J W (rW (by simp; omega)) fun v' H' q w=>?_;rw[x] at q;have e:=sB f.a5B (oN f) hlt;have fin:∀ (c:Bool) (l:PF),c=(p&&iD f.a5B (oN f) (k+1))→((((iR f y A B E v' c).set 195 (.sl 2 (f.a5B.map eO.cells))).set 196 (.int .i64 (f.a5B.length:Nat))).set 197 (.int .i64 (k+1:Nat))).le l →
    fB (fun (t:Nat × PV × PH)=>(((iR f y A B E t.2.1 (p&&iD f.a5B (oN f) t.1)).set 195 (.sl 2 (f.a5B.map eO.cells))).set 196 (.int .i64 (f.a5B.length:Nat))).set 197 (.int .i64 t.1)) (fun (t:Nat × PV × PH)=>t.2.2)  (fun (t:Nat × PV × PH)=>t.1≤f.a5B.length∧bP t.2.2 1 t.2.1 (eR ((f.a5B.map eO.name).take t.1))) (fun (t:Nat × PV × PH)=>f.a5B.length-t.1) (f.a5B.length-k) K .normal l H':=by
   intro c l S u;refine aD (α:=Nat × PV × PH) (k+1,v',H') ⟨hlt,q⟩ (by simp only; omega) ?_ b_;rw[S] at u;exact u
  unfold iR at fin;rw[e,← a9L] at fin;have V:oN f f.a5B[k]=within (f.a5B[k]).a5L 0 ((f.a5D.length:Int)-1):=rfl;cases Q:(p&&iD f.a5B (oN f) k) with
  | false =>rw[Q,a6R] at fin;simp only[go_sem,ZY,w,ZZ,wZz k];refine fin false _ rfl ?_;exact Lq
  | true =>rw[Q,a6W,V] at fin;simp only[go_sem,ZY,w,a6K,BZ (Om:f.a5D.length≤1000)];refine aA (L.inn _ 0 _) Ev ?_;simp only[go_sem,ZZ,wZz k];refine fin _ _ rfl ?_;exact Lq
 ·have d:¬ (k:Int)<(f.a5B.length:Nat):=Om;have:k=f.a5B.length:=Om;subst this;rw[a7F (by simp)] at J;rw[vH];simp only[go_sem,d];exact R v _ _ ⟨by simp only[go_sem],by simp only[go_sem],by simp only[go_sem],by simp only[go_sem],by simp only[go_sem],by simp only[go_sem],by simp only[go_sem]⟩ J
theorem mY {f:aE} (h:¬ (f.a5G.length≤4∧f.a5A.length≤4∧f.a5C.length≤40∧f.a4Z.length≤24∧f.a5D.length≤4∧f.a5B.length≤12)):nS f=false:=by
 rw[← Bool.not_eq_true];intro c;simp only[nS,a7E,decide_eq_true_eq] at c;omega
theorem We {f:aE} (h:f.a5G.length≤4∧f.a5A.length≤4∧f.a5C.length≤40∧f.a4Z.length≤24∧f.a5D.length≤4∧f.a5B.length≤12):nS f=within f.a6D 1 4:=by
 obtain⟨c,d,e,i,h5,l⟩:=h;simp[nS,c,d,e,i,h5,l]
theorem pI {t:Nat} {n m:Int} {F:PF} {H:PH} (h:F t=some (.int .i64 n)) (e:n=m):aV [.tmp t] (bX (.int .i64 m)) .ret F H:=by
 subst e;exact bA (.inr rfl) .nil (vs:=[.int .i64 n]) (by rw[jU,mX,h,oG]) a_ ⟨.refl _,rfl⟩
def wH (f:aE):Int:=if dS f then 0 else 1
theorem apH {f:aE} (h:dS f=false):wH f=1:=by rw[wH,h]; rfl
theorem tH {C:Ctx} {F:PF} {H:PH} {name t s:Nat} {v r:PV} {rows:List (List PV)} {d:Option Nat} {K:PF→PH→Prop} (h:aG C name [.sl s rows] .nil (aF r)) (w:bP H s v rows) (l:F t=some v)
  (e:∀ (c:PF) (p:PH),(∀ i u,F i=some u→Pure u→c i=some u)→K (c.put d r) p):hZ C name [.tmp t] [] d K F H:=by
 rcases w with ⟨rfl,rfl⟩ | ⟨q,rs,rfl,h1,h2,h3⟩
 ·refine aA (h.amR (.inl ⟨rfl,rfl⟩)) (by rw[zD,io,l,UI]) ?_;exact e F H fun i u hi _=>hi
 ·rw[← h3] at h;refine qJ (k:=rows.length) h l h1 h2 (e _ _ fun i u hi x=>?_);rw[qQ,hi,a7Y,x q s rs]
theorem Seen.pure {s:Nat} {v:PV} {rows:List (List PV)} (h:Seen s v rows):Pure v:=by
 rcases h with ⟨_,rfl⟩ | rfl
 ·exact fun _ _ _=>rfl
 ·exact fun _ _ _=>rfl
def bI (b:Bool):Int:=if b then 0 else 1
abbrev UT (f:aE):List (List UInt8):=(f.a5C.drop 1).map cE.name++f.a4Z.map dN.name
def vD (f:aE):Bool:=distinct (f.a5G.map cG.name)&&distinct (f.a5A.map cQ.name)&&distinct (UT f)&&distinct (f.a5D.map bT.name)&&distinct (f.a5B.map eO.name)
structure Small (f:aE):Prop where
 a5G:f.a5G.length≤4
 a5A:f.a5A.length≤4
 a5C:f.a5C.length≤40
 a4Z:f.a4Z.length≤24
 a5D:f.a5D.length≤4
 a5B:f.a5B.length≤12
theorem BR {C:Ctx} (L:jN C) {v:PV} {l:List (List UInt8)} (h:Seen 1 v (eR l)) (c:l.length≤1000):aG C 110 [v] .nil (aF (.bool (distinct l))) :=
 (L.uniq l (Om:l.length≤9223372036854775807)).amR h
theorem aEW {C:Ctx} (L:jN C) (f:aE) (A:Small f) (d e i l p:PV) (ok:Bool) (F:PF) (H:PH) (c:kB F f d e i l p ok)
  (u:Seen 1 d (eR (f.a5G.map cG.name))) (w:Seen 1 e (eR (f.a5A.map cQ.name))) (h5:Seen 1 i (eR (UT f))) (x:Seen 1 l (eR (f.a5D.map bT.name))) (h7:bP H 1 p (eR (f.a5B.map eO.name))) :
  aC.wp C (.seq (.seq (.region zL) (.cond (.tmp 243) (.seq (.region nG) .ret) .skip)) (.seq (.region IG) .ret)) (aV [.tmp 2] (bX (.int .i64 (bI (ok&&vD f))))) F H:=by
 obtain⟨s1,s2,s3,s4,V,W⟩:=A;have B:(f.a5G.map cG.name).length≤1000:=by simp; omega
 have E:(f.a5A.map cQ.name).length≤1000:=by simp; omega
 have J:(UT f).length≤1000:=by simp; omega
 have K:(f.a5D.map bT.name).length≤1000:=by simp; omega
 have M:(f.a5B.map eO.name).length≤9223372036854775807:=by simp; omega
 cases ok with
 | false =>simp only[go_sem,zL,c.a8,nG];exact pI rfl rfl
 | true =>
  simp only[go_sem,zL,c.a8,c.a3];refine aA (BR L u B) rfl ?_;unfold vD;cases O:distinct (f.a5G.map cG.name) with
  | false =>simp only[go_sem,nG,a7A];exact pI rfl rfl
  | true =>
   simp only[go_sem,c.a4,a6P];refine aA (BR L w E) rfl ?_;cases Q:distinct (f.a5A.map cQ.name) with
   | false =>simp only[go_sem,nG,a7A];exact pI rfl rfl
   | true =>
    simp only[go_sem,c.a5,a6P];refine aA (BR L h5 J) rfl ?_;cases R:distinct (UT f) with
    | false =>simp only[go_sem,nG,a7A];exact pI rfl rfl
    | true =>
     simp only[go_sem,c.a6,a6P];refine aA (BR L x K) rfl ?_;cases S:distinct (f.a5D.map bT.name) with
     | false =>simp only[go_sem,nG,a7A];exact pI rfl rfl
     | true =>
      simp only[go_sem,c.a7,a6P];refine tH (L.uniq _ M) h7 rfl fun q N y=>?_;have g:q 239=some (.bool false):=y 239 _ rfl fun _ _ _=>rfl;cases U:distinct (f.a5B.map eO.name) with
      | false =>simp only[go_sem,nG,a7A,g];exact pI rfl rfl
      | true =>simp only[go_sem,IG,a6P,g];exact pI rfl rfl
abbrev wr (b:Bool):bQ:=aV [.tmp 2] (bX (.int .i64 (bI b)))
def Hc:aC:=.seq (.seq (.region ZX) (.block 10 (.loop IF))) (.seq (.seq (.region zL) (.cond (.tmp 243) (.seq (.region nG) .ret) .skip)) (.seq (.region IG) .ret))
def Hb:aC:=.seq (.seq (.region ZU) (.block 8 (.loop IE))) Hc
def Ha:aC:=.seq (.seq (.region ZS) (.block 6 (.loop ID))) Hb
def G9:aC:=.seq (.seq (.region ZR) (.block 4 (.loop IC))) Ha
def G8:aC:=.seq (.seq (.region ZP) (.block 2 (.loop IB))) G9
def apG:aC:=.seq (.seq (.region uc) (.block 0 (.loop IA))) G8
theorem aOW {C:Ctx} (L:jN C) (f:aE) (q:Small f) (i l p B:PV) (ok:Bool) (F:PF) (H:PH) (d:kB F f i l p B .aB ok)
  (x:Seen 1 i (eR (f.a5G.map cG.name))) (y:Seen 1 l (eR (f.a5A.map cQ.name))) (h5:Seen 1 p (eR (UT f))) (M:bP H 1 B (eR (f.a5D.map bT.name))) :
  aC.wp C Hc (wr (ok&&f.a5B.all (oN f)&&vD f)) F H:=by
 unfold Hc;simp only[go_sem,ZX,d.a1,a6K];refine qK M fun A w J K O c=>?_;refine akD L f q.a5B q.a5D ok i l p A _ J K ⟨c 1 _ (by simp only[go_sem,d.a1]) fun _ _ _=>rfl,c 3 _ (by simp only[go_sem,d.a3]) x.pure,c 4 _ (by simp only[go_sem,d.a4]) y.pure,c 5 _ (by simp only[go_sem,d.a5]) h5.pure,O 6 (by simp only[go_sem,d.a6]),c 7 _ (by simp only[go_sem,d.a7]) fun _ _ _=>rfl,c 8 _ (by simp only[go_sem,d.a8]) fun _ _ _=>rfl⟩
  (c 195 _ rfl fun _ _ _=>rfl) (c 196 _ rfl fun _ _ _=>rfl) (c 197 _ rfl fun _ _ _=>rfl) fun v E H' u N=>?_
 have e:=aEW L f q i l p A v _ E H' u x y h5 w N;simp only[aC.wp,go_sem] at e;simp only[go_sem];exact e
theorem aOV {C:Ctx} (L:jN C) (f:aE) (K:f.Ok) (l:Small f) (e i y:PV) (ok:Bool) (F:PF) (H:PH) (d:kB F f e i y .aB .aB ok)
  (u:Seen 1 e (eR (f.a5G.map cG.name))) (w:Seen 1 i (eR (f.a5A.map cQ.name))) (h5:bP H 1 y (eR (UT f))) :
  aC.wp C Hb (wr (ok&&f.a5D.all (kI f.a5A.length)&&f.a5B.all (oN f)&&vD f)) F H:=by
 unfold Hb;simp only[go_sem,ZU,d.a1,a6K];refine qK h5 fun x q B E M c=>?_;refine akC L f K l.a5D l.a5A ok e i x .aB _ B E ⟨c 1 _ (by simp only[go_sem,d.a1]) fun _ _ _=>rfl,c 3 _ (by simp only[go_sem,d.a3]) u.pure,c 4 _ (by simp only[go_sem,d.a4]) w.pure,M 5 (by simp only[go_sem,d.a5]),c 6 _ (by simp only[go_sem,d.a6]) fun _ _ _=>rfl,c 7 _ (by simp only[go_sem,d.a7]) fun _ _ _=>rfl,c 8 _ (by simp only[go_sem,d.a8]) fun _ _ _=>rfl⟩
  (c 174 _ rfl fun _ _ _=>rfl) (c 175 _ rfl fun _ _ _=>rfl) (c 176 _ rfl fun _ _ _=>rfl) fun v A H' p J=>?_
 simp only[go_sem];exact aOW L f l e i x v _ A H' p u w q J
theorem aOU {C:Ctx} (L:jN C) (f:aE) (y:f.Ok) (d:Small f) (e i p:PV) (ok:Bool) (F:PF) (H:PH) (c:kB F f e i p .aB .aB ok)
  (u:Seen 1 e (eR (f.a5G.map cG.name))) (w:Seen 1 i (eR (f.a5A.map cQ.name))) (h5:bP H 1 p (eR ((f.a5C.drop 1).map cE.name))) :
  aC.wp C Ha (wr (ok&&f.a4Z.all (iY f)&&f.a5D.all (kI f.a5A.length)&&f.a5B.all (oN f)&&vD f)) F H:=by
 unfold Ha;simp only[go_sem,ZS,c.a1,a6K];refine akB L f ((f.a5C.drop 1).map cE.name) (by have:=d.a5C; simp; omega) d.a4Z d.a5A d.a5C ok e i p .aB .aB _ _ H ⟨by simp only[go_sem,c.a1],by simp only[go_sem,c.a3],by simp only[go_sem,c.a4],by simp only[go_sem,c.a5],by simp only[go_sem,c.a6],by simp only[go_sem,c.a7],by simp only[go_sem,c.a8]⟩ h5
  rfl rfl rfl fun v q H' l x=>?_
 simp only[go_sem];exact aOV L f y d e i v _ q H' l u w x
theorem aOT {C:Ctx} (L:jN C) (f:aE) (M:f.Ok) (w:Small f) (Q:0<f.a5C.length) (i y:PV) (ok:Bool) (F:PF) (H:PH) (d:kB F f i y .aB .aB .aB ok)
  (u:Seen 1 i (eR (f.a5G.map cG.name))) (J:bP H 1 y (eR (f.a5A.map cQ.name))) :
  aC.wp C G9 (wr (ok&&f.a4Z.all (iY f)&&f.a5D.all (kI f.a5A.length)&&f.a5B.all (oN f)&&vD f)) F H:=by
 unfold G9;have l:(1:Int)≤(f.a5C.length:Nat):=Om;have N:=w.a5C;have e:((f.a5C.map cE.cells).take f.a5C.length).drop 1=(f.a5C.drop 1).map cE.cells:=by rw[a7F (by simp),List.map_drop]
 simp only[go_sem,ZR,d.a1,a6K,l,a8G,e];refine qK J fun x q B E O c=>?_;refine akA L f (f.a5C.drop 1) (by simp; omega) ok i x .aB .aB _ B E ⟨c 1 _ (by simp only[go_sem,d.a1]) fun _ _ _=>rfl,c 3 _ (by simp only[go_sem,d.a3]) u.pure,O 4 (by simp only[go_sem,d.a4]),c 5 _ (by simp only[go_sem,d.a5]) fun _ _ _=>rfl,c 6 _ (by simp only[go_sem,d.a6]) fun _ _ _=>rfl,c 7 _ (by simp only[go_sem,d.a7]) fun _ _ _=>rfl,c 8 _ (by simp only[go_sem,d.a8]) fun _ _ _=>rfl⟩
  (c 119 _ rfl fun _ _ _=>rfl) (c 120 _ rfl fun _ _ _=>rfl) (c 121 _ rfl fun _ _ _=>rfl) fun v A H' p K=>?_
 simp only[go_sem];exact aOU L f M w i x v _ A H' p u q K
theorem aOS {C:Ctx} (L:jN C) (f:aE) (E:f.Ok) (e:Small f) (B:0<f.a5C.length) (q:PV) (ok:Bool) (F:PF) (H:PH) (d:kB F f q .aB .aB .aB .aB ok)
  (y:bP H 1 q (eR (f.a5G.map cG.name))) :
  aC.wp C G8 (wr (ok&&f.a5A.all (jX f)&&f.a4Z.all (iY f)&&f.a5D.all (kI f.a5A.length)&&f.a5B.all (oN f)&&vD f)) F H:=by
 unfold G8;simp only[go_sem,ZP,d.a1,a6K];refine qK y fun p l w x J c=>?_;refine ajZ L f e.a5A e.a5G ok p .aB .aB .aB _ w x ⟨c 1 _ (by simp only[go_sem,d.a1]) fun _ _ _=>rfl,J 3 (by simp only[go_sem,d.a3]),c 4 _ (by simp only[go_sem,d.a4]) fun _ _ _=>rfl,c 5 _ (by simp only[go_sem,d.a5]) fun _ _ _=>rfl,c 6 _ (by simp only[go_sem,d.a6]) fun _ _ _=>rfl,c 7 _ (by simp only[go_sem,d.a7]) fun _ _ _=>rfl,c 8 _ (by simp only[go_sem,d.a8]) fun _ _ _=>rfl⟩
  (c 85 _ rfl fun _ _ _=>rfl) (c 86 _ rfl fun _ _ _=>rfl) (c 87 _ rfl fun _ _ _=>rfl) fun v u H' i A=>?_
 simp only[go_sem];exact aOT L f E e B p v _ u H' i l A
theorem aOR {C:Ctx} (L:jN C) (f:aE) (e:f.Ok) (i:Small f) (q:0<f.a5C.length) (F:PF) (H:PH) (c:kB F f .aB .aB .aB .aB .aB true) :
  aC.wp C apG (wr (f.a5G.all lJ&&f.a5A.all (jX f)&&f.a4Z.all (iY f)&&f.a5D.all (kI f.a5A.length)&&f.a5B.all (oN f)&&vD f)) F H:=by
 unfold apG;simp only[go_sem,uc,c.a1,a6K];refine ajY L f e i.a5G .aB .aB .aB .aB _ _ H ⟨by simp only[go_sem,c.a1],by simp only[go_sem,c.a3],by simp only[go_sem,c.a4],by simp only[go_sem,c.a5],by simp only[go_sem,c.a6],by simp only[go_sem,c.a7],by simp only[go_sem,c.a8]⟩ rfl rfl rfl fun v l H' d p=>?_;simp only[go_sem];exact aOS L f e i q v _ l H' d p
theorem Zo {C:Ctx} (L:jN C) (f:aE) (B:f.Ok):PW.wp C (aV ajX.res (bX (.int .i64 (wH f)))) (PF.args [.agg f.cells]) .nil:=by
 have q:dS f=(nS f&&qW f&&(f.a5G.all lJ&&f.a5A.all (jX f)&&f.a4Z.all (iY f)&&f.a5D.all (kI f.a5A.length)&&f.a5B.all (oN f))&&vD f):=rfl;simp only[go_sem,PW,Zp,Zq,ajX];refine aA (L.inn f.a6D 1 4) rfl ?_;have c:∀ (F:PF) (H:PH),dS f=false→F 2=some (.int .i64 1)→aV [.tmp 2] (bX (.int .i64 (wH f))) .ret F H:=fun F H K M=>pI M (apH K).symm;cases A:within f.a6D 1 4 with
 | false =>
  have:nS f=false:=by simp[nS,A]
  simp only[go_sem,a7A,pX];exact c _ _ (by rw[q,this]; simp only[a6R]) rfl
 | true =>
  by_cases s1:f.a5G.length≤4
  ·have d:¬ (f.a5G.length:Int)>4:=Om;by_cases s2:f.a5A.length≤4
   ·have i:¬ (f.a5A.length:Int)>4:=Om;by_cases s3:f.a5C.length≤40
    ·have l:¬ (f.a5C.length:Int)>40:=Om;by_cases s4:f.a4Z.length≤24
     ·have p:¬ (f.a4Z.length:Int)>24:=Om;by_cases E:f.a5D.length≤4
      ·have u:¬ (f.a5D.length:Int)>4:=Om;by_cases J:f.a5B.length≤12
       ·have w:¬ (f.a5B.length:Int)>12:=Om;have x:=We ⟨s1,s2,s3,s4,E,J⟩;rw[A] at x;simp only[go_sem,a6P,a6K,d,i,l,p,u,w];refine aA (L.a5I f B) rfl ?_;cases y:qW f with
        | false =>simp only[go_sem,a7A,pX];exact c _ _ (by rw[q,y]; simp only[a7S,a6R]) rfl
        | true =>
         have N:0<f.a5C.length:=by
          rcases a8R f.a5C.length with h | h
          ·have:f.a5C=[]:=List.eq_nil_of_length_eq_zero h;rw[qW,this] at y;cases y
          ·exact h
         have Q:wH f=bI (f.a5G.all lJ&&f.a5A.all (jX f)&&f.a4Z.all (iY f)&&f.a5D.all (kI f.a5A.length)&&f.a5B.all (oN f)&&vD f):=by rw[wH,q,x,y]; rfl
         rw[Q];simp only[go_sem,a6P,Zr,Zs];have e:=fun F H O=>aOR L f B ⟨s1,s2,s3,s4,E,J⟩ N F H O;simp only[apG,G8,G9,Ha,Hb,Hc,aC.wp,go_sem] at e;exact e _ _ ⟨by simp only[go_sem],by simp only[go_sem],by simp only[go_sem],by simp only[go_sem],by simp only[go_sem],by simp only[go_sem],by simp only[go_sem]⟩
       ·have w:(f.a5B.length:Int)>12:=Om;simp only[go_sem,a6P,a6K,d,i,l,p,u,w,pX];exact c _ _ (by rw[q,mY Om]; simp only[a6R]) rfl
      ·have u:(f.a5D.length:Int)>4:=Om;simp only[go_sem,a6P,a6K,d,i,l,p,u,pX];exact c _ _ (by rw[q,mY Om]; simp only[a6R]) rfl
     ·have p:(f.a4Z.length:Int)>24:=Om;simp only[go_sem,a6P,a6K,d,i,l,p,pX];exact c _ _ (by rw[q,mY Om]; simp only[a6R]) rfl
    ·have l:(f.a5C.length:Int)>40:=Om;simp only[go_sem,a6P,a6K,d,i,l,pX];exact c _ _ (by rw[q,mY Om]; simp only[a6R]) rfl
   ·have i:(f.a5A.length:Int)>4:=Om;simp only[go_sem,a6P,a6K,d,i,pX];exact c _ _ (by rw[q,mY Om]; simp only[a6R]) rfl
  ·have d:(f.a5G.length:Int)>4:=Om;simp only[go_sem,a6P,a6K,d,pX];exact c _ _ (by rw[q,mY Om]; simp only[a6R]) rfl
def lvl (f:aE) (i:Nat):Int:=(f.a5C.map cE.level).getD i 0
def par (f:aE) (i:Nat):Int:=(f.a5C.map cE.parent).getD i 0
def JW (f:aE) (i:Nat):Nat:=(par f i).toNat
def dC (f:aE) (d:Nat):Nat:=((f.a4Z.map dN.machine).getD d 0).toNat
def mdl (f:aE) (d:Nat):Nat:=((f.a4Z.map dN.model).getD d 0).toNat
def ext (f:aE) (d:Nat):Int:=(f.a5A.map cQ.a5P).getD (mdl f d) 0
def DL (f:aE) (v:Nat):Nat:=((f.a5B.map eO.a5L).getD v 0).toNat
def aMS:bT:=⟨[],0,0,0,0,0,0,0,0,[],[],⟨false,[],[]⟩,⟨false,[],[]⟩⟩
def KB (f:aE) (v:Nat):bT:=f.a5D.getD (DL f v) aMS
def upN (f:aE):Nat→Nat→Nat
 | 0,i=>i
 | k+1,i=>JW f (upN f k i)
theorem getD_at {α β:Type} {l:List α} {g:α→β} {i:Nat} {b:β} (h:i<l.length):(l.map g).getD i b=g l[i]:=by
 simp[a7C,h]
structure VF (f:aE):Prop where
 small:Small f
 root:0<f.a5C.length∧lvl f 0=0∧par f 0=-1
 dom:∀ i,0<i→i<f.a5C.length→0≤par f i∧JW f i<i∧lvl f (JW f i)=lvl f i-1∧1≤lvl f i∧lvl f i≤4
 drive:∀ d (h:d<f.a4Z.length),0≤(f.a4Z[d]).model∧mdl f d<f.a5A.length∧0≤(f.a4Z[d]).machine∧dC f d<f.a5C.length∧lvl f (dC f d)=4
 a5L:∀ p∈f.a5D,1≤p.k∧p.k≤6∧0≤p.m∧p.m≤4∧p.k+p.m≤8∧p.s0=0∧(∀ l,0≤p.spread l∧p.spread l≤8)∧∀ m∈p.a5A,0≤m∧m<f.a5A.length
 volume:∀ v (h:v<f.a5B.length),0≤(f.a5B[v]).a5L∧DL f v<f.a5D.length
 model:∀ m∈f.a5A,1≤m.a5P∧m.a5P≤16
theorem aQJ {p:bT} {n:Nat} (h:kI n p=true):∀ m∈p.a5A,0≤m∧m<n:=by
 intro m d;simp only[kI,a7E] at h;obtain⟨i,hi,rfl⟩:=a9C d;have:=a7B.1 h.2 i (a7P.2 hi);rw[a7E] at this;have c:=within_iff.1 this.1;simp only[a7C,a6Y hi,a9K] at c;omega
theorem apS {x:Int} (c:1≤x) (d:x≤4):IntKind.i64.wrap (x-1)=x-1:=wrap_i64 Om Om
theorem VF.of {f:aE} (h:dS f=true):VF f:=by
 simp only[dS,a7E] at h;obtain⟨⟨⟨O,e⟩,⟨⟨⟨M,y⟩,x⟩,A⟩,B⟩,-⟩:=h;simp only[nS,a7E,decide_eq_true_eq] at O;obtain⟨⟨⟨⟨⟨⟨s0,s1⟩,s2⟩,s3⟩,s4⟩,s5⟩,s6⟩:=O;cases c:f.a5C with
 | nil=>rw[qW,c] at e; cases e
 | cons r t =>
  rw[qW,c] at e;simp only[UG,a7E,decide_eq_true_eq] at e;obtain⟨⟨⟨⟨⟨⟨r1,r2⟩,r3⟩,r4⟩,r5⟩,r6⟩,w⟩:=e;have N:f.a5C.length=t.length+1:=by rw[c]; rfl
  refine⟨⟨s1,s2,s3,s4,s5,s6⟩,⟨by omega,by rw[lvl,c]; exact r2,by rw[par,c]; exact r3⟩,?_,?_,?_,?_,?_⟩
  ·intro i h0 hi;obtain⟨k,rfl⟩:∃ k,i=k+1:=⟨i-1,by omega⟩;have F:k<t.length:=Om;have:=a7B.1 w k (a7P.2 F);rw[a6Y F] at this;simp only[YY,a7E,decide_eq_true_eq] at this;obtain⟨⟨⟨⟨H,E⟩,J⟩,d4⟩,d5⟩:=this;obtain⟨Z,p1⟩:=within_iff.1 H;obtain⟨R,S⟩:=within_iff.1 J;have q:par f (k+1)=(t[k]).parent:=by rw[par,c]; simp[a7C,F]
   have u:lvl f (k+1)=(t[k]).level:=by rw[lvl,c]; simp[a7C,F]
   rw[apS R S] at E;have U:lvl f (t[k]).parent.toNat=(t[k]).level-1:=E;refine⟨by rw[q]; exact Z,?_,?_,by rw[u]; exact R,by rw[u]; exact S⟩
   ·rw[JW,q]; omega
   ·rw[JW,q,u]; exact U
  ·intro d e;have:=a7B.1 x _ (a6M e);simp only[iY,a7E,decide_eq_true_eq] at this;obtain⟨⟨H,E⟩,J⟩:=this;have a1:=within_iff.1 H;have a2:=within_iff.1 E;have q:mdl f d=(f.a4Z[d]).model.toNat:=by rw[mdl,getD_at e]
   have u:dC f d=(f.a4Z[d]).machine.toNat:=by rw[dC,getD_at e]
   refine⟨a1.1,by rw[q]; omega,a2.1,by rw[u]; omega,by rw[u]; exact J⟩
  ·intro p X;have K:=a7B.1 A p X;have V:=aQJ K;simp only[kI,RK,a7E,decide_eq_true_eq,List.all_cons,List.all_nil,a8V] at K;obtain⟨⟨⟨⟨⟨⟨⟨⟨k1,Y⟩,km⟩,q1⟩,z0⟩,sp⟩,-⟩,-⟩,-⟩:=K;obtain⟨g0,g1,g2,g3,g4⟩:=sp;have b1:=within_iff.1 k1;have b2:=within_iff.1 Y;have b3:=within_iff.1 g0;have b4:=within_iff.1 g1;have b5:=within_iff.1 g2;have b6:=within_iff.1 g3;have b7:=within_iff.1 g4;refine⟨b1.1,b1.2,b2.1,b2.2,km,z0,fun l=>?_,V⟩;unfold bT.spread;split<;>omega
  ·intro v Q;have:=a7B.1 B _ (a6M Q);have a1:=within_iff.1 this;have q:DL f v=(f.a5B[v]).a5L.toNat:=by rw[DL,getD_at Q]
   exact⟨a1.1,by rw[q]; omega⟩
  ·intro m W;have:=a7B.1 y m W;simp only[jX,a7E] at this;exact within_iff.1 this.1.1
theorem GC {f:aE} (h:VF f) {d:Nat} (c:d<f.a4Z.length):∀ {k:Nat},k≤4→upN f k (dC f d)<f.a5C.length∧lvl f (upN f k (dC f d))=4-(k:Int)
 | 0,_=>⟨(h.drive d c).2.2.2.1,by rw[upN,(h.drive d c).2.2.2.2]; rfl⟩
 | k+1,u=>by
  obtain⟨p,l⟩:=GC h c (k:=k) Om;have i:0<upN f k (dC f d):=by
   rcases a8R (upN f k (dC f d)) with e | e
   ·rw[e,h.root.2.1] at l; omega
   ·exact e
  obtain⟨g1,g2,g3,g4,q⟩:=h.dom _ i p;refine⟨by rw[upN]; omega,?_⟩;rw[upN,g3,l]; omega
def cL (f:aE) (d:Nat) (level:Int):Nat:=upN f (4-level.toNat) (dC f d)
def ajK (f:aE) (v:Nat):Int:=(KB f v).k+(KB f v).m
def ayU:Rg:=[iA 1 (.box true (Tm 0)),iT 2 false]
def ayV:Rg:=[iO 3 7 1,iK 4 96 3,iC 5 .eql 4 0,iM 2 5]
def Wu:aC:=(sq ayU (sq ayV .ret))
def aWK:aS:=⟨1,6,Wu,[.tmp 2]⟩
def aKE:Rg:=[iA 2 (.box true (Tm 0)),iI 4 0]
def aKF:Rd:=[(iF 6 5 2,false),(iL 7 6,false),(iF 8 6 2,false),(iL 9 8,false),(iM 10 1,false),(iX 11 2 9 10,false),(iF 12 1 11,false),(iL 13 12,false),(iX 14 17 7 13,false),(iO 15 17 14,false),(iA 5 (.alloc [(.str []),zI,zI,zI,zI,zI,zI,zI,zI,.aB,.aB,zB,.aB,.aB,zB,.aB,.aB]),true),(iS 17 5 15,true)]
def aKG:Rg:=[iF 16 1 5,iL 17 16,iF 18 2 5,iL 19 18,iB 20 .add 17 19,iM 4 20]
def aoK:aC:=(sq aKE (dq aKF (sq aKG .ret)))
def aZK:aS:=⟨2,21,aoK,[.tmp 4]⟩
def axE:Rg:=[iA 3 (.box true (Tm 0)),iI 6 0]
def axF:Rg:=[iF 8 4 3,iL 9 8,iM 10 1,iX 11 3 9 10,iF 12 2 11,iL 13 12,iM 7 13]
def axG:Rg:=[iF 14 3 3,iL 15 14,iM 16 7,iX 17 7 15 16,iF 18 1 17,iL 19 18,iM 20 2,iB 21 .gtr 19 20]
def axH:Rg:=[iF 22 3 3,iL 23 22,iM 24 7,iX 25 7 23 24,iF 26 2 25,iL 27 26,iM 7 27]
def axD:aC:=(.seq (sq axG (.cond (Tm 21) .skip (.exit 0))) (.block 1 (.region axH)))
def axI:Rg:=[iM 28 7,iM 6 28]
def Wm:aC:=(sq axE (sq axF (.seq (.block 0 (.loop axD)) (sq axI .ret))))
def aWB:aS:=⟨3,29,Wm,[.tmp 6]⟩
def aKH:Rg:=[iA 2 (.box true (Tm 0)),iZ 4]
def aKI:Rg:=[iO 7 7 2,iK 8 161 7,iA 9 (.un .not (Tm 8))]
def aKJ:Rg:=[iZ 4]
def aKK:Rg:=[iF 10 4 2,iL 11 10,iN 12 11,iA 13 (.a5H 1 8 [zI] (Tm 12) (Tm 12)),iM 5 13]
def aKL:Rg:=[iM 14 5,iN 15 14,iI 16 0]
def aKM:Rg:=[iB 17 .lss 16 15]
def aKN:Rg:=[iM 18 16,iM 6 18]
def aKO:Rd:=[(iM 19 5,false),(iM 20 6,false),(iF 21 2 2,false),(iL 22 21,false),(iF 23 4 2,false),(iL 24 23,false),(iM 25 6,false),(iX 26 3 24 25,false),(iF 27 1 26,false),(iL 28 27,false),(iX 29 4 22 28,false),(iF 30 1 29,false),(iL 31 30,false),(iX 32 1 19 20,false),(iS 1 32 31,true)]
def aKP:Rg:=[iM 33 1,iN 34 33,iM 35 5,iN 36 35,iB 37 .eql 34 36]
def aKQ:Rd:=[(iM 38 5,false),(iM 39 6,false),(iM 40 1,false),(iM 41 6,false),(iX 42 1 40 41,false),(iL 43 42,false),(iA 44 (.a5U true (Tm 43) (Ci 0)),false),(iM 45 5,false),(iM 46 6,false),(iX 47 1 45 46,false),(iL 48 47,false),(iA 49 (.a5U false (Tm 44) (Tm 48)),false),(iX 50 1 38 39,false),(iS 1 50 49,true)]
def ayI:Rg:=[iC 51 .add 16 1,iM 16 51]
def ayH:aC:=(sq aKM (.seq (.cond (Tm 17) .skip (.exit 0)) (.seq (.block 1 (sq aKN (dq aKO (sq aKP (.cond (Tm 37) (.draw aKQ) .skip))))) (.region ayI))))
def ayJ:Rg:=[iM 52 5,iM 4 52]
def aoQ:aC:=(sq aKH (.seq (sq aKI (.cond (Tm 9) (sq aKJ .ret) .skip)) (sq aKK (.seq (sq aKL (.block 0 (.loop ayH))) (sq ayJ .ret)))))
def aZL:aS:=⟨2,53,aoQ,[.tmp 4]⟩
def aWC:Rg:=[iA 3 (.box true (Tm 0)),iI 6 0]
def aWD:Rg:=[iO 7 7 3,iK 8 161 7,iA 9 (.un .not (Tm 8)),iM 10 9,gM 11 1 10 false,gC 12 .lss 11 0 10 false,iQ 13 10 12,iM 14 13,gM 15 1 14 false,gF 16 4 3 14 false,gL 17 16 14 false,gN 18 17 14 false,gB 19 .geq 15 18 14 false,iQ 20 14 19,iM 21 20,gM 22 2 21 false,gC 23 .lss 22 0 21 false,iQ 24 21 23,iM 25 24,gM 26 2 25 false,gC 27 .geq 26 5 25 false,iQ 28 25 27]
def aWE:Rg:=[iI 6 (-1)]
def aWF:Rg:=[iO 29 7 3,iM 30 1,iM 31 2,iA 32 (.call 155 [(Tm 29),(Tm 30),(Tm 31)]),iM 6 32]
def aKD:aC:=(sq aWC (.seq (sq aWD (.cond (Tm 28) (sq aWE .ret) .skip)) (sq aWF .ret)))
def tat:aS:=⟨3,33,aKD,[.tmp 6]⟩
def aoA:Rg:=[iA 2 (.box true (Tm 0)),iZ 4]
def aoB:Rg:=[iZ 5]
def aoC:Rg:=[iO 7 7 2,iK 8 161 7,iA 9 (.un .not (Tm 8)),iM 10 9,gM 11 1 10 false,gC 12 .lss 11 0 10 false,iQ 13 10 12,iM 14 13,gM 15 1 14 false,gF 16 3 2 14 false,gL 17 16 14 false,gN 18 17 14 false,gB 19 .geq 15 18 14 false,iQ 20 14 19]
def aoD:Rg:=[iM 21 5,iM 4 21]
def aoE:Rg:=[iF 22 4 2,iL 23 22,iN 24 23,iI 25 0]
def aoF:Rg:=[iB 26 .lss 25 24]
def aoG:Rg:=[iM 27 25,iM 6 27]
def aoH:Rd:=[(iO 28 7 2,false),(iM 29 6,false),(iF 30 3 2,false),(iL 31 30,false),(iM 32 1,false),(iX 33 7 31 32,false),(iF 34 1 33,false),(iL 35 34,false),(iA 36 (.call 155 [(Tm 28),(Tm 29),(Tm 35)]),true),(iM 37 1,true),(iB 38 .eql 36 37,false)]
def aoI:Rg:=[iM 39 5,iM 40 6,iA 41 (.a5F true 1 1 [zI] [(0,(Tm 40))]),iA 42 (.append 1 8 (Tm 39) (Tm 41)),iM 5 42]
def aoJ:Rg:=[iC 43 .add 25 1,iM 25 43]
def Wo:aC:=(sq aoF (.seq (.cond (Tm 26) .skip (.exit 0)) (.seq (.block 1 (sq aoG (dq aoH (.cond (Tm 38) (.region aoI) .skip)))) (.region aoJ))))
def Wp:Rg:=[iM 44 5,iM 4 44]
def R5:aC:=(sq aoA (sq aoB (.seq (sq aoC (.cond (Tm 20) (sq aoD .ret) .skip)) (.seq (sq aoE (.block 0 (.loop Wo))) (sq Wp .ret)))))
def aSQ:aS:=⟨2,45,R5,[.tmp 4]⟩
def axJ:Rg:=[iA 2 (.box true (Tm 0)),iZ 4]
def axK:Rg:=[iZ 5]
def axL:Rg:=[iO 8 7 2,iK 9 161 8,iA 10 (.un .not (Tm 9)),iM 11 10,gM 12 1 11 false,gC 13 .lss 12 0 11 false,iQ 14 11 13]
def axM:Rg:=[iM 15 5,iM 4 15]
def axN:Rg:=[iF 16 3 2,iL 17 16,iN 18 17,iI 19 0]
def axO:Rg:=[iB 20 .lss 19 18]
def axP:Rg:=[iM 21 19,iX 22 7 17 19,iO 23 7 22,iA 7 (.alloc [(.str []),zI,zI,zI,zB,.aB,.aB]),iM 6 21,iS 7 7 23]
def axQ:Rg:=[iF 24 2 7,iL 25 24,iM 26 1,iB 27 .eql 25 26]
def axR:Rg:=[iM 28 5,iM 29 6,iA 30 (.a5F true 1 1 [zI] [(0,(Tm 29))]),iA 31 (.append 1 8 (Tm 28) (Tm 30)),iM 5 31]
def axS:Rg:=[iC 32 .add 19 1,iM 19 32]
def anY:aC:=(sq axO (.seq (.cond (Tm 20) .skip (.exit 0)) (.seq (.block 1 (sq axP (sq axQ (.cond (Tm 27) (.region axR) .skip)))) (.region axS))))
def anZ:Rg:=[iM 33 5,iM 4 33]
def Wn:aC:=(sq axJ (sq axK (.seq (sq axL (.cond (Tm 14) (sq axM .ret) .skip)) (.seq (sq axN (.block 0 (.loop anY))) (sq anZ .ret)))))
def aWG:aS:=⟨2,34,Wn,[.tmp 4]⟩
def axW:Rg:=[iA 2 (.box true (Tm 0)),iZ 4]
def axX:Rg:=[iF 10 4 2,iL 11 10,iN 12 11,iA 13 (.a5H 1 8 [zI] (Tm 12) (Tm 12)),iM 5 13]
def axY:Rg:=[iM 14 1,iN 15 14,iI 16 0]
def axZ:Rg:=[iB 17 .lss 16 15]
def ayA:Rg:=[iX 18 1 14 16,iL 19 18,iM 7 19]
def ayB:Rg:=[iM 20 7,iN 21 20,iI 22 0]
def ayC:Rg:=[iB 23 .lss 22 21]
def ayD:Rg:=[iX 24 1 20 22,iL 25 24,iM 9 25]
def ayE:Rg:=[iM 26 9,iC 27 .geq 26 0,iM 28 27,gM 29 9 28 true,gM 30 5 28 true,gN 31 30 28 true,gB 32 .lss 29 31 28 true,iP 33 28 32]
def ayF:Rg:=[iM 34 5,iM 35 9,iX 36 1 34 35,iL 37 36,iC 38 .add 37 1,iX 39 1 34 35,iS 1 39 38]
def aoN:Rg:=[iC 40 .add 22 1,iM 22 40]
def aoL:aC:=(sq ayC (.seq (.cond (Tm 23) .skip (.exit 2)) (.seq (.block 3 (sq ayD (sq ayE (.cond (Tm 33) (.region ayF) .skip)))) (.region aoN))))
def aoO:Rg:=[iC 41 .add 16 1,iM 16 41]
def aoM:aC:=(sq axZ (.seq (.cond (Tm 17) .skip (.exit 0)) (.seq (.block 1 (sq ayA (sq ayB (.block 2 (.loop aoL))))) (.region aoO))))
def aoP:Rg:=[iM 42 5,iM 4 42]
def Ws:aC:=(sq axW (sq axX (.seq (sq axY (.block 0 (.loop aoM))) (sq aoP .ret))))
def aWI:aS:=⟨2,43,Ws,[.tmp 4]⟩
def awZ:Rg:=[iA 2 (.box true (Tm 0)),iZ 4]
def axA:Rg:=[iO 5 7 2,iK 6 161 5,iA 7 (.un .not (Tm 6))]
def axB:Rg:=[iZ 4]
def axC:Rg:=[iO 8 7 2,iM 9 1,iK2 10 157 8 9,iM 4 10]
def Wj:aC:=(sq awZ (.seq (sq axA (.cond (Tm 7) (sq axB .ret) .skip)) (sq axC .ret)))
def aWA:aS:=⟨2,11,Wj,[.tmp 4]⟩
def ayL:Rg:=[iA 3 (.box true (Tm 0)),iA 6 (.alloc [zI,zI,zI]),iT 7 false]
def ayM:Rd:=[(iM 10 1,true),(iM 11 2,true),(iX 12 1 10 11,true),(iL 13 12,true),(iN 14 13,true),(iO 15 7 3,false),(iM 16 2,false),(iK2 17 156 15 16,true),(iB 18 .neq 14 17,false)]
def ayN:Rg:=[iM 19 2,iM 20 1,iM 21 2,iX 22 1 20 21,iL 23 22,iN 24 23,iA 25 (.build [zI,zI,zI] [(0,1,(Ci 1)),(1,1,(Tm 19)),(2,1,(Tm 24))]),iS 3 6 25,iT 7 true]
def ayO:Rg:=[iM 26 1,iM 27 2,iX 28 1 26 27,iL 29 28,iN 30 29,iI 31 0]
def ayP:Rg:=[iB 32 .lss 31 30]
def ayQ:Rg:=[iM 33 31,iX 34 1 29 31,iL 35 34,iM 8 33,iM 9 35]
def ayR:Rg:=[iM 36 9,iC 37 .lss 36 (-1),iM 38 37,gM 39 9 38 false,gF 40 4 3 38 false,gL 41 40 38 false,gN 42 41 38 false,gB 43 .geq 39 42 38 false,iQ 44 38 43]
def ayS:Rg:=[iM 45 2,iM 46 8,iA 47 (.build [zI,zI,zI] [(0,1,(Ci 1)),(1,1,(Tm 45)),(2,1,(Tm 46))]),iS 3 6 47,iT 7 true]
def ayT:Rg:=[iC 48 .add 31 1,iM 31 48]
def ayK:aC:=(sq ayP (.seq (.cond (Tm 32) .skip (.exit 0)) (.seq (.block 1 (sq ayQ (sq ayR (.cond (Tm 44) (sq ayS .ret) .skip)))) (.region ayT))))
def aoR:Rg:=[iA 49 (.build [zI,zI,zI] []),iS 3 6 49,iT 7 false]
def Wt:aC:=(sq ayL (.seq (dq ayM (.cond (Tm 18) (sq ayN .ret) .skip)) (.seq (sq ayO (.block 0 (.loop ayK))) (sq aoR .ret))))
def aWJ:aS:=⟨3,50,Wt,[.cell 6 (some 3),.tmp 7]⟩
def anN:Rg:=[iA 2 (.box true (Tm 0)),iT 4 false]
def anO:Rg:=[iO 8 7 2,iK 9 161 8,iA 10 (.un .not (Tm 9)),iM 11 10,gM 12 1 11 false,gN 13 12 11 false,gF 14 6 2 11 false,gL 15 14 11 false,gN 16 15 11 false,gB 17 .neq 13 16 11 false,iQ 18 11 17]
def anP:Rg:=[iT 4 false]
def anQ:Rg:=[iM 19 1,iN 20 19,iI 21 0]
def anR:Rg:=[iB 22 .lss 21 20]
def anS:Rg:=[iM 23 21,iM 5 23]
def anT:Rg:=[iO 25 7 2,iM 26 1,iM 27 5,iA 28 (.call 160 [(Tm 25),(Tm 26),(Tm 27)]),iM 24 28,iE 29 24 0,iE 30 24 1,iA 6 (.alloc [zI,zI,zI]),iS 3 6 29,iM 7 30]
def anU:Rg:=[iM 31 7]
def anV:Rg:=[iT 4 false]
def anW:Rg:=[iC 32 .add 21 1,iM 21 32]
def Wk:aC:=(sq anR (.seq (.cond (Tm 22) .skip (.exit 0)) (.seq (.block 1 (sq anS (sq anT (sq anU (.cond (Tm 31) (sq anV .ret) .skip))))) (.region anW))))
def Wl:Rg:=[iT 4 true]
def R4:aC:=(sq anN (.seq (sq anO (.cond (Tm 18) (sq anP .ret) .skip)) (.seq (sq anQ (.block 0 (.loop Wk))) (sq Wl .ret))))
def aSP:aS:=⟨2,33,R4,[.tmp 4]⟩
def azK:Rg:=[iA 5 (.alloc [zI,zI,zI])]
def azL:Rg:=[iM 6 0,iL 7 2,iM 8 1,iA 9 (.build [zI,zI,zI] [(0,1,(Tm 6)),(1,1,(Tm 7)),(2,1,(Tm 8))]),iS 3 5 9]
def Wv:aC:=(sq azK (sq azL .ret))
def aWL:aS:=⟨2,10,Wv,[.cell 5 (some 3)]⟩
def aLC:Rg:=[iA 3 (.box true (Tm 0)),iA 5 (.box false (Tm 2)),iZ 6]
def aLD:Rd:=[(iF 25 5 3,false),(iL 26 25,false),(iF 27 6 3,false),(iL 28 27,false),(iL 29 5,false),(iX 30 2 28 29,false),(iF 31 1 30,false),(iL 32 31,false),(iX 33 17 26 32,false),(iO 34 17 33,false),(iA 7 (.alloc [(.str []),zI,zI,zI,zI,zI,zI,zI,zI,.aB,.aB,zB,.aB,.aB,zB,.aB,.aB]),true),(iS 17 7 34,true)]
def aLE:Rg:=[iF 35 2 3,iL 36 35,iN 37 36,iA 38 (.a5H 1 1 [zB] (Tm 37) (Tm 37)),iM 8 38]
def aLF:Rg:=[iF 39 9 7,iL 40 39,iN 41 40,iI 42 0]
def aLG:Rg:=[iB 43 .lss 42 41]
def aLH:Rg:=[iX 44 1 40 42,iL 45 44,iM 10 45]
def aLI:Rg:=[iM 46 8,iM 47 10,iX 48 1 46 47,⟨none,.store 1 (Tm 48) (.const (.bool true)),none⟩]
def aLJ:Rg:=[iC 49 .add 42 1,iM 42 49]
def aLB:aC:=(sq aLG (.seq (.cond (Tm 43) .skip (.exit 0)) (.seq (.block 1 (sq aLH (.region aLI))) (.region aLJ))))
def aLK:Rg:=[iA 50 (.mkfn 159 [(Tm 5)]),iM 11 50]
def azQ:Rg:=[iZ 12,iZ 13]
def azR:Rd:=[(iF 51 4 3,false),(iL 52 51,false),(iN 53 52,false),(iA 54 (.a5H 1 8 [zI] (Tm 53) (Tm 53)),true),(iF 55 3 3,false),(iL 56 55,false),(iN 57 56,false),(iA 58 (.a5H 1 8 [zI] (Tm 57) (Tm 57)),true),(iM 14 54,false),(iM 15 58,false)]
def azS:Rg:=[iM 59 1,iL 60 5,iX 61 1 59 60,iL 62 61,iN 63 62,iI 64 0]
def azT:Rg:=[iB 65 .lss 64 63]
def azU:Rg:=[iM 66 64,iX 67 1 62 64,iL 68 67,iM 16 66,iM 17 68]
def azV:Rg:=[iM 69 17,iC 70 .lss 69 0]
def azW:Rg:=[iM 71 12,iM 72 11,iM 73 16,iA 74 (.a6B (Tm 72) [(Ci 2),(Tm 73)]),iA 75 (.a5F true 3 1 [zI,zI,zI] [(0,(Tm 74))]),iA 76 (.append 3 24 (Tm 71) (Tm 75)),iM 12 76]
def azX:Rg:=[iM 77 8,iF 78 4 3,iL 79 78,iM 80 17,iX 81 3 79 80,iF 82 1 81,iL 83 82,iX 84 1 77 83,iL 85 84,iA 86 (.un .not (Tm 85))]
def azY:Rg:=[iM 87 13,iM 88 11,iM 89 16,iA 90 (.a6B (Tm 88) [(Ci 4),(Tm 89)]),iA 91 (.a5F true 3 1 [zI,zI,zI] [(0,(Tm 90))]),iA 92 (.append 3 24 (Tm 87) (Tm 91)),iM 13 92]
def azZ:Rg:=[iM 93 14,iM 94 17,iX 95 1 93 94,iL 96 95,iC 97 .add 96 1,iX 98 1 93 94,iS 1 98 97]
def aAA:Rg:=[iF 99 4 3,iL 100 99,iM 101 17,iX 102 3 100 101,iF 103 2 102,iL 104 103,iM 18 104]
def aAB:Rg:=[iM 105 18,iC 106 .gtr 105 0]
def aAC:Rg:=[iM 113 15,iM 114 18,iX 115 1 113 114,iL 116 115,iC 117 .add 116 1,iX 118 1 113 114,iS 1 118 117]
def aAD:Rg:=[iF 107 3 3,iL 108 107,iM 109 18,iX 110 7 108 109,iF 111 2 110,iL 112 111,iM 18 112]
def azM:aC:=(.seq (sq aAB (.cond (Tm 106) .skip (.exit 4))) (.seq (.block 5 (.region aAC)) (.region aAD)))
def aAE:Rg:=[iC 119 .add 64 1,iM 64 119]
def azN:aC:=(sq azT (.seq (.cond (Tm 65) .skip (.exit 2)) (.seq (.block 3 (sq azU (.seq (sq azV (.cond (Tm 70) (sq azW (.exit 3)) .skip)) (.seq (sq azX (.cond (Tm 86) (.region azY) .skip)) (sq azZ (sq aAA (.block 4 (.loop azM)))))))) (.region aAE))))
def aAF:Rg:=[iM 120 12,iM 19 120]
def aAG:Rg:=[iM 121 14,iN 122 121,iI 123 0]
def aAH:Rg:=[iB 124 .lss 123 122]
def aAI:Rg:=[iM 125 123,iX 126 1 121 123,iL 127 126,iM 20 125,iM 21 127]
def aAJ:Rg:=[iM 128 21,iC 129 .gtr 128 1]
def aAK:Rg:=[iM 130 19,iM 131 11,iM 132 20,iA 133 (.a6B (Tm 131) [(Ci 3),(Tm 132)]),iA 134 (.a5F true 3 1 [zI,zI,zI] [(0,(Tm 133))]),iA 135 (.append 3 24 (Tm 130) (Tm 134)),iM 19 135]
def aAL:Rg:=[iC 136 .add 123 1,iM 123 136]
def azO:aC:=(sq aAH (.seq (.cond (Tm 124) .skip (.exit 6)) (.seq (.block 7 (sq aAI (sq aAJ (.cond (Tm 129) (.region aAK) .skip)))) (.region aAL))))
def aAM:Rg:=[iM 137 19,iM 138 13,iA 139 (.append 3 24 (Tm 137) (Tm 138)),iM 19 139]
def aAN:Rg:=[iM 140 15,iN 141 140,iI 142 0]
def aAO:Rg:=[iB 143 .lss 142 141]
def aAP:Rg:=[iM 144 142,iX 145 1 140 142,iL 146 145,iM 22 144,iM 23 146]
def aAQ:Rg:=[iF 147 3 3,iL 148 147,iM 149 22,iX 150 7 148 149,iF 151 1 150,iL 152 151,iF 153 4 7,iA 154 (.idxA 5 1 (Tm 153) (Tm 152)),iL 155 154,iM 24 155]
def aAR:Rg:=[iM 156 24,iC 157 .gtr 156 0,iM 158 157,gM 159 23 158 true,gM 160 24 158 true,gB 161 .gtr 159 160 158 true,iP 162 158 161]
def aAS:Rg:=[iM 163 19,iM 164 11,iM 165 22,iA 166 (.a6B (Tm 164) [(Ci 5),(Tm 165)]),iA 167 (.a5F true 3 1 [zI,zI,zI] [(0,(Tm 166))]),iA 168 (.append 3 24 (Tm 163) (Tm 167)),iM 19 168]
def aAT:Rg:=[iC 169 .add 142 1,iM 142 169]
def azP:aC:=(sq aAO (.seq (.cond (Tm 143) .skip (.exit 8)) (.seq (.block 9 (sq aAP (sq aAQ (sq aAR (.cond (Tm 162) (.region aAS) .skip))))) (.region aAT))))
def aAU:Rg:=[iM 170 19,iM 6 170]
def aoT:aC:=(sq aLC (dq aLD (sq aLE (.seq (sq aLF (.block 0 (.loop aLB))) (sq aLK (sq azQ (dq azR (.seq (sq azS (.block 2 (.loop azN))) (sq aAF (.seq (sq aAG (.block 6 (.loop azO))) (sq aAM (.seq (sq aAN (.block 8 (.loop azP))) (sq aAU .ret)))))))))))))
def aZN:aS:=⟨3,171,aoT,[.tmp 6]⟩
def aKR:Rg:=[iA 3 (.box true (Tm 0)),iZ 6]
def aKS:Rg:=[iO 15 7 3,iK 16 161 15,iA 17 (.un .not (Tm 16)),iM 14 17]
def aKT:Rg:=[iZ 6]
def aKU:Rg:=[iM 19 1,iN 20 19,iF 21 6 3,iL 22 21,iN 23 22,iB 24 .neq 20 23,iM 18 24]
def aKV:Rg:=[iM 25 1,iN 26 25,iA 27 (.build [zI,zI,zI] [(0,1,(Ci 1)),(1,1,(Ci (-1))),(2,1,(Tm 26))]),iA 28 (.a5F true 3 1 [zI,zI,zI] [(0,(Tm 27))]),iM 6 28]
def aKW:Rg:=[iZ 7]
def aKX:Rg:=[iM 29 1,iN 30 29,iI 31 0]
def aKY:Rg:=[iB 32 .lss 31 30]
def aKZ:Rg:=[iM 33 31,iM 8 33]
def aLA:Rg:=[iO 35 7 3,iM 36 1,iM 37 8,iA 38 (.call 160 [(Tm 35),(Tm 36),(Tm 37)]),iM 34 38,iE 39 34 0,iE 40 34 1,iA 9 (.alloc [zI,zI,zI]),iS 3 9 39,iM 10 40]
def ayY:Rg:=[iM 41 10]
def ayZ:Rg:=[iM 42 7,iO 43 3 9,iA 44 (.a5F true 3 1 [zI,zI,zI] [(0,(Tm 43))]),iA 45 (.append 3 24 (Tm 42) (Tm 44)),iM 7 45]
def azA:Rg:=[iM 46 7,iO 47 7 3,iM 48 1,iM 49 8,iA 50 (.call 158 [(Tm 47),(Tm 48),(Tm 49)]),iA 51 (.append 3 24 (Tm 46) (Tm 50)),iM 7 51]
def azB:Rg:=[iC 52 .add 31 1,iM 31 52]
def ayW:aC:=(sq aKY (.seq (.cond (Tm 32) .skip (.exit 1)) (.seq (.block 2 (sq aKZ (.seq (sq aLA (sq ayY (.cond (Tm 41) (sq ayZ (.exit 2)) .skip))) (.region azA)))) (.region azB))))
def azC:Rg:=[iO 53 7 3,iM 54 2,iK2 55 152 53 54,iM 11 55]
def azD:Rg:=[iO 56 7 3,iM 57 1,iK2 58 157 56 57,iN 59 58,iI 60 0]
def azE:Rg:=[iB 61 .lss 60 59]
def azF:Rg:=[iM 62 60,iX 63 1 58 60,iL 64 63,iM 12 62,iM 13 64]
def azG:Rg:=[iM 65 13,iM 66 11,iM 67 12,iX 68 1 66 67,iL 69 68,iB 70 .gtr 65 69]
def azH:Rg:=[iM 71 7,iM 72 12,iA 73 (.build [zI,zI,zI] [(0,1,(Ci 6)),(1,1,(Ci (-1))),(2,1,(Tm 72))]),iA 74 (.a5F true 3 1 [zI,zI,zI] [(0,(Tm 73))]),iA 75 (.append 3 24 (Tm 71) (Tm 74)),iM 7 75]
def azI:Rg:=[iC 76 .add 60 1,iM 60 76]
def ayX:aC:=(sq azE (.seq (.cond (Tm 61) .skip (.exit 3)) (.seq (.block 4 (sq azF (sq azG (.cond (Tm 70) (.region azH) .skip)))) (.region azI))))
def azJ:Rg:=[iM 77 7,iM 6 77]
def aoS:aC:=(sq aKR (.seq (.block 0 (sq aKS (.cond (Tm 14) (sq aKT .ret) (sq aKU (.cond (Tm 18) (sq aKV .ret) .skip))))) (sq aKW (.seq (sq aKX (.block 1 (.loop ayW))) (sq azC (.seq (sq azD (.block 3 (.loop ayX))) (sq azJ .ret)))))))
def aZM:aS:=⟨3,78,aoS,[.tmp 6]⟩
def axU:Rg:=[iA 3 (.box true (Tm 0)),iT 6 false]
def axV:Rg:=[iO 7 7 3,iK 8 161 7,iM 9 8,gO 10 7 3 9 true,gM 11 1 9 true,gM 12 2 9 true,iG 13 (.call 154 [(Tm 10),(Tm 11),(Tm 12)]) 9 true,gN 14 13 9 true,gC 15 .eql 14 0 9 true,iP 16 9 15,iM 6 16]
def Wq:aC:=(sq axU (sq axV .ret))
def aWH:aS:=⟨3,17,Wq,[.tmp 6]⟩
theorem pD {f:aE} {d:Nat} (h:d<f.a4Z.length):(f.a4Z.map dN.cells)[d]?=some (f.a4Z[d]).cells:=by simp[h]
theorem eY {f:aE} {d:Nat} (h:d<f.a5C.length):(f.a5C.map cE.cells)[d]?=some (f.a5C[d]).cells:=by simp[h]
theorem V4 {f:aE} {d:Nat} (h:d<f.a5D.length):(f.a5D.map bT.cells)[d]?=some (f.a5D[d]).cells:=by simp[h]
theorem sP {f:aE} {d:Nat} (h:d<f.a5C.length):(f.a5C[d]).level=lvl f d:=by rw[lvl,getD_at h]
theorem lz {f:aE} {d:Nat} (h:d<f.a5C.length):(f.a5C[d]).parent=par f d:=by rw[par,getD_at h]
theorem VF.uj {f:aE} (h:VF f) {d:Nat} (c:d<f.a4Z.length):(f.a4Z[d]).machine=((dC f d:Nat):Int):=by
 have:=(h.drive d c).2.2.1;rw[dC,getD_at c]; omega
theorem VF.jv {f:aE} (h:VF f) {d:Nat} (c:d<f.a4Z.length):(f.a4Z[d]).model=((mdl f d:Nat):Int):=by
 have:=(h.drive d c).1;rw[mdl,getD_at c]; omega
theorem VF.vj {f:aE} (h:VF f) {i:Nat} (c:0<i) (hi:i<f.a5C.length):par f i=((JW f i:Nat):Int):=by
 have:=(h.dom i c hi).1;rw[JW]; omega
theorem aHB {f:aE} (h:VF f) {v:Nat} (d:v<f.a5B.length):∃ c:DL f v<f.a5D.length,f.a5D[DL f v]=KB f v:=by
 have c:=(h.volume v d).2;exact⟨c,by simp[KB,a7C,c]⟩
def pick (n:Nat) (p:Nat→Bool):List Int:=((a6L n).filter p).map fun (i:Nat)=>(i:Int)
theorem auL (n:Nat) (p:Nat→Bool):pick (n+1) p=if p n then pick n p++[(n:Int)] else pick n p:=by
 unfold pick;rw[a9U,List.filter_append,a7L];by_cases h:p n
 ·rw[if_pos h]; simp[h]
 ·rw[if_neg h]; simp[h]
theorem aGZ (n:Nat) (p:Nat→Bool):(pick n p).length≤n:=by
 unfold pick;rw[a6K];exact a7U (baF _ _) (by simp)
theorem akI (l:List Int) (x:Int):aY l++[[.int .i64 x]]=aY (l++[x]):=by unfold aY; rw[a7L]; rfl
theorem cY (l:List Int):(aY l).length=l.length:=by unfold aY; rw[a6K]
theorem vz {t:Nat} {H:PH} {v:PV} {l:List Int} {F:PF} (h:bP H 1 v (aY l)) (c:F t=some v):aV [.tmp t] (bX (ints l)) .ret F H:=qG (.inr rfl) h c
theorem AA {t:Nat} {H:PH} {F:PF} (c:F t=some .aB):aV [.tmp t] (bX (ints [])) .ret F H:=qG (rows:=[]) (.inr rfl) .nil c
def FC (f:aE) (dom:Int):List Int :=
 if dS f∧0≤dom∧dom<f.a5C.length then pick f.a4Z.length fun d=>decide ((cL f d (lvl f dom.toNat):Nat)=dom.toNat) else []
section
variable (o s:Nat) (rs:List (List PV))
@[go_sem] theorem a2D (k:IntKind) (n:Int):PV.frz o s rs (.int k n)=.int k n:=(rfl)
@[go_sem] theorem a0K (b:Bool):PV.frz o s rs (.bool b)=.bool b:=(rfl)
@[go_sem] theorem a2H (l:List UInt8):PV.frz o s rs (.str l)=.str l:=(rfl)
@[go_sem] theorem a0L:PV.frz o s rs .aB=.aB:=(rfl)
@[go_sem] theorem a3J (n:Nat) (r:List (List PV)):PV.frz o s rs (.sl n r)=.sl n r:=(rfl)
@[go_sem] theorem a0M (c:List PV):PV.frz o s rs (.bG c)=.bG c:=(rfl)
@[go_sem] theorem a2G (q z i c:Nat):PV.frz o s rs (.ptr q z i c)=.ptr q z i c:=(rfl)
@[go_sem] theorem a3I (n:Nat) (c:List PV):PV.frz o s rs (.fn n c)=.fn n c:=(rfl)
@[go_sem] theorem a2E (q:Nat):PV.frz o s rs (.map q)=.map q:=(rfl)
@[go_sem] theorem a2F (q z c len:Nat):PV.frz o s rs (.osl q z c len)=if q=o then (if z=s∧c+len≤rs.length then .sl s ((rs.drop c).take len) else .junk) else .osl q z c len:=(rfl)
end
def oO (s:Nat) (rows:List (List PV)) (r:PV) (H:PH):Prop :=
 (rows=[]∧r=.aB∧H=PH.nil)∨∃ q rs,r=.osl q s 0 rows.length∧H=PH.nil.set q (.rows s rs)∧rows.length≤rs.length∧rs.take rows.length=rows
theorem Yd (q s:Nat) (rs:List (List PV)):(PH.nil.set q (.rows s rs)).frz q s rs=PH.nil:=PH.ext fun o=>by
 rw[yD];by_cases e:o=q
 ·rw[if_pos e]; rfl
 ·rw[if_neg e,aT,if_neg e]; rfl
section
variable {C:Ctx} {K:bQ} {F:PF} {H:PH} {s:Nat} {v:PV} {rows:List (List PV)}
theorem oO.over {r:PV} {H':PH} (h:oO s rows r H') (i:lN H .nil H'):bP (H.over .nil H') s r rows∧∀ o x,H o=some x→(H.over .nil H') o=some x:=by
 rcases h with ⟨c,e,rfl⟩ | ⟨q,rs,c,rfl,h3,h4⟩
 ·rw[PH.zT]; exact⟨.inl ⟨c,e⟩,fun o x h=>h⟩
 ·rw[PH.pG];have l:H q=none:=i q (.rows s rs) (by simp only[aT,if_true]) rfl;refine⟨.inr ⟨q,rs,c,by simp only[aT,if_true],h3,h4⟩,fun o x d=>?_⟩;have:o≠q:=by rintro rfl; rw[l] at d; cases d
  simp only[aT,if_neg this,d]
theorem mm {t:Nat} {e:jZ} (c:e=.normal∨e=.ret) (h:bP H s v rows) (d:F t=some v):aV [.tmp t] (oO s rows) e F H:=by
 rcases h with ⟨rfl,rfl⟩ | ⟨q,rs,rfl,h1,h2,h3⟩
 ·exact bA (vs:=[.aB]) c .nil (by rw[jU,mX,d,oG]) a_ (.inl ⟨rfl,rfl,rfl⟩)
 ·exact bA (vs:=[.osl q s 0 rows.length]) c (PH.nil.set q (.rows s rs)) (by rw[jU,mX,d,oG]) (PH.aJ a_ h1) (.inr ⟨q,rs,rfl,rfl,h2,h3⟩)
theorem vw {t:Nat} {e:jZ} (c:e=.normal∨e=.ret) (d:F t=some .aB):aV [.tmp t] (oO s []) e F H:=mm c .nil d
theorem auT {t:Nat} {e:jZ} {r:PV} {H':PH} (c:e=.normal∨e=.ret) (h:oO s rows r H') (i:F t=some r):aV [.tmp t] (oO s rows) e F (H.over .nil H'):=by
 refine bA (vs:=[r]) c H' (by rw[jU,mX,i,oG]) (fun o x d=>?_) h;rw[gG,d]
theorem aG.freeze {name:Nat} {args:List PV} (h:aG C name args H (oO s rows)):aG C name args H (aF (.sl s rows)) :=
 ⟨h.1,fun E w vs J hW l=>(h.2 E w vs J hW l).mono fun e R M=>by
  obtain⟨u,pv,A,H',rfl,c,y,x,N⟩:=M;rcases N with ⟨rfl,rfl,rfl⟩ | ⟨q,rs,rfl,rfl,h3,h4⟩
  ·exact⟨u,_,A,_,rfl,c,(Co.nil s).sound y,x,rfl,rfl⟩
  ·have O:iU (PF.nil.set 0 (.osl q s 0 rows.length)) (PH.nil.set q (.rows s rs)) _ _:=.step q (s:=s) (rs:=rs) (by simp only[aT,if_true]) (.refl _ _);obtain⟨B,k1,k2,Q⟩:=O.sound c;have d:=Q (fun _=>u) (fun i p hi=>by
    rw[jS] at hi;split at hi
    ·cases hi; exact y
    ·cases hi) 0 (.sl s rows) (by rw[qQ,jS,if_pos rfl,a7Y,tR h3,h4])
   rw[Yd] at k1 k2;exact⟨u,_,B,_,rfl,k1,d,x.trans k2,rfl,rfl⟩⟩
theorem eE.of:∀ {E:Env} (ps:List PV) (vs:List Value),vs.length=ps.length→(∀ (i:Nat) p v,ps[i]?=some p→vs[i]?=some v→aZ E p v)→eE E ps vs
 | _,[],[],_,_=>.nil
 | _,[],_::_,h,_=>by simp at h
 | _,_::_,[],h,_=>by simp at h
 | _,p::ps,v::vs,h,k=>.cons (k 0 p v rfl rfl) (eE.of ps vs (by simpa using h) fun i q u a b=>k (i+1) q u (by simpa using a) (by simpa using b))
theorem bL.same {E:Env} {w l:World} (hW:bL E H w) (A:w.heap.size≤l.heap.size) (y:∀ b,b<w.heap.size→H b=none→l.heap[b]?=w.heap[b]?) (u:∀ o x,H o=some x→l.heap[o]?=w.heap[o]?):bL E H l:=by
 have d:∀ b,b<w.heap.size→l.heap[b]?=w.heap[b]?:=fun b hlt=>by
  cases e:H b with
  | none=>exact y b hlt e
  | some x=>exact u b x e
 refine⟨fun b cs h=>?_,fun o x h=>?_,fun o n h=>?_⟩
 ·obtain⟨c,ty,q,i⟩:=hW.g b cs h;exact⟨c,ty,q,(d b (a9S.1 i).1).trans i⟩
 ·obtain⟨c,i⟩:=hW.h o x h;exact⟨Nat.lt_of_lt_of_le c A,i.mono (.refl E) (d o c)⟩
 ·obtain⟨p,ty,q,c,i⟩:=hW.s o n h;exact⟨p,ty,q,(d o (a9S.1 c).1).trans c,i⟩
inductive Plain:PV→Prop
 | int (k:IntKind) (n:Int):Plain (.int k n)
 | bool (b:Bool):Plain (.bool b)
 | str (l:List UInt8):Plain (.str l)
theorem Plain.rep {v:PV} (h:Plain v) {E c:Env} {u:Value} (r:aZ E v u):aZ c v u:=by
 cases h<;>cases r
 ·exact .int _ _
 ·exact .bool _
 ·exact .str _
theorem aG.aFF {name o:Nat} {rs:List (List PV)} {args:List PV} (Y:Plain v) (h:aG C name (args.map (PV.frz o s rs)) .nil (aF v)) :
  aG C name args (PH.nil.set o (.rows s rs)) (fun r H'=>r=v∧H'=PH.nil.set o (.rows s rs)):=by
 refine⟨h.1,fun E w vs Q hW B=>?_⟩;have Z:iU (PF.args args) (PH.nil.set o (.rows s rs)) _ _:=.step o (s:=s) (rs:=rs) (by simp only[aT,if_true]) (.refl _ _);obtain⟨N,k1,k2,k3⟩:=Z.sound hW;rw[Yd] at k1 k2;have A:=B.len;have J:eE N (args.map (PV.frz o s rs)) vs.toList:=by
  refine eE.of _ _ (by rw[a6K]; exact A) fun i p u V X=>?_;have:=k3 (fun i=>(vs.toList[i]?).getD undef) (fun j q O=>by have U:=(a7T.1 O).1;have y:j<vs.toList.length:=Om;simp only[a6Y y,a9K];exact B.at_ j q _ O (a6Y y)) i p (by rw[qQ,args_at,← a7J]; exact V)
  simp only[X,a9K] at this;exact this
 refine (h.2 N w vs (k2.env.num.trans Q) k1 J).mono fun e w' S=>?_;obtain⟨u,pv,E2,H2,rfl,R,W,l,rfl,rfl⟩:=S;have c:∀ b,b<w.heap.size→w'.heap[b]?=w.heap[b]?:=fun b d=>l.block b d rfl;refine⟨u,pv,E,_,rfl,hW.same l.size (fun b d _=>c b d) (fun q x M=>c q (hW.h q x M).1),Y.rep W,⟨.refl E,l.os,l.tape,l.output,l.size,fun b d _=>c b d,fun q x M=>.inl ⟨x,M⟩,fun b cs d=>.inl d⟩,rfl,rfl⟩
theorem Wz {name o:Nat} {rs:List (List PV)} {args:List aP} {vs:List PV} {d:Option Nat} {K:PF→PH→Prop} (l:Plain v) (h:aG C name (vs.map (PV.frz o s rs)) .nil (aF v)) (c:H o=some (.rows s rs)) (e:aP.evs F args=some vs)
  (i:K (F.put d v) H):hZ C name args [] d K F H:=by
 refine kJ (h.aFF l) e (PH.aJ a_ c) ?_;rintro r H' ⟨rfl,rfl⟩ -;rw[PH.over_self _ (PH.aJ a_ c)];exact i
theorem aDT {Hs:PH} {S:Spec} {name o:Nat} {rs:List (List PV)} {vs:List PV} {R:PH→PV→PH→Prop} {args:List aP} {st:Bool} {d:Option Nat} {K:PF→PH→Prop} (l:S name vs=some ([o],R)) (w:Plain v) (u:H o=some (.rows s rs))
  (h:aG C name (vs.map (PV.frz o s rs)) .nil (aF v)) (c:R (PH.nil.set o (.rows s rs)) v (PH.nil.set o (.rows s rs))) (e:∀ r H',R (PH.nil.set o (.rows s rs)) r H'→r=v∧H'=PH.nil.set o (.rows s rs)) (p:aP.evs F args=some vs) (i:Hs.le H) (q:K (F.put d v) H) :
  dOp C Hs S st (.call name args) d K F H:=YW l u (h.aFF w) c e p i q
theorem Gf {name t:Nat} {R:PV→PH→Prop} {d:Option Nat} {K:PF→PH→Prop} (h:aG C name [.sl s rows] .nil R) (w:bP H s v rows) (p:F t=some v)
  (l:∀ (c:PF) (e:PH),(∀ i u,F i=some u→Pure u→c i=some u)→∀ r H',R r H'→lN e .nil H'→K (c.put d r) (e.over .nil H')):hZ C name [.tmp t] [] d K F H:=by
 rcases w with ⟨rfl,rfl⟩ | ⟨q,rs,rfl,h1,h2,h3⟩
 ·exact .inl ⟨[.aB],.nil,R,by rw[zD,io,p,UI]; rfl,a_,h.amR (.inl ⟨rfl,rfl⟩),l F H fun i u hi _=>hi⟩
 ·refine .inr ⟨_,_,.step q h1 (.refl _ _),[.sl s rows],.nil,R,?_,a_,h,l _ _ fun i u hi x=>?_⟩
  ·simp only[zD,UI,io,qQ,p,a7Y,tR h2,h3,a8H]
  ·rw[qQ,hi,a7Y,x q s rs]
end
theorem zp (l:List Int) (i:Nat) (x:Int):(aY l).set i [.int .i64 x]=aY (l.set i x):=by unfold aY; rw[List.map_set]
theorem VU (n:Nat):a6N n [PV.int .i64 0]=aY (a6N n 0):=by simp[aY]
def aVL (f:aE) (c:List Int) (d:Nat):Int:=if c.length=f.a4Z.length then min (max (c.getD d 0) 0) (ext f d) else ext f d
def aZF (f:aE) (c:List Int):List Int:=(a6L f.a4Z.length).map (aVL f c)
abbrev lay (l:List (List Int)):PV:=.sl 1 (l.map fun r=>[ints r])
def a1P (n:Nat) (xs:List Int):List Int:=(a6L n).map fun (d:Nat)=>((xs.count (d:Int):Nat):Int)
def aUY (f:aE) (l:List (List Int)):List Int:=a1P f.a4Z.length l.flatten
structure aXS (l:List (List Int)):Prop where
 rows:l.length≤16777216
 all:l.flatten.length≤16777216
theorem arO (l:List (List Int)) {i:Nat} (h:i<l.length):(l.take (i+1)).flatten=(l.take i).flatten++l[i]:=by
 rw[a8E h,List.flatten_append];simp only[List.flatten_cons,List.flatten_nil,a8H]
structure aTV where
 kind:Int
 vol:Int
 wher:Int
abbrev aTV.cells (x:aTV):List PV:=[.int .i64 x.kind,.int .i64 x.vol,.int .i64 x.wher]
section
variable {C:Ctx} {F:PF} {H:PH}
theorem apQ {name:Nat} {vs cs:List PV} {r:PV} {e:PH} {args:List aP} {d:Option Nat} {K:PF→PH→Prop} (h:aG C name (vs++cs) e (fun i H'=>i=r∧H'=e)) (l:aP.evs F args=some vs) (c:e.le H)
  (p:K (F.put d r) H):hZ C name args cs d K F H:=by
 refine .inl ⟨vs++cs,e,_,by rw[l]; rfl,c,h,?_⟩;rintro i H' ⟨rfl,rfl⟩ -;rw[PH.over_self _ c];exact p
theorem bP.ne {s s':Nat} {v:PV} {rows:List (List PV)} {o:Nat} {y:List (List PV)} (h:bP H s v rows) (i:H o=some (.rows s' y)) (p:s≠s'):∀ l,v≠.osl o s 0 l:=by
 intro l e;rcases h with ⟨_,c⟩ | ⟨q,rs,h1,c,_⟩
 ·rw[c] at e; cases e
 ·rw[h1] at e;injection e with d
  subst d;rw[i] at c;injection c with c
  injection c with c
  exact p c.symm
theorem bP.set {s s':Nat} {v:PV} {rows:List (List PV)} {o:Nat} {y:List (List PV)} {x:cC} (h:bP H s v rows) (i:H o=some (.rows s' y)) (l:s≠s'):bP (H.set o x) s v rows:=by
 have e:=h.ne i l;rcases h with ⟨c,d⟩ | ⟨q,rs,c,d,h3,h4⟩
 ·exact .inl ⟨c,d⟩
 ·refine .inr ⟨q,rs,c,?_,h3,h4⟩;have:q≠o:=by rintro rfl; exact e _ c
  simp only[aT,if_neg this,d]
def Dis (s:Nat) (v u:PV):Prop:=∀ q l c d,v=.osl q s 0 l→u=.osl c s 0 d→q≠c
theorem Dis.nil {s:Nat}:Dis s .aB .aB:=fun _ _ _ _ h=>by cases h
theorem Dis.symm {s:Nat} {v u:PV} (h:Dis s v u):Dis s u v:=fun q l i e c d=>(h i e q l d c).symm
end
def lD (f:aE) (i:Nat) (d:Int):Bool:=decide (0≤d)&&decide (cL f d.toNat (lvl f i)=i)
def eU (f:aE) (xs:List Int) (i:Nat):Int:=if i=0 then 0 else ((xs.countP (lD f i):Nat):Int)
def lW (f:aE) (xs:List Int):List Int:=(a6L f.a5C.length).map (eU f xs)
def mF (f:aE) (xs:List Int) (d:Nat) (k:Nat):List Int:=(a6L f.a5C.length).map fun i=>if 4-(k:Int)<lvl f i then eU f (xs++[(d:Int)]) i else eU f xs i
theorem aDY (f:aE) (xs:List Int) (d k:Nat):(mF f xs d k).length=f.a5C.length:=by simp[mF]
theorem VF.jR {f:aE} (h:VF f) {i:Nat} (hi:i<f.a5C.length):0≤lvl f i∧lvl f i≤4∧(lvl f i=0↔i=0):=by
 rcases a8R i with e | e
 ·subst e; rw[h.root.2.1]; simp
 ·have:=h.dom i e hi;omega
theorem arC {f:aE} (h:VF f) (xs:List Int) (d:Nat):mF f xs d 0=lW f xs:=by
 refine a9R (by simp[mF,lW]) fun i e c=>?_;simp only[mF,lW,a8P,List.getElem_range];have hi:i<f.a5C.length:=by simpa [lW] using c
 have:=h.jR hi;rw[if_neg Om]
theorem arB {f:aE} (h:VF f) (xs:List Int) (d:Nat):mF f xs d 4=lW f (xs++[(d:Int)]):=by
 refine a9R (by simp[mF,lW]) fun i l c=>?_;simp only[mF,lW,a8P,List.getElem_range];have hi:i<f.a5C.length:=by simpa [lW] using c
 have:=h.jR hi;by_cases e:i=0
 ·subst e;rw[if_neg Om];simp[eU]
 ·rw[if_pos Om]
theorem AY (f:aE) (xs:List Int) (d:Nat) {i:Nat} (hi:i≠0):eU f (xs++[(d:Int)]) i=eU f xs i+if cL f d (lvl f i)=i then 1 else 0:=by
 unfold eU;rw[if_neg hi,if_neg hi,List.countP_append];by_cases h:cL f d (lvl f i)=i
 ·rw[if_pos h]; simp[lD,h]
 ·rw[if_neg h]; simp[lD,h]
theorem aNX {f:aE} (h:VF f) (xs:List Int) {d:Nat} (x:d<f.a4Z.length) {k:Nat} (B:k<4) :
  (mF f xs d k)[upN f k (dC f d)]?=some (eU f xs (upN f k (dC f d))) ∧
  (mF f xs d k).set (upN f k (dC f d)) (eU f xs (upN f k (dC f d))+1)=mF f xs d (k+1):=by
 obtain⟨y,u⟩:=GC h x (k:=k) Om;constructor
 ·simp only[mF,a7J,List.getElem?_range y,a7Y];rw[if_neg Om]
 ·refine a9R (by simp[mF]) fun i A w=>?_;have hi:i<f.a5C.length:=by simpa [mF] using w
  simp only[mF,List.getElem_set,a8P,List.getElem_range];have E:=h.jR hi;by_cases e:upN f k (dC f d)=i
  ·rw[if_pos e];subst e;rw[if_pos Om];have l:upN f k (dC f d)≠0:=by intro e; rw[e,h.root.2.1] at u; omega
   rw[AY f xs d l,cL,u];have:4-(4-(k:Int)).toNat=k:=Om;rw[this,if_pos rfl]
  ·rw[if_neg e];by_cases c:4-(k:Int)<lvl f i
   ·rw[if_pos c,if_pos Om]
   ·rw[if_neg c];by_cases p:4-((k+1:Nat):Int)<lvl f i
    ·rw[if_pos p];have q:lvl f i=4-(k:Int):=Om;have l:i≠0:=by intro e; subst e; rw[h.root.2.1] at q; omega
     rw[AY f xs d l,cL,q];have:4-(4-(k:Int)).toNat=k:=Om;rw[this,if_neg e]; simp
    ·rw[if_neg p]
theorem aNW (f:aE) (xs:List Int) (i:Nat):0≤eU f xs i∧eU f xs i≤xs.length:=by
 unfold eU;have:=List.countP_le_length (p:=lD f i) (l:=xs);split<;>omega
structure Obs where
 o5:Nat
 o7:Nat
 o8:Nat
 oD:Nat
 oB:Nat
structure Obs.Ne (o:Obs):Prop where
 a1:o.o5≠o.oD
 a2:o.o5≠o.oB
 a3:o.o7≠o.oD
 a4:o.o7≠o.oB
 a5:o.o8≠o.oD
 a6:o.o8≠o.oB
 a7:o.oD≠o.oB
structure aCK (H:PH) (o:Obs) (v:Nat) (p:bT) (A:List Bool) (D B:List Int):Prop where
 h5:H o.o5=some (.rows 1 [[.int .i64 v]])
 h7:H o.o7=some (.rows 17 [p.cells])
 h8:H o.o8=some (.rows 1 (dB A))
 hD:H o.oD=some (.rows 1 (aY D))
 hB:H o.oB=some (.rows 1 (aY B))
theorem aCK.keep {H H':PH} {o:Obs} {v:Nat} {p:bT} {A:List Bool} {D B:List Int} (h:aCK H o v p A D B) (c:∀ q s' z,3≠s'→H q=some (.rows s' z)→H' q=some (.rows s' z)):aCK H' o v p A D B :=
 ⟨c _ _ _ (by decide) h.h5,c _ _ _ (by decide) h.h7,c _ _ _ (by decide) h.h8,c _ _ _ (by decide) h.hD,c _ _ _ (by decide) h.hB⟩
structure Gk (f:aE) (row:List Int):Prop where
 len:row.length≤16777216
 at_:∀ x∈row,-1≤x∧x<(f.a4Z.length:Nat)
def home (row:List Int) (i:Nat):Bool:=decide (row.getD i 0<0)
def dV (f:aE) (p:bT) (i:Nat):Int:=p.spread (lvl f i).toNat
theorem OD (n:Nat):a6N n [PV.bool false]=dB (marks n []):=by rw[Ac]; simp[dB]
theorem aBY (f:aE):a6N f.a5C.length [PV.int .i64 0]=aY (lW f []):=by
 have:lW f []=a6N f.a5C.length 0:=by refine a9R (by simp[lW]) fun i c d=>?_;simp[lW,eU]
 rw[this,VU]
def over (f:aE) (l:List (List Int)) (c:List Int) (d:Nat):Bool:=decide ((aUY f l).getD d 0>(aZF f c).getD d 0)
def aaB:Rg:=[iA 2 (.mv (.const (.lit (.pointer none))))]
def aaC:Rg:=[iM 3 0,iN 4 3,iC 5 .gtr 4 400]
def aaD:Rg:=[iM 6 0,iA 7 (.slice 1 (Tm 6) none (some (Ci 400)) none),iM 0 7]
def uq:Rg:=[iM 8 0,iA 9 (.append 1 1 (.const .aB) (Tm 8)),iA 10 (.build [.aB,zI] [(0,1,(Tm 9))]),iA 11 (.box false (Tm 10)),iM 2 11]
def QM:aC:=(sq aaB (.seq (sq aaC (.cond (Tm 5) (.region aaD) .skip)) (sq uq .ret)))
def aPP:List Nat:=[]
def alE:aS:=⟨1,12,QM,[.tmp 2]⟩
def bi:Rg:=[iI 4 0]
def JH:Rd:=[(iM 5 0,false),(iA 6 (.a5M (Tm 5)),false),(iF 7 1 6,false),(iL 8 7,false),(iM 9 0,false),(iA 10 (.a5M (Tm 9)),false),(iF 11 0 10,false),(iL 12 11,false),(iN 13 12,false),(iB 14 .geq 8 13,false),(iM 15 14,false),(gM 16 1 15 false,false),(gC 17 .lss 16 2 15 false,false),(iQ 18 15 17,false)]
def bj:Rg:=[iI 4 0]
def Or:Rg:=[iM 19 0,iA 20 (.a5M (Tm 19)),iF 21 1 20,iL 22 21,iC 23 .add 22 1,iA 24 (.a5M (Tm 19)),iF 25 1 24,iS 1 25 23]
def Ot:Rd:=[(iM 26 0,false),(iA 27 (.a5M (Tm 26)),false),(iF 28 0 27,false),(iL 29 28,false),(iM 30 0,false),(iA 31 (.a5M (Tm 30)),false),(iF 32 1 31,false),(iL 33 32,false),(iC 34 .sub 33 1,false),(iX 35 1 29 34,false),(iL 36 35,false),(iA 37 (.conv .i64 (Tm 36)),false),(iM 38 1,false),(iB 39 .rem 37 38,false),(iM 4 39,false)]
def xF:aC:=(sq bi (.seq (dq JH (.cond (Tm 18) (sq bj .ret) .skip)) (sq Or (dq Ot .ret))))
def aGE:List Nat:=[]
def kp:aS:=⟨2,40,xF,[.tmp 4]⟩
def N1:Rg:=[iA 2 (.alloc [zB,.aB,.aB])]
def N2:Rg:=[iM 6 0,iA 7 (.call 4 [(Tm 6),(Ci 6)]),iA 8 (.bin .add (Ci 1) (Tm 7)),iM 9 0,iA 10 (.call 4 [(Tm 9),(Ci 8)]),iA 11 (.bin .add (Ci 1) (Tm 10)),iK2 12 50 8 11,iM 5 12,iE 13 5 0,iE 14 5 1,iA 3 (.alloc [zB,.aB,.aB]),iS 3 3 13,iM 4 14]
def N3:Rg:=[iO 15 3 3,iS 3 2 15]
def JB:aC:=(sq N1 (sq N2 (sq N3 .ret)))
def aFZ:List Nat:=[]
def Gx:aS:=⟨1,16,JB,[.cell 2 (some 3)]⟩
def Z4:Rg:=[iA 4 (.alloc [(.str []),.aB,.aB,.aB])]
def Z5:Rg:=[iM 16 0,iM 17 1,iK2 18 4 16 17,iA 19 (.bin .add (Ci 1) (Tm 18)),iM 5 19]
def Z6:Rg:=[iA 6 (.alloc [(.str []),.aB,.aB,.aB])]
def Z7:Rg:=[iI 7 8]
def Z8:Rg:=[iI 8 0]
def Z9:Rg:=[iM 20 8,iM 21 5,iB 22 .lss 20 21]
def ul:Rg:=[iM 25 7,iM 9 25]
def um:Rg:=[iM 26 8,iC 27 .add 26 1,iM 28 5,iB 29 .lss 27 28]
def uo:Rg:=[iM 30 0,iM 31 7,iC 32 .add 31 1,iK2 33 4 30 32,iM 9 33]
def US:Rg:=[iM 34 7,iM 35 9,iB 36 .sub 34 35,iM 7 36]
def au:Rg:=[iM 38 9,iA 39 (.call 50 [(Tm 38),(Ci 8)]),iM 37 39,iE 40 37 0,iE 41 37 1,iA 10 (.alloc [zB,.aB,.aB]),iS 3 10 40,iM 11 41]
def av:Rg:=[iF 42 1 6,iL 43 42,iO 44 3 10,iA 45 (.a5F true 3 1 [zB,.aB,.aB] [(0,(Tm 44))]),iA 46 (.append 3 56 (Tm 43) (Tm 45)),iF 47 1 6,iS 1 47 46]
def aw:Rg:=[iM 48 0,iK 49 1 48,iA 12 (.alloc [zB,.aB,.aB]),iS 3 12 49]
def ay:Rg:=[iM 50 8,iC 51 .add 50 1,iM 52 5,iB 53 .lss 51 52,iM 54 53,gM 55 0 54 true,iG 56 (.call 4 [(Tm 55),(Ci 3)]) 54 true,gC 57 .eql 56 0 54 true,iP 58 54 57]
def ba:Rg:=[iA 59 (.call 47 [(Ci 0)]),iS 3 12 59]
def JF:Rg:=[iF 60 3 6,iL 61 60,iO 62 3 12,iA 63 (.a5F true 3 1 [zB,.aB,.aB] [(0,(Tm 62))]),iA 64 (.append 3 56 (Tm 61) (Tm 63)),iF 65 3 6,iS 1 65 64]
def bb:Rg:=[iZ 13]
def bc:Rg:=[iI 14 0]
def Oe:Rg:=[iM 66 14,iM 67 5,iB 68 .lss 66 67]
def Of:Rg:=[iA 71 (.call 47 [(Ci 0)]),iA 15 (.alloc [zB,.aB,.aB]),iS 3 15 71]
def Og:Rg:=[iM 72 14,iM 73 8,iC 74 .add 73 1,iB 75 .eql 72 74,iM 76 75,gM 77 14 76 false,gM 78 8 76 false,gB 79 .neq 77 78 76 false,gM 80 79 76 false,gM 81 0 80 true,iG 82 (.call 4 [(Tm 81),(Ci 3)]) 80 true,gC 83 .eql 82 0 80 true,iG 84 (.pick (Tm 80) (Tm 83) (.const zB)) 76 false,iQ 85 76 84]
def bd:Rg:=[iM 86 0,iK 87 1 86,iS 3 15 87]
def be:Rg:=[iM 88 13,iO 89 3 15,iA 90 (.a5F true 3 1 [zB,.aB,.aB] [(0,(Tm 89))]),iA 91 (.append 3 56 (Tm 88) (Tm 90)),iM 13 91]
def bf:Rg:=[iM 69 14,iC 70 .add 69 1,iM 14 70]
def JE:aC:=(.seq (sq Oe (.cond (Tm 68) .skip (.exit 2))) (.seq (.block 3 (sq Of (.seq (sq Og (.cond (Tm 85) (.region bd) .skip)) (.region be)))) (.region bf)))
def bg:Rg:=[iF 92 2 6,iL 93 92,iM 94 13,iA 95 (.a5F true 1 1 [.aB] [(0,(Tm 94))]),iA 96 (.append 1 24 (Tm 93) (Tm 95)),iF 97 2 6,iS 1 97 96]
def Oh:Rg:=[iM 23 8,iC 24 .add 23 1,iM 8 24]
def Od:aC:=(.seq (sq Z9 (.cond (Tm 22) .skip (.exit 0))) (.seq (.block 1 (sq ul (.seq (sq um (.cond (Tm 29) (.region uo) .skip)) (sq US (sq au (sq av (sq aw (.seq (sq ay (.cond (Tm 58) (.region ba) .skip)) (sq JF (sq bb (.seq (sq bc (.block 2 (.loop JE))) (.region bg)))))))))))) (.region Oh)))
def Oi:Rg:=[iO 98 4 6,iS 4 4 98]
def QL:aC:=(sq Z4 (sq Z5 (sq Z6 (sq Z7 (.seq (sq Z8 (.block 0 (.loop Od))) (sq Oi .ret))))))
def aPN:List Nat:=[45,63,90,95]
def akR:aS:=⟨2,99,QL,[.cell 4 (some 4)]⟩
def aaG:Rg:=[iZ 4]
def aaH:Rg:=[iZ 5]
def aaI:Rg:=[iI 6 0]
def aaJ:Rg:=[iM 7 6,iM 8 1,iA 9 (.a5U true (Tm 8) (Ci 1)),iB 10 .lss 7 9]
def aaK:Rg:=[iM 13 5,iM 14 0,iK 15 1 14,iA 16 (.a5F true 3 1 [zB,.aB,.aB] [(0,(Tm 15))]),iA 17 (.append 3 56 (Tm 13) (Tm 16)),iM 5 17]
def aaL:Rg:=[iM 11 6,iC 12 .add 11 1,iM 6 12]
def aaE:aC:=(.seq (sq aaJ (.cond (Tm 10) .skip (.exit 0))) (.seq (.block 1 (.region aaK)) (.region aaL)))
def aaM:Rg:=[iM 18 5,iM 4 18]
def QN:aC:=(sq aaG (sq aaH (.seq (sq aaI (.block 0 (.loop aaE))) (sq aaM .ret))))
def aPR:List Nat:=[16]
def alF:aS:=⟨2,19,QN,[.tmp 4]⟩
def On:Rg:=[iA 4 (.mv (.const (.str [])))]
def Oo:Rg:=[iM 5 0,iM 6 1,iK 7 195 6,iB 8 .add 5 7,iM 4 8]
def JG:aC:=(sq On (sq Oo .ret))
def aGD:List Nat:=[]
def Gy:aS:=⟨2,9,JG,[.tmp 4]⟩
def N6:Rg:=[iM 12 1,iA 13 (.a5M (Tm 12)),iF 14 3 13,iL 15 14,iM 16 2,iX 17 7 15 16,iF 18 1 17,iL 19 18,iC 20 .add 19 1,iM 8 20]
def N7:Rg:=[iM 21 0,iA 22 (.call 4 [(Tm 21),(Ci 2)]),iA 23 (.bin .add (Ci 1) (Tm 22)),iM 9 23]
def N8:Rg:=[iM 24 8,iC 25 .eql 24 2]
def N9:Rg:=[iI 9 1]
def JC:Rg:=[iI 10 0]
def an:Rg:=[iM 26 10,iM 27 9,iB 28 .lss 26 27]
def ao:Rg:=[iM 31 8,iC 32 .eql 31 5]
def Oa:Rg:=[iM 33 1,iA 34 (.a5M (Tm 33)),iF 35 4 34,iL 36 35,iN 37 36,iM 38 3,iB 39 .lss 37 38]
def Ob:Rd:=[(iM 40 1,true),(iM 41 1,true),(iA 42 (.a5M (Tm 41)),true),(iF 43 4 42,true),(iL 44 43,true),(iM 45 1,false),(iA 46 (.a5M (Tm 45)),false),(iF 47 4 46,false),(iL 48 47,false),(iN 49 48,false),(iA 50 (.call 29 [(.const (.str [100])),(Tm 49)]),true),(iM 51 0,true),(iM 52 1,true),(iA 53 (.a5M (Tm 52)),true),(iF 54 2 53,true),(iL 55 54,true),(iN 56 55,true),(iK2 57 4 51 56,true),(iM 58 2,true),(iA 59 (.build [(.str []),zI,zI] [(0,1,(Tm 50)),(1,1,(Tm 57)),(2,1,(Tm 58))]),false),(iA 60 (.a5F true 3 1 [(.str []),zI,zI] [(0,(Tm 59))]),false),(iA 61 (.append 3 32 (Tm 44) (Tm 60)),true),(iA 62 (.a5M (Tm 40)),false),(iF 63 4 62,false)]
def Oc:Rd:=[(iS 1 63 61,true)]
def Ao:Rg:=[iM 64 1,iA 65 (.a5M (Tm 64)),iF 66 4 65,iL 67 66,iN 68 67,iM 69 3,iB 70 .geq 68 69,iM 71 70,gM 72 1 71 false,iG 73 (.a5M (Tm 72)) 71 false,gF 74 3 73 71 false,gL 75 74 71 false,gN 76 75 71 false,gC 77 .geq 76 35 71 false,iQ 78 71 77]
def Ap:Rd:=[(iM 79 8,false),(iA 80 (.a6A (.const (.str [45,115,114,107,109])) (Tm 79)),false),(iA 81 (.a5F true 1 1 [(.int .u8 0)] [(0,(Tm 80))]),false),(iA 82 (.a5N (Tm 81)),false),(iM 83 1,false),(iA 84 (.a5M (Tm 83)),false),(iF 85 3 84,false),(iL 86 85,false),(iN 87 86,false),(iK2 88 29 82 87,true),(iM 89 8,true),(iM 90 2,true),(iM 91 0,true),(iA 92 (.call 4 [(Tm 91),(Ci 16)]),true),(iA 93 (.bin .add (Ci 1) (Tm 92)),true),(iA 94 (.call 47 [(Ci 0)]),true),(iA 95 (.build [(.str []),zI,zI,zI,zB,.aB,.aB] [(0,1,(Tm 88)),(1,1,(Tm 89)),(2,1,(Tm 90)),(3,1,(Tm 93)),(4,3,(Tm 94))]),false),(iA 11 (.alloc [(.str []),zI,zI,zI,zB,.aB,.aB]),true),(iS 7 11 95,true)]
def Aq:Rg:=[iM 96 0,iA 97 (.call 4 [(Tm 96),(Ci 3)]),iC 98 .eql 97 0]
def Ar:Rg:=[iM 100 0,iA 101 (.call 4 [(Tm 100),(Ci 6)]),iA 102 (.bin .add (Ci 2) (Tm 101)),iA 103 (.call 50 [(Ci 1),(Tm 102)]),iM 99 103,iE 104 99 0,iE 105 99 1,iF 106 4 11,iS 3 106 104]
def QF:Rd:=[(iM 107 1,true),(iM 108 1,false),(iA 109 (.a5M (Tm 108)),false),(iF 110 3 109,false),(iL 111 110,false),(iO 112 7 11,false),(iA 113 (.a5F true 7 1 [(.str []),zI,zI,zI,zB,.aB,.aB] [(0,(Tm 112))]),false),(iA 114 (.append 7 96 (Tm 111) (Tm 113)),true),(iA 115 (.a5M (Tm 107)),false),(iF 116 3 115,false),(iS 1 116 114,true)]
def QG:Rg:=[iM 117 0,iM 118 1,iM 119 1,iA 120 (.a5M (Tm 119)),iF 121 3 120,iL 122 121,iN 123 122,iC 124 .sub 123 1,iM 125 3,iA 126 (.call 7 [(Tm 117),(Tm 118),(Tm 124),(Tm 125)])]
def vS:Rg:=[iM 29 10,iC 30 .add 29 1,iM 10 30]
def vQ:aC:=(.seq (sq an (.cond (Tm 28) .skip (.exit 0))) (.seq (.block 1 (.seq (sq ao (.cond (Tm 32) (.seq (sq Oa (.cond (Tm 39) (dq Ob (.draw Oc)) .skip)) (.exit 1)) .skip)) (.seq (sq Ao (.cond (Tm 78) .ret .skip)) (dq Ap (.seq (sq Aq (.cond (Tm 98) (.region Ar) .skip)) (dq QF (.region QG))))))) (.region vS)))
def xE:aC:=(sq N6 (sq N7 (.seq (sq N8 (.cond (Tm 25) (.region N9) .skip)) (sq JC (.block 0 (.loop vQ))))))
def aGA:List Nat:=[60,81,113]
def ko:aS:=⟨4,127,xE,[]⟩
def Af:Rg:=[iA 6 (.alloc [zI,.aB,.aB,.aB,.aB,.aB,.aB])]
def Ag:Rg:=[iM 20 0,iA 21 (.call 4 [(Tm 20),(Ci 2)]),iA 22 (.bin .add (Ci 1) (Tm 21)),iA 23 (.build [zI,.aB,.aB,.aB,.aB,.aB,.aB] [(0,1,(Tm 22))]),iA 7 (.alloc [zI,.aB,.aB,.aB,.aB,.aB,.aB]),iS 7 7 23]
def Ah:Rg:=[iM 24 0,iA 25 (.call 4 [(Tm 24),(Ci 2)]),iA 26 (.bin .add (Ci 1) (Tm 25)),iM 8 26]
def Ai:Rg:=[iI 9 0]
def Aj:Rg:=[iM 27 9,iM 28 8,iB 29 .lss 27 28]
def Ak:Rg:=[iM 32 0,iA 33 (.call 2 [(Tm 32),(Ci 2)]),iA 10 (.alloc [(.str []),.aB,.aB,.aB]),iS 4 10 33]
def Al:Rg:=[iM 34 9,iA 35 (.call 29 [(.const (.str [108,97,119])),(Tm 34)]),iF 36 0 10,iS 1 36 35]
def Am:Rg:=[iF 37 1 7,iL 38 37,iO 39 4 10,iA 40 (.a5F true 4 1 [(.str []),.aB,.aB,.aB] [(0,(Tm 39))]),iA 41 (.append 4 88 (Tm 38) (Tm 40)),iF 42 1 7,iS 1 42 41]
def An:Rg:=[iM 30 9,iC 31 .add 30 1,iM 9 31]
def QE:aC:=(.seq (sq Aj (.cond (Tm 29) .skip (.exit 0))) (.seq (.block 1 (sq Ak (sq Al (.region Am)))) (.region An)))
def jx:Rg:=[iM 43 0,iA 44 (.call 4 [(Tm 43),(Ci 2)]),iA 45 (.bin .add (Ci 1) (Tm 44)),iM 11 45]
def jy:Rg:=[iI 12 0]
def jz:Rg:=[iM 46 12,iM 47 11,iB 48 .lss 46 47]
def j2:Rd:=[(iF 51 2 7,true),(iL 52 51,true),(iM 53 12,false),(iA 54 (.call 29 [(.const (.str [109])),(Tm 53)]),true),(iM 55 0,true),(iA 56 (.call 4 [(Tm 55),(Ci 4)]),true),(iA 57 (.bin .add (Ci 1) (Tm 56)),true),(iM 58 0,true),(iA 59 (.call 4 [(Tm 58),(Ci 8)]),true),(iA 60 (.bin .add (Ci 1) (Tm 59)),true),(iM 61 0,true),(iF 62 1 7,true),(iL 63 62,true),(iN 64 63,true),(iK2 65 4 61 64,true),(iA 66 (.build [(.str []),zI,zI,zI] [(0,1,(Tm 54)),(1,1,(Tm 57)),(2,1,(Tm 60)),(3,1,(Tm 65))]),false),(iA 67 (.a5F true 4 1 [(.str []),zI,zI,zI] [(0,(Tm 66))]),false),(iA 68 (.append 4 40 (Tm 52) (Tm 67)),true),(iF 69 2 7,false)]
def j3:Rd:=[(iS 1 69 68,true)]
def j4:Rg:=[iM 49 12,iC 50 .add 49 1,iM 12 50]
def IR:aC:=(.seq (sq jz (.cond (Tm 48) .skip (.exit 2))) (.seq (.block 3 (dq j2 (.draw j3))) (.region j4)))
def j5:Rg:=[iA 70 (.call 47 [(Ci 0)]),iA 71 (.build [(.str []),zI,zI,zI,zB,.aB,.aB] [(2,1,(Ci (-1))),(4,3,(Tm 70))]),iA 72 (.a5F false 7 1 [(.str []),zI,zI,zI,zB,.aB,.aB] [(0,(Tm 71))]),iF 73 3 7,iS 1 73 72]
def j6:Rg:=[iM 74 0,iM 75 1,iA 76 (.call 7 [(Tm 74),(Tm 7),(Ci 0),(Tm 75)])]
def j7:Rg:=[iM 77 0,iA 78 (.call 4 [(Tm 77),(Ci 2)]),iA 79 (.bin .add (Ci 1) (Tm 78)),iM 13 79]
def j8:Rg:=[iI 14 0]
def j9:Rg:=[iM 80 14,iM 81 13,iB 82 .lss 80 81]
def IU:Rg:=[iM 85 14,iA 86 (.call 29 [(.const (.str [112])),(Tm 85)]),iM 87 0,iA 88 (.call 4 [(Tm 87),(Ci 2)]),iA 89 (.bin .add (Ci 1) (Tm 88)),iM 90 0,iA 91 (.call 4 [(Tm 90),(Ci 3)]),iM 92 0,iA 93 (.call 4 [(Tm 92),(Ci 4)]),iA 94 (.bin .add (Ci 1) (Tm 93)),iK 95 47 94,iA 96 (.build [(.str []),zI,zI,zI,zI,zI,zI,zI,zI,.aB,.aB,zB,.aB,.aB,zB,.aB,.aB] [(0,1,(Tm 86)),(1,1,(Tm 89)),(2,1,(Tm 91)),(14,3,(Tm 95))]),iA 15 (.alloc [(.str []),zI,zI,zI,zI,zI,zI,zI,zI,.aB,.aB,zB,.aB,.aB,zB,.aB,.aB]),iS 17 15 96]
def wZ:Rd:=[(iF 97 1 15,true),(iL 98 97,true),(iM 99 0,false),(iF 100 2 15,false),(iL 101 100,false),(iC 102 .add 101 1,false),(iK2 103 4 99 102,true),(iB 104 .add 98 103,false),(iF 105 3 15,false)]
def xA:Rd:=[(iS 1 105 104,true)]
def xB:Rg:=[iM 106 0,iF 107 2 15,iL 108 107,iK2 109 5 106 108,iF 110 10 15,iS 1 110 109]
def xC:Rg:=[iM 112 0,iA 113 (.call 4 [(Tm 112),(Ci 9)]),iA 114 (.call 50 [(Tm 113),(Ci 8)]),iM 111 114,iE 115 111 0,iE 116 111 1,iF 117 11 15,iS 3 117 115]
def IV:Rg:=[iI 16 1]
def ka:Rg:=[iM 118 16,iC 119 .lss 118 5]
def kb:Rg:=[iM 122 0,iA 123 (.call 4 [(Tm 122),(Ci 3)]),iC 124 .eql 123 0]
def kc:Rg:=[iM 125 16,iM 126 0,iA 127 (.call 4 [(Tm 126),(Ci 3)]),iA 128 (.bin .add (Ci 1) (Tm 127)),iF 129 4 15,iA 130 (.idxA 5 1 (Tm 129) (Tm 125)),iS 1 130 128]
def IW:Rg:=[iM 120 16,iC 121 .add 120 1,iM 16 121]
def wY:aC:=(.seq (sq ka (.cond (Tm 119) .skip (.exit 6))) (.seq (.block 7 (sq kb (.cond (Tm 124) (.region kc) .skip))) (.region IW)))
def IX:Rg:=[iM 131 0,iM 132 11,iK2 133 4 131 132,iM 17 133]
def IY:Rg:=[iM 134 17,iA 135 (.a5F false 1 1 [zI] [(0,(Tm 134))]),iF 136 9 15,iS 1 136 135]
def IZ:Rg:=[iM 137 11,iC 138 .gtr 137 1,iM 139 138,gM 140 0 139 true,iG 141 (.call 4 [(Tm 140),(Ci 2)]) 139 true,gC 142 .eql 141 0 139 true,iP 143 139 142]
def JA:Rg:=[iF 144 9 15,iL 145 144,iM 146 17,iA 147 (.bin .sub (Ci 1) (Tm 146)),iA 148 (.a5F true 1 1 [zI] [(0,(Tm 147))]),iA 149 (.append 1 8 (Tm 145) (Tm 148)),iF 150 9 15,iS 1 150 149]
def xD:Rg:=[iF 151 5 7,iL 152 151,iO 153 17 15,iA 154 (.a5F true 17 1 [(.str []),zI,zI,zI,zI,zI,zI,zI,zI,.aB,.aB,zB,.aB,.aB,zB,.aB,.aB] [(0,(Tm 153))]),iA 155 (.append 17 240 (Tm 152) (Tm 154)),iF 156 5 7,iS 1 156 155]
def kd:Rg:=[iM 83 14,iC 84 .add 83 1,iM 14 84]
def IS:aC:=(.seq (sq j9 (.cond (Tm 82) .skip (.exit 4))) (.seq (.block 5 (sq IU (.seq (dq wZ (.draw xA)) (sq xB (sq xC (.seq (sq IV (.block 6 (.loop wY))) (sq IX (sq IY (.seq (sq IZ (.cond (Tm 143) (.region JA) .skip)) (.region xD)))))))))) (.region kd)))
def kf:Rg:=[iM 157 0,iM 158 2,iC 159 .add 158 1,iK2 160 4 157 159,iM 18 160]
def kg:Rg:=[iI 19 0]
def kh:Rg:=[iM 161 19,iM 162 18,iB 163 .lss 161 162]
def ki:Rd:=[(iF 166 6 7,true),(iL 167 166,true),(iM 168 19,false),(iA 169 (.call 29 [(.const (.str [118])),(Tm 168)]),true),(iM 170 0,true),(iF 171 5 7,true),(iL 172 171,true),(iN 173 172,true),(iK2 174 4 170 173,true),(iA 175 (.build [(.str []),zI] [(0,1,(Tm 169)),(1,1,(Tm 174))]),false),(iA 176 (.a5F true 2 1 [(.str []),zI] [(0,(Tm 175))]),false),(iA 177 (.append 2 24 (Tm 167) (Tm 176)),true),(iF 178 6 7,false)]
def kj:Rd:=[(iS 1 178 177,true)]
def kk:Rg:=[iM 164 19,iC 165 .add 164 1,iM 19 165]
def IT:aC:=(.seq (sq kh (.cond (Tm 163) .skip (.exit 8))) (.seq (.block 9 (dq ki (.draw kj))) (.region kk)))
def kn:Rg:=[iO 179 7 7,iS 7 6 179]
def CS:aC:=(sq Af (sq Ag (sq Ah (.seq (sq Ai (.block 0 (.loop QE))) (sq jx (.seq (sq jy (.block 2 (.loop IR))) (sq j5 (sq j6 (sq j7 (.seq (sq j8 (.block 4 (.loop IS))) (sq kf (.seq (sq kg (.block 8 (.loop IT))) (sq kn .ret)))))))))))))
def atC:List Nat:=[40,67,148,154,176]
def jw:aS:=⟨3,180,CS,[.cell 6 (some 7)]⟩
def z8:Rg:=[iA 6 (.alloc [zI,.aB,.aB,.aB,.aB,.aB,.aB])]
def Aa:Rg:=[iM 7 0,iK 8 28 7,iM 9 1,iM 10 2,iA 11 (.call 0 [(Tm 8),(Tm 9),(Tm 10)]),iS 7 6 11]
def CQ:aC:=(sq z8 (sq Aa .ret))
def atB:List Nat:=[]
def js:aS:=⟨3,12,CQ,[.cell 6 (some 7)]⟩
def aGG:Rg:=[iA 3 (.box true (Tm 1)),iZ 4]
def aGH:Rg:=[iM 7 0,iA 8 (.call 4 [(Tm 7),(Ci 4)]),iC 9 .eql 8 0]
def aGI:Rg:=[iZ 4]
def aGJ:Rg:=[iZ 5]
def aGK:Rg:=[iI 6 0]
def aGL:Rg:=[iM 10 6,iF 11 4 3,iL 12 11,iN 13 12,iB 14 .lss 10 13]
def aGM:Rg:=[iM 17 5,iM 18 0,iA 19 (.call 4 [(Tm 18),(Ci 7)]),iC 20 .sub 19 1,iA 21 (.a5F true 1 1 [zI] [(0,(Tm 20))]),iA 22 (.append 1 8 (Tm 17) (Tm 21)),iM 5 22]
def aGN:Rg:=[iM 15 6,iC 16 .add 15 1,iM 6 16]
def aGF:aC:=(.seq (sq aGL (.cond (Tm 14) .skip (.exit 0))) (.seq (.block 1 (.region aGM)) (.region aGN)))
def aGO:Rg:=[iM 23 5,iM 4 23]
def alH:aC:=(sq aGG (.seq (sq aGH (.cond (Tm 9) (sq aGI .ret) .skip)) (sq aGJ (.seq (sq aGK (.block 0 (.loop aGF))) (sq aGO .ret)))))
def aZD:aS:=⟨2,24,alH,[.tmp 4]⟩
def akU:Rg:=[iA 3 (.box true (Tm 1)),iZ 4]
def akV:Rg:=[iZ 5]
def akW:Rg:=[iI 6 0]
def akX:Rg:=[iM 11 6,iF 12 6 3,iL 13 12,iN 14 13,iB 15 .lss 11 14]
def akY:Rg:=[iZ 7]
def akZ:Rg:=[iM 18 0,iF 19 4 3,iL 20 19,iN 21 20,iC 22 .add 21 1,iK2 23 4 18 22,iM 8 23]
def alA:Rg:=[iI 9 0]
def alB:Rg:=[iM 24 9,iO 25 7 3,iM 26 6,iK2 27 82 25 26,iB 28 .lss 24 27]
def alC:Rg:=[iI 10 (-1)]
def alD:Rg:=[iF 31 4 3,iL 32 31,iN 33 32,iC 34 .gtr 33 0]
def Vn:Rg:=[iM 35 8,iM 36 9,iB 37 .add 35 36,iF 38 4 3,iL 39 38,iN 40 39,iB 41 .rem 37 40,iM 10 41]
def Vo:Rg:=[iM 42 0,iA 43 (.call 4 [(Tm 42),(Ci 6)])]
def Vp:Rg:=[iC 45 .eql 43 0,iM 44 45]
def Vq:Rg:=[iM 46 0,iF 47 4 3,iL 48 47,iN 49 48,iK2 50 4 46 49,iM 10 50]
def Vs:Rg:=[iC 52 .eql 43 1,iM 51 52]
def Vt:Rg:=[iM 53 0,iF 54 4 3,iL 55 54,iN 56 55,iC 57 .add 56 1,iK2 58 4 53 57,iC 59 .sub 58 1,iM 10 59]
def Vu:Rg:=[iM 60 7,iM 61 10,iA 62 (.a5F true 1 1 [zI] [(0,(Tm 61))]),iA 63 (.append 1 8 (Tm 60) (Tm 62)),iM 7 63]
def Vv:Rg:=[iM 29 9,iC 30 .add 29 1,iM 9 30]
def Vl:aC:=(.seq (sq alB (.cond (Tm 28) .skip (.exit 2))) (.seq (.block 3 (sq alC (.seq (sq alD (.cond (Tm 34) (sq Vn (sq Vo (.block 4 (sq Vp (.cond (Tm 44) (.region Vq) (sq Vs (.cond (Tm 51) (.region Vt) .skip))))))) .skip)) (.region Vu)))) (.region Vv)))
def Vw:Rg:=[iM 64 5,iM 65 7,iA 66 (.a5F true 1 1 [.aB] [(0,(Tm 65))]),iA 67 (.append 1 24 (Tm 64) (Tm 66)),iM 5 67]
def Vx:Rg:=[iM 16 6,iC 17 .add 16 1,iM 6 17]
def Vm:aC:=(.seq (sq akX (.cond (Tm 15) .skip (.exit 0))) (.seq (.block 1 (sq akY (sq akZ (.seq (sq alA (.block 2 (.loop Vl))) (.region Vw))))) (.region Vx)))
def Vy:Rg:=[iM 68 5,iM 4 68]
def Oj:aC:=(sq akU (sq akV (.seq (sq akW (.block 0 (.loop Vm))) (sq Vy .ret))))
def aPO:aS:=⟨2,69,Oj,[.tmp 4]⟩
def aHW:Rg:=[iA 2 (.box true (Tm 0)),iI 4 0]
def aHX:Rd:=[(iF 6 5 2,false),(iL 7 6,false),(iF 8 6 2,false),(iL 9 8,false),(iM 10 1,false),(iX 11 2 9 10,false),(iF 12 1 11,false),(iL 13 12,false),(iX 14 17 7 13,false),(iO 15 17 14,false),(iA 5 (.alloc [(.str []),zI,zI,zI,zI,zI,zI,zI,zI,.aB,.aB,zB,.aB,.aB,zB,.aB,.aB]),true),(iS 17 5 15,true)]
def aHY:Rg:=[iF 16 1 5,iL 17 16,iF 18 2 5,iL 19 18,iB 20 .add 17 19,iM 4 20]
def amS:aC:=(sq aHW (dq aHX (sq aHY .ret)))
def aZG:aS:=⟨2,21,amS,[.tmp 4]⟩
def Tf:Rg:=[iZ 2]
def Tg:Rg:=[iM 4 0,iN 5 4,iM 3 5]
def Th:Rg:=[iM 6 3,iC 7 .gtr 6 0,iM 8 7,gM 9 0 8 true,gM 10 3 8 true,gC 11 .sub 10 1 8 true,iG 12 (.a5Q 1 (Tm 9) (Tm 11)) 8 true,gL 13 12 8 true,iG 14 (.bin .eql (Tm 13) (.const (.int .u32 0))) 8 true,iP 15 8 14]
def Ti:Rg:=[iM 16 3,iC 17 .sub 16 1,iM 3 17]
def Td:aC:=(.seq (sq Th (.cond (Tm 15) .skip (.exit 0))) (.block 1 (.region Ti)))
def de:Rg:=[iM 18 0,iM 19 3,iA 20 (.slice 1 (Tm 18) none (some (Tm 19)) none),iA 21 (.append 1 4 (.const .aB) (Tm 20)),iM 2 21]
def LW:aC:=(sq Tf (sq Tg (.seq (.block 0 (.loop Td)) (sq de .ret))))
def aLX:List Nat:=[]
def G7:aS:=⟨1,22,LW,[.tmp 2]⟩
def S3:Rg:=[iZ 2]
def S4:Rg:=[iM 3 0,iA 4 (.conv .u32 (Tm 3)),iM 5 0,iA 6 (.bin .shr (Tm 5) (.const (.int .u64 32))),iA 7 (.conv .u32 (Tm 6)),iA 8 (.a5F true 1 2 [(.int .u32 0)] [(0,(Tm 4)),(1,(Tm 7))]),iK 9 38 8,iM 2 9]
def LJ:aC:=(sq S3 (sq S4 .ret))
def aLP:List Nat:=[8]
def G5:aS:=⟨1,10,LJ,[.tmp 2]⟩
def Dm:Rg:=[iT 2 false]
def Dn:Rg:=[iM 3 0,iK 4 38 3,iN 5 4,iC 6 .gtr 5 512,iM 2 6]
def EF:aC:=(sq Dm (sq Dn .ret))
def aAX:List Nat:=[]
def oj:aS:=⟨1,7,EF,[.tmp 2]⟩
def aeE:Rg:=[iI 4 0]
def aeF:Rg:=[iM 6 0,iK 7 38 6,iM 8 1,iK 9 38 8,iM 0 7,iM 1 9]
def aeG:Rg:=[iM 10 0,iN 11 10,iM 12 1,iN 13 12,iB 14 .neq 11 13]
def aeH:Rg:=[iM 15 0,iN 16 15,iM 17 1,iN 18 17,iB 19 .lss 16 18]
def aeI:Rg:=[iI 4 (-1)]
def aeJ:Rg:=[iI 4 1]
def aeK:Rg:=[iM 20 0,iN 21 20,iC 22 .sub 21 1,iM 5 22]
def aeL:Rg:=[iM 23 5,iC 24 .geq 23 0]
def aeM:Rd:=[(iM 27 0,false),(iM 28 5,false),(iX 29 1 27 28,false),(iL 30 29,false),(iM 31 1,false),(iM 32 5,false),(iX 33 1 31 32,false),(iL 34 33,false),(iB 35 .lss 30 34,false)]
def aeN:Rg:=[iI 4 (-1)]
def Sm:Rd:=[(iM 36 0,false),(iM 37 5,false),(iX 38 1 36 37,false),(iL 39 38,false),(iM 40 1,false),(iM 41 5,false),(iX 42 1 40 41,false),(iL 43 42,false),(iB 44 .gtr 39 43,false)]
def Sn:Rg:=[iI 4 1]
def So:Rg:=[iM 25 5,iC 26 .sub 25 1,iM 5 26]
def Sl:aC:=(.seq (sq aeL (.cond (Tm 24) .skip (.exit 0))) (.seq (.block 1 (.seq (dq aeM (.cond (Tm 35) (sq aeN .ret) .skip)) (dq Sm (.cond (Tm 44) (sq Sn .ret) .skip)))) (.region So)))
def Sp:Rg:=[iI 4 0]
def SW:aC:=(sq aeE (sq aeF (.seq (sq aeG (.cond (Tm 14) (.seq (sq aeH (.cond (Tm 19) (sq aeI .ret) .skip)) (sq aeJ .ret)) .skip)) (.seq (sq aeK (.block 0 (.loop Sl))) (sq Sp .ret)))))
def aSS:List Nat:=[]
def aoV:aS:=⟨2,45,SW,[.tmp 4]⟩
def n8:Rg:=[iZ 4,iZ 5]
def n9:Rg:=[iM 20 0,iM 21 1,iK2 22 32 20 21,iC 23 .lss 22 0]
def oa:Rg:=[iM 24 0,iK 25 38 24,iZ 4,iM 5 25]
def oc:Rg:=[iM 26 1,iN 27 26,iC 28 .eql 27 1]
def LE:Rg:=[iM 29 0,iN 30 29,iA 31 (.a5H 1 4 [(.int .u32 0)] (Tm 30) (Tm 30)),iM 6 31]
def LF:Rg:=[iA 7 (.mv (.const (.int .u64 0)))]
def LG:Rg:=[iM 32 0,iN 33 32,iC 34 .sub 33 1,iM 8 34]
def oe:Rg:=[iM 35 8,iC 36 .geq 35 0]
def og:Rg:=[iM 39 7,iA 40 (.bin .shl (Tm 39) (.const (.int .u64 32))),iM 41 0,iM 42 8,iX 43 1 41 42,iL 44 43,iA 45 (.conv .u64 (Tm 44)),iB 46 .or 40 45,iM 9 46]
def oi:Rg:=[iM 47 6,iM 48 8,iM 49 9,iM 50 1,iA 51 (.a5Q 1 (Tm 50) (Ci 0)),iL 52 51,iA 53 (.conv .u64 (Tm 52)),iB 54 .quo 49 53,iA 55 (.conv .u32 (Tm 54)),iX 56 1 47 48,iS 1 56 55]
def XM:Rg:=[iM 57 9,iM 58 1,iA 59 (.a5Q 1 (Tm 58) (Ci 0)),iL 60 59,iA 61 (.conv .u64 (Tm 60)),iB 62 .rem 57 61,iM 7 62]
def XN:Rg:=[iM 37 8,iC 38 .sub 37 1,iM 8 38]
def DS:aC:=(.seq (sq oe (.cond (Tm 36) .skip (.exit 0))) (.seq (.block 1 (sq og (sq oi (.region XM)))) (.region XN)))
def DT:Rg:=[iM 63 6,iK 64 38 63,iM 65 7,iK 66 35 65,iM 4 64,iM 5 66]
def XO:Rg:=[iM 67 1,iN 68 67,iA 69 (.bin .mul (Ci 32) (Tm 68)),iM 70 1,iK 71 31 70,iB 72 .sub 69 71,iM 10 72]
def XP:Rg:=[iM 73 0,iM 74 10,iK2 75 45 73 74,iA 76 (.a5F true 1 2 [(.int .u32 0)] [(0,(.const (.int .u32 0))),(1,(.const (.int .u32 0)))]),iA 77 (.append 1 4 (Tm 75) (Tm 76)),iM 78 1,iM 79 10,iK2 80 45 78 79,iM 11 77,iM 12 80]
def DU:Rg:=[iM 81 11,iM 82 0,iM 83 10,iK2 84 45 82 83,iN 85 84,iC 86 .add 85 1,iA 87 (.slice 1 (Tm 81) none (some (Tm 86)) none),iM 11 87]
def DW:Rg:=[iM 88 12,iM 89 12,iN 90 89,iC 91 .sub 90 1,iX 92 1 88 91,iL 93 92,iA 94 (.conv .u64 (Tm 93)),iM 13 94]
def DX:Rg:=[iM 95 11,iN 96 95,iM 97 12,iN 98 97,iB 99 .sub 96 98,iA 100 (.a5H 1 4 [(.int .u32 0)] (Tm 99) (Tm 99)),iM 14 100]
def DY:Rg:=[iM 101 14,iN 102 101,iC 103 .sub 102 1,iM 15 103]
def XQ:Rg:=[iM 104 15,iC 105 .geq 104 0]
def XR:Rd:=[(iM 108 11,false),(iM 109 15,false),(iM 110 12,false),(iN 111 110,false),(iB 112 .add 109 111,false),(iX 113 1 108 112,false),(iL 114 113,false),(iA 115 (.conv .u64 (Tm 114)),false),(iA 116 (.bin .shl (Tm 115) (.const (.int .u64 32))),false),(iM 117 11,false),(iM 118 15,false),(iM 119 12,false),(iN 120 119,false),(iB 121 .add 118 120,false),(iC 122 .sub 121 1,false),(iX 123 1 117 122,false),(iL 124 123,false),(iA 125 (.conv .u64 (Tm 124)),false),(iB 126 .or 116 125,false),(iM 16 126,false)]
def XS:Rg:=[iM 127 16,iM 128 13,iB 129 .quo 127 128,iM 17 129]
def XT:Rg:=[iM 130 17,iA 131 (.bin .gtr (Tm 130) (.const (.int .u64 4294967295)))]
def XU:Rg:=[iA 17 (.mv (.const (.int .u64 4294967295)))]
def XV:Rd:=[(iM 132 12,true),(iM 133 17,false),(iK 134 35 133,true),(iK2 135 44 132 134,true),(iM 136 11,true),(iM 137 15,true),(iM 138 15,true),(iM 139 12,true),(iN 140 139,true),(iB 141 .add 138 140,true),(iC 142 .add 141 1,true),(iA 143 (.slice 1 (Tm 136) (some (Tm 137)) (some (Tm 142)) none),true),(iA 144 (.append 1 4 (.const .aB) (Tm 143)),true),(iK2 145 32 135 144,true),(iC 146 .gtr 145 0,false)]
def XW:Rg:=[iM 147 17,iA 148 (.bin .sub (Tm 147) (.const (.int .u64 1))),iM 17 148]
def uY:aC:=(.seq (dq XV (.cond (Tm 146) .skip (.exit 4))) (.block 5 (.region XW)))
def DZ:Rg:=[iM 149 11,iM 150 15,iM 151 15,iM 152 12,iN 153 152,iB 154 .add 151 153,iC 155 .add 154 1,iA 156 (.slice 1 (Tm 149) (some (Tm 150)) (some (Tm 155)) none),iA 157 (.append 1 4 (.const .aB) (Tm 156)),iM 158 12,iM 159 17,iK 160 35 159,iK2 161 44 158 160,iK2 162 42 157 161,iM 18 162]
def EA:Rg:=[iI 19 0]
def XY:Rg:=[iM 163 19,iM 164 12,iN 165 164,iB 166 .leq 163 165]
def XZ:Rg:=[iM 169 11,iM 170 15,iM 171 19,iB 172 .add 170 171,iX 173 1 169 172,⟨none,.store 1 (Tm 173) (.const (.int .u32 0)),none⟩]
def YA:Rg:=[iM 174 19,iM 175 18,iN 176 175,iB 177 .lss 174 176]
def YB:Rg:=[iM 178 11,iM 179 15,iM 180 19,iB 181 .add 179 180,iM 182 18,iM 183 19,iX 184 1 182 183,iL 185 184,iX 186 1 178 181,iS 1 186 185]
def EB:Rg:=[iM 167 19,iC 168 .add 167 1,iM 19 168]
def uZ:aC:=(.seq (sq XY (.cond (Tm 166) .skip (.exit 6))) (.seq (.block 7 (sq XZ (sq YA (.cond (Tm 177) (.region YB) .skip)))) (.region EB)))
def EC:Rg:=[iM 187 14,iM 188 15,iM 189 17,iA 190 (.conv .u32 (Tm 189)),iX 191 1 187 188,iS 1 191 190]
def ED:Rg:=[iM 106 15,iC 107 .sub 106 1,iM 15 107]
def vC:aC:=(.seq (sq XQ (.cond (Tm 105) .skip (.exit 2))) (.seq (.block 3 (dq XR (sq XS (.seq (sq XT (.cond (Tm 131) (.region XU) .skip)) (.seq (.block 4 (.loop uY)) (sq DZ (.seq (sq EA (.block 6 (.loop uZ))) (.region EC)))))))) (.region ED)))
def EE:Rg:=[iM 192 14,iK 193 38 192,iM 194 11,iK 195 38 194,iM 196 10,iK2 197 40 195 196,iM 4 193,iM 5 197]
def AF:aC:=(sq n8 (.seq (sq n9 (.cond (Tm 23) (sq oa .ret) .skip)) (.seq (sq oc (.cond (Tm 28) (sq LE (sq LF (.seq (sq LG (.block 0 (.loop DS))) (sq DT .ret)))) .skip)) (sq XO (sq XP (sq DU (sq DW (sq DX (.seq (sq DY (.block 2 (.loop vC))) (sq EE .ret))))))))))
def aoY:List Nat:=[76]
def VD:aS:=⟨2,198,AF,[.tmp 4,.tmp 5]⟩
def aeP:Rg:=[iZ 4,iZ 5,iI 6 0]
def aeQ:Rg:=[iM 9 0,iK 10 41 9,iM 11 10,gM 12 1 11 false,gK 13 41 12 11 false,iQ 14 11 13]
def wh:Rg:=[iZ 4,iZ 5,iI 6 2]
def aeR:Rg:=[iM 15 1,iK 16 38 15,iN 17 16,iC 18 .eql 17 0]
def aeS:Rg:=[iZ 4,iZ 5,iI 6 3]
def aeT:Rg:=[iM 20 0,iK 21 38 20,iM 22 1,iK 23 38 22,iK2 24 39 21 23,iM 19 24,iE 25 19 0,iE 26 19 1,iM 7 25,iM 8 26]
def aeU:Rg:=[iM 27 7,iM 28 8,iM 4 27,iM 5 28,iI 6 0]
def SX:aC:=(sq aeP (.seq (sq aeQ (.cond (Tm 14) (sq wh .ret) .skip)) (.seq (sq aeR (.cond (Tm 18) (sq aeS .ret) .skip)) (sq aeT (sq aeU .ret)))))
def aST:List Nat:=[]
def udiv:aS:=⟨2,29,SX,[.tmp 4,.tmp 5,.tmp 6]⟩
def aeX:Rg:=[iZ 4,iI 5 0]
def aeY:Rg:=[iM 10 0,iK 11 41 10,iM 12 11,gM 13 1 12 false,gK 14 41 13 12 false,iQ 15 12 14]
def wj:Rg:=[iZ 4,iI 5 2]
def aeZ:Rg:=[iM 16 0,iK 17 38 16,iM 18 1,iK 19 38 18,iM 6 17,iM 7 19]
def afA:Rg:=[iM 20 7,iN 21 20,iC 22 .gtr 21 0]
def afB:Rg:=[iM 24 6,iM 25 7,iK2 26 39 24 25,iM 23 26,iE 27 23 0,iE 28 23 1,iM 8 27,iM 9 28]
def afC:Rg:=[iM 29 7,iM 30 9,iM 6 29,iM 7 30]
def aeV:aC:=(.seq (sq afA (.cond (Tm 22) .skip (.exit 0))) (.block 1 (sq afB (.region afC))))
def afD:Rg:=[iM 31 6,iM 4 31,iI 5 0]
def TA:aC:=(sq aeX (.seq (sq aeY (.cond (Tm 15) (sq wj .ret) .skip)) (sq aeZ (.seq (.block 0 (.loop aeV)) (sq afD .ret)))))
def aSU:List Nat:=[]
def aoZ:aS:=⟨2,32,TA,[.tmp 4,.tmp 5]⟩
def pn:Rg:=[iA 6 (.alloc [zB,.aB,.aB])]
def po:Rg:=[iM 9 1,iK 10 38 9,iM 11 2,iK 12 38 11,iM 1 10,iM 2 12]
def pq:Rg:=[iM 13 1,iN 14 13,iC 15 .eql 14 0]
def pt:Rg:=[iA 16 (.a5F true 1 1 [(.int .u32 0)] [(0,(.const (.int .u32 1)))]),iA 17 (.build [zB,.aB,.aB] [(2,1,(Tm 16))]),iS 3 6 17]
def pu:Rg:=[iM 19 1,iM 20 2,iK2 21 34 19 20,iM 18 21,iE 22 18 0,iE 23 18 1,iM 7 22,iM 8 23]
def pw:Rg:=[iM 24 7,iN 25 24,iC 26 .gtr 25 1,iM 27 26,gM 28 7 27 false,iG 29 (.a5Q 1 (Tm 28) (Ci 0)) 27 false,gL 30 29 27 false,iG 31 (.bin .gtr (Tm 30) (.const (.int .u32 1))) 27 false,iQ 32 27 31]
def LZ:Rg:=[iM 34 1,iM 35 7,iK2 36 33 34 35,iM 33 36,iE 37 33 0,iE 38 33 1,iE 39 33 2,iM 1 37]
def MA:Rg:=[iM 41 2,iM 42 7,iK2 43 33 41 42,iM 40 43,iE 44 40 0,iE 45 40 1,iE 46 40 2,iM 2 44]
def xO:Rg:=[iM 47 0,iM 48 1,iM 49 2,iA 50 (.build [zB,.aB,.aB] [(0,1,(Tm 47)),(1,1,(Tm 48)),(2,1,(Tm 49))]),iS 3 6 50]
def AH:aC:=(sq pn (sq po (.seq (sq pq (.cond (Tm 15) (sq pt .ret) .skip)) (.seq (sq pu (sq pw (.cond (Tm 32) (sq LZ (.region MA)) .skip))) (sq xO .ret)))))
def apK:List Nat:=[16]
def VH:aS:=⟨3,51,AH,[.cell 6 (some 3)]⟩
def Uc:Rg:=[iA 2 (.mv (.const (.int .u64 0)))]
def Ud:Rg:=[iM 3 0,iC 4 .lss 3 0]
def Ue:Rg:=[iM 5 0,iC 6 .add 5 1,iA 7 (.un .neg (Tm 6)),iA 8 (.conv .u64 (Tm 7)),iA 9 (.bin .add (Tm 8) (.const (.int .u64 1))),iM 2 9]
def Uf:Rg:=[iM 10 0,iA 11 (.conv .u64 (Tm 10)),iM 2 11]
def MF:aC:=(sq Uc (.seq (sq Ud (.cond (Tm 4) (sq Ue .ret) .skip)) (sq Uf .ret)))
def aMF:List Nat:=[]
def Hi:aS:=⟨1,12,MF,[.tmp 2]⟩
def T0:Rg:=[iA 4 (.alloc [zB,.aB,.aB]),iI 5 0]
def T1:Rg:=[iM 6 1,iC 7 .eql 6 0]
def T2:Rg:=[iA 8 (.build [zB,.aB,.aB] []),iS 3 4 8,iI 5 3]
def T3:Rg:=[iM 9 0,iC 10 .lss 9 0,iM 11 1,iC 12 .lss 11 0,iA 13 (.eqb true (Tm 10) (Tm 12)),iM 14 0,iK 15 59 14,iK 16 35 15,iM 17 1,iK 18 59 17,iK 19 35 18,iA 20 (.call 58 [(Tm 13),(Tm 16),(Tm 19)]),iS 3 4 20,iI 5 0]
def MB:aC:=(sq T0 (.seq (sq T1 (.cond (Tm 7) (sq T2 .ret) .skip)) (sq T3 .ret)))
def aMC:List Nat:=[]
def p4:aS:=⟨2,21,MB,[.cell 4 (some 3),.tmp 5]⟩
def agF:Rg:=[iA 2 (.alloc [zB,.aB,.aB])]
def agG:Rg:=[iM 6 0,iA 7 (.call 50 [(Tm 6),(Ci 1)]),iM 5 7,iE 8 5 0,iE 9 5 1,iA 3 (.alloc [zB,.aB,.aB]),iS 3 3 8,iM 4 9]
def agH:Rg:=[iO 10 3 3,iS 3 2 10]
def TM:aC:=(sq agF (sq agG (sq agH .ret)))
def aTA:List Nat:=[]
def apJ:aS:=⟨1,11,TM,[.cell 2 (some 3)]⟩
def utF (xs:List Nat) (n:Nat):PF:=((PF.nil.set 0 (aI xs)).set 3 (.int .i64 n))
theorem Te {C:Ctx} (xs:List Nat) (K:Lim xs) (M:xs.length≤35184372087808):LW.wp C (aV G7.res (oO 1 (aL (aH (val xs))))) (PF.args [aI xs]) .nil:=by
 simp only[go_sem,LW,Tf,Tg,G7,a6K];refine wp_loop (α:=Nat) (fun n=>utF xs n) (fun _=>.nil) (fun n=>n≤xs.length∧∀ j x,n≤j→xs[j]?=some x→x=0) (fun n=>n) xs.length ⟨a6S _,fun j x u d=>?_⟩ ?_ a_ ?_
 ·rw[a7Z u] at d; cases d
 ·unfold utF;exact Lq
 rintro n ⟨H,A⟩;have done:(0<n→∀ h:n-1<xs.length,xs[n-1]≠0)→∀ F:PF,(utF xs n).le F→aC.wp C (.seq (.region de) .ret) (aV [.tmp 2] (oO 1 (aL (aH (val xs))))) F .nil:=by
  intro h F q;have f0:F 0=some (aI xs):=q 0 _ (by unfold utF; simp only[go_sem]);have B:F 3=some (.int .i64 n):=q 3 _ (by unfold utF; simp only[go_sem]);have w:xs.take n=aH (val xs):=KZ K H A fun x l d=>by
   rw[a6Y Om] at d;injection d with d
   subst d;exact h l Om
  have E:((n:Nat):Int)≤(xs.length:Nat):=Om;simp only[go_sem,de,f0,B,a6K,E,or_true,a7W];refine eZ (rows:=[]) (src:=aL (aH (val xs))) .nil ?_ ?_ fun v H' J _=>?_
  ·simp only[go_sem];rw[← w,← List.map_take]
  ·unfold roomFor;rw[bY,← w,a7D];simp only[a9F,maxLen];omega
  ·exact mm (.inr rfl) (by simpa using J) rfl
 simp only[aC.wp,go_sem] at done;simp only[go_sem,Td,Th,utF];by_cases l:0<n
 ·have i:((n:Nat):Int)>0:=Om;have hlt:n-1<xs.length:=Om;have p:=bS xs hlt;have y:IntKind.i64.wrap ((n:Int)-1)=((n-1:Nat):Int):=wA Om l;simp only[go_sem,i,y,p];by_cases c:xs[n-1]=0
  ·simp only[go_sem,bH (Om:((xs[n-1]:Nat):Int)=0),Ti,y];refine aD (n-1) ⟨by omega,fun j x u d=>?_⟩ Om ?_ a_
   ·by_cases e:j=n-1
    ·subst e;rw[a6Y hlt] at d;injection d with d
     omega
    ·exact A j x Om d
   ·exact Lq
  ·simp only[go_sem,bF (Om:((xs[n-1]:Nat):Int)≠0)];exact done (fun _ _=>c) _ (by unfold utF; exact Lq)
 ·have i:¬ ((n:Nat):Int)>0:=Om;simp only[go_sem,i];exact done (fun h=>absurd h l) _ (by unfold utF; exact Lq)
structure oP (C:Ctx):Prop where
 trimM:∀ xs,Lim xs→xs.length≤35184372087808→aG C 38 [aI xs] .nil (oO 1 (aL (aH (val xs))))
theorem oP.trim {C:Ctx} (L:oP C) (xs:List Nat) (d:Lim xs) (c:xs.length≤35184372087808):aG C 38 [aI xs] .nil (aF (aI (aH (val xs)))):=(L.trimM xs d c).freeze
theorem S1 {C:Ctx} (L:oP C) (v:Nat) (y:v<18446744073709551616):LJ.wp C (aV G5.res (bX (aI (aH v)))) (PF.args [.int .u64 v]) .nil:=by
 have p:IntKind.u32.wrap ((v:Nat):Int)=((v%4294967296:Nat):Int):=cI v;have e:v/4294967296<4294967296:=Om;have q:IntKind.u32.wrap ((v/4294967296:Nat):Int)=((v/4294967296:Nat):Int):=by rw[cI,a7X e]
 have u:Lim [v%4294967296,v/4294967296]:=by
  intro x l;simp only[a6V,List.mem_nil_iff,or_false] at l;rcases l with rfl | rfl
  ·exact a8A _ (by decide)
  ·exact e
 have c:val [v%4294967296,v/4294967296]=v:=by simp only[val,Nat.mul_zero,a8N]; exact Nat.mod_add_div v 4294967296
 have d:shift .shr .u64 (v:Int) 32=some (.int .u64 ((v/4294967296:Nat):Int)):=xL;have w:(2:Nat)*1≤16777216:=by decide
 simp only[go_sem,LJ,S3,S4,G5,p,d,q,w];have i:=L.trim [v%4294967296,v/4294967296] u (by simp);rw[c] at i;refine aA i rfl ?_;simp only[go_sem];exact bA (.inr rfl) .nil rfl a_ ⟨.refl _,rfl⟩
theorem Dl {C:Ctx} (L:oP C) (xs:List Nat) (d:Lim xs) (c:xs.length≤35184372087808):EF.wp C (aV oj.res (bX (.bool (decide (nl (val xs)>512))))) (PF.args [aI xs]) .nil:=by
 simp only[go_sem,EF,Dm,Dn,oj];refine aA (L.trim xs d c) rfl ?_;simp only[go_sem,a6K,bB];refine bD rfl ?_;rw[decide_eq_decide];omega
theorem aiS {a b:Nat} (h:nl a<nl b):dM a b=-1:=by
 have:a<b:=by
  rcases a7H a b with h' | h'
  ·exact h'
  ·have:=fL h'; omega
 simp[dM,this]
theorem aiR {a b:Nat} (h:nl b<nl a):dM a b=1:=by
 have:b<a:=by
  rcases a7H b a with h' | h'
  ·exact h'
  ·have:=fL h'; omega
 have c:¬ a<b:=Om;simp[dM,this,c]
def aoW (X Y:List Nat) (i:Int):PF:=(((PF.nil.set 0 (aI X)).set 1 (aI Y)).set 5 (.int .i64 i))
theorem aeD {C:Ctx} (L:oP C) (xs ys:List Nat) (u:Lim xs) (w:Lim ys) (O:xs.length≤35184372087808) (Q:ys.length≤35184372087808) :
  SW.wp C (aV aoV.res (aF (.int .i64 (dM (val xs) (val ys))))) (PF.args [aI xs,aI ys]) .nil:=by
 simp only[go_sem,SW,aeE,aeF,aoV];refine aA (L.trim xs u O) Ev ?_;simp only[go_sem];refine aA (L.trim ys w Q) Ev ?_;have R:=fD u;have A:=fD w;simp only[go_sem,aeG,a6K,bB];by_cases i:nl (val xs)≠nl (val ys)
 ·simp only[go_sem,dK (show ((nl (val xs):Nat):Int)≠(nl (val ys):Nat) by omega),aeH];by_cases B:nl (val xs)<nl (val ys)
  ·simp only[go_sem,a6K,bB,show ((nl (val xs):Nat):Int)<(nl (val ys):Nat) by omega,aeI];refine aQ (.inr rfl) Ev ?_;rw[aiS B]; rfl
  ·simp only[go_sem,a6K,bB,show ¬ ((nl (val xs):Nat):Int)<(nl (val ys):Nat) by omega,aeJ];refine aQ (.inr rfl) Ev ?_;rw[aiR Om]; rfl
 replace i:=Decidable.of_not_not i;simp only[go_sem,cA (show ((nl (val xs):Nat):Int)=(nl (val ys):Nat) by omega),aeK,a6K,bB];have ex:=aW (val xs);have l:=aW (val ys);have x:=aX (val xs);have y:=aX (val ys);generalize J:aH (val xs)=X at *
 generalize K:aH (val ys)=Y at *
 have M:X.length=nl (val xs):=by rw[← J]; rfl
 have N:Y.length=nl (val xs):=by rw[i,← K]; rfl
 refine wp_loop (α:=Nat) (fun k=>aoW X Y ((k:Int)-1)) (fun _=>.nil) (fun k=>k≤nl (val xs)∧X.drop k=Y.drop k) (fun k=>k) (nl (val xs)) ⟨a6S _,?_⟩ ?_ a_ ?_
 ·rw[baE Om,baE Om]
 ·unfold aoW
  (repeat' (first|exact c_|refine d_ ?_ ?_))<;>first|(simp only[go_sem,wrap_i64 (show -9223372036854775808≤((nl (val xs):Nat):Int)-1 by omega) (show ((nl (val xs):Nat):Int)-1≤9223372036854775807 by omega)]<;>rfl)|rfl
 rintro k ⟨U,c⟩;simp only[go_sem,Sl,aeL,aoW];by_cases S:0<k
 ·obtain⟨m,rfl⟩:∃ m,k=m+1:=⟨k-1,by omega⟩;have q:((m+1:Nat):Int)-1=(m:Int):=Om;have p:(m:Int)≥0:=Om;have d:m<X.length:=Om;have e:m<Y.length:=Om;simp only[go_sem,q,p];refine bV .nil eM a_ ?_;simp only[go_sem,aeM,bS X d,bS Y e];by_cases E:X[m]<Y[m]
  ·simp only[go_sem,show ((X[m]:Nat):Int)<(Y[m]:Nat) by omega,aeN];refine aQ (.inr rfl) Ev ?_;have:=gh x d e c E;rw[ex,l] at this;simp[bO,dM,this]
  ·simp only[go_sem,show ¬ ((X[m]:Nat):Int)<(Y[m]:Nat) by omega];refine bV .nil eM a_ ?_;simp only[go_sem,Sm,bS X d,bS Y e];by_cases F:X[m]>Y[m]
   ·simp only[go_sem,show ((X[m]:Nat):Int)>(Y[m]:Nat) by omega,Sn];refine aQ (.inr rfl) Ev ?_;have:=gh y e d c.symm F;rw[ex,l] at this;have H:¬ val xs<val ys:=Om;simp[bO,dM,this,H]
   ·simp only[go_sem,show ¬ ((X[m]:Nat):Int)>(Y[m]:Nat) by omega,So];refine aD m ⟨by omega,yq d e c Om⟩ Om ?_ a_
    (repeat' (first|exact c_|refine d_ ?_ ?_))<;>first|(simp only[go_sem,wrap_i64 (Om:-9223372036854775808≤(m:Int)-1) (Om:(m:Int)-1≤9223372036854775807)]<;>rfl)|rfl
 ·have:k=0:=Om;subst this;have q:¬ ((0:Nat):Int)-1≥0:=by decide
  simp only[go_sem,q,Sp];refine aQ (.inr rfl) Ev ?_;rw[a7W,a7W] at c;have:val xs=val ys:=by rw[← ex,← l,c]
  simp[bO,dM,this]
theorem BT (n:Nat):(((n:Nat):Int)==0)=decide (n=0):=by
 by_cases h:n=0
 ·subst h; rfl
 ·rw[bF Om,decide_eq_false h]
structure e8 (C:Ctx):Prop extends oP C where
 make:∀ v:Nat,v<18446744073709551616→aG C 35 [.int .u64 v] .nil (aF (aI (aH v)))
 large:∀ xs,Lim xs→xs.length≤35184372087808→aG C 41 [aI xs] .nil (aF (.bool (decide (nl (val xs)>512))))
 cmp:∀ xs ys,Lim xs→Lim ys→xs.length≤35184372087808→ys.length≤35184372087808→aG C 32 [aI xs,aI ys] .nil (aF (.int .i64 (dM (val xs) (val ys))))
def apA (a b:Nat):PF:=((PF.nil.set 6 (aI (aH a))).set 7 (aI (aH b)))
structure NS (C:Ctx):Prop extends e8 C where
 divide:∀ A B:Nat,B≠0→nl A≤512→nl B≤512→aG C 39 [aI (aH A),aI (aH B)] .nil (aF (pC A B))
def ajP (a b:Nat):PV:=if dU a b then .tup [aI [],.int .i64 2] else .tup [aI (aH (a6O a b)),.int .i64 0]
theorem aeW {C:Ctx} (L:NS C) (a b:List Nat) (l:Lim a) (p:Lim b) (u:a.length≤35184372087808) (w:b.length≤35184372087808) :
  TA.wp C (aV aoZ.res (bX (ajP (val a) (val b)))) (PF.args [aI a,aI b]) .nil:=by
 unfold ajP;simp only[go_sem,TA,aeX,aeY,aoZ];refine aA (L.large a l u) rfl ?_;by_cases c:nl (val a)>512
 ·simp only[go_sem,c,wj];rw[if_pos (by simp[dU,c])];exact eJ rfl
 simp only[go_sem,c];refine aA (L.large b p w) rfl ?_;by_cases d:nl (val b)>512
 ·simp only[go_sem,d,wj];rw[if_pos (by simp[dU,d])];exact eJ rfl
 rw[if_neg (by simp[dU,c,d])];simp only[go_sem,d,aeZ];refine aA (L.trim a l u) rfl ?_;simp only[go_sem];refine aA (L.trim b p w) rfl ?_;simp only[go_sem];refine wp_loop (α:=Nat × Nat) (fun t=>apA t.1 t.2) (fun _=>.nil) (fun t=>a6O t.1 t.2=a6O (val a) (val b)∧nl t.1≤512∧nl t.2≤512) (fun t=>t.2) (val a,val b) ⟨rfl,by simp only; omega,by simp only; omega⟩ ?_ a_ ?_
 ·unfold apA;exact Lq
 rintro⟨x,y⟩ ⟨i,A,q⟩;simp only at i A q;simp only[go_sem,aeV,afA,apA,bB];by_cases e:y=0
 ·subst e;have:¬ ((nl 0:Nat):Int)>0:=by rw[yH]; decide
  simp only[go_sem,this,afD];refine bA (vs:=[aI (aH x),.int .i64 0]) (.inr rfl) .nil rfl a_ ⟨?_,rfl⟩;rw[← i,Nat.gcd_zero_right];exact .refl _
 ·have B:nl y≠0:=fun h=>e (gT.1 h);have:((nl y:Nat):Int)>0:=Om;simp only[go_sem,this,afB];refine aA (L.divide x y e Om Om) rfl ?_;simp only[go_sem,pC,afC];have hlt:x%y<y:=a8A _ (a8U e);refine aD (y,x%y) ⟨?_,q,?_⟩ hlt ?_ a_
  ·simp only;rw[← i,Nat.gcd_comm y,← Nat.gcd_rec y x,Nat.gcd_comm]
  ·have:=fL (Nat.le_of_lt hlt);simp only; omega
  ·exact Lq
theorem aeO {C:Ctx} (L:NS C) (a b:List Nat) (p:Lim a) (i:Lim b) (q:a.length≤35184372087808) (l:b.length≤35184372087808) :
  SX.wp C (aV udiv.res (bX (mM (val a) (val b)))) (PF.args [aI a,aI b]) .nil:=by
 unfold mM;simp only[go_sem,SX,aeP,aeQ,udiv];refine aA (L.large a p q) rfl ?_;by_cases d:nl (val a)>512
 ·simp only[go_sem,d,wh];rw[if_pos (by simp[dU,d])];exact rR rfl
 simp only[go_sem,d];refine aA (L.large b i l) rfl ?_;by_cases e:nl (val b)>512
 ·simp only[go_sem,e,wh];rw[if_pos (by simp[dU,e])];exact rR rfl
 rw[if_neg (by simp[dU,d,e])];simp only[go_sem,e,aeR];refine aA (L.trim b i l) rfl ?_;simp only[go_sem,a6K,bB,BT,gT];by_cases c:val b=0
 ·rw[if_pos c];simp only[go_sem,decide_eq_true c,aeS];exact rR rfl
 rw[if_neg c];simp only[go_sem,decide_eq_false c,aeT];refine aA (L.trim a p q) rfl ?_;simp only[go_sem];refine aA (L.trim b i l) rfl ?_;simp only[go_sem];refine aA (L.divide (val a) (val b) c Om Om) rfl ?_;simp only[go_sem,pC,aeU];exact bA (.inr rfl) .nil rfl a_ ⟨.refl _,rfl⟩
def mH (neg:Bool) (a b:Nat):FV:=(neg&&decide (a/a6O a b≠0),a/a6O a b,b/a6O a b)
structure fa (C:Ctx):Prop extends NS C where
 gcd:∀ a b,Lim a→Lim b→a.length≤35184372087808→b.length≤35184372087808→aG C 34 [aI a,aI b] .nil (aF (ajP (val a) (val b)))
 div:∀ a b,Lim a→Lim b→a.length≤35184372087808→b.length≤35184372087808→aG C 33 [aI a,aI b] .nil (aF (mM (val a) (val b)))
theorem sT {n:Nat} (h:nl n≤512):(aH n).length≤35184372087808:=by rw[bB]; omega
theorem vP:aH 1=[1]:=oE (by decide) (by decide)
theorem ji {n:Nat} (h:n≠0):aH n=n%4294967296::aH (n/4294967296):=rQ h
theorem zH {n:Nat} (h:n≠0):(nl n>1∨n%4294967296>1)↔n≠1:=by
 constructor
 ·rintro h1 rfl;rcases h1 with h1 | h1
  ·rw[nl,vP] at h1; simp at h1
  ·omega
 ·intro h1;by_cases c:nl n>1
  ·exact .inl c
  ·have:n<4294967296 ^ 1:=(iJ n 1).1 Om;rw[Nat.pow_one] at this;rw[a7X this];exact .inr Om
theorem pj {C:Ctx} (L:fa C) (neg:Bool) (a b:List Nat) (U:Lim a) (V:Lim b) (Y:a.length≤35184372087808) (Z:b.length≤35184372087808) (u:nl (val a)≤512) (p:nl (val b)≤512) (w:val b≠0) :
  AH.wp C (aV VH.res (bX (.agg (mH neg (val a) (val b)).rf.cells))) (PF.args [.bool neg,aI a,aI b]) .nil:=by
 have c:a6O (val a) (val b)≠0:=fun h=>w (Nat.eq_zero_of_gcd_eq_zero_right h);have E:a6O (val a) (val b)≤val b:=Nat.gcd_le_right _ (a8U w);have M:nl (a6O (val a) (val b))≤512:=a7U (fL E) p;have J:dU (val a) (val b)=false:=gR u p;simp only[go_sem,AH,pn,po,VH];refine aR fun o ho=>?_;simp only[go_sem];refine aA (L.trim a U Y) rfl ?_;simp only[go_sem];refine aA (L.trim b V Z) rfl ?_;simp only[go_sem,pq,a6K,bB,BT,gT];by_cases q:val a=0
 ·simp only[go_sem,decide_eq_true q,pt];have e:(mH neg (val a) (val b)).rf=⟨false,[],[1]⟩:=by rw[q];unfold mH FV.rf;simp[fG,Nat.div_self (a8U w),vP]
  rw[e];refine bA (vs:=[.agg [.bool false,.aB,aI [1]]]) (.inr rfl) .nil ?_ a_ ⟨show Co (.agg _) (.agg _) from CoL.agg (CoL.cons (.refl _) (CoL.cons (.nil 1) (CoL.cons (.refl _) .nil))),rfl⟩;simp only[go_sem];rfl
 have d:=L.gcd (aH (val a)) (aH (val b)) (aX _) (aX _) (sT u) (sT p);rw[aW,aW,ajP,J] at d;simp only[go_sem,decide_eq_false q,pu];refine aA d rfl ?_;have fin:∀ x y:Nat,x=val a/a6O (val a) (val b)→y=val b/a6O (val a) (val b)→∀ (F:PF) (H:PH),F 0=some (.bool neg)→F 1=some (aI (aH x))→F 2=some (aI (aH y))→F 6=some (.ptr o 3 0 0)→H o=some (.rows 3 [[.bool false,.aB,.aB]]) →
   aC.wp C (.seq (.region xO) .ret) (aV [.cell 6 (some 3)] (bX (.agg (mH neg (val a) (val b)).rf.cells))) F H:=by
  intro x y K X F H f0 f1 f2 f6 A;subst K; subst X;simp only[go_sem,xO,f0,f1,f2,f6,A];have W:val a/a6O (val a) (val b)≠0:=by have:=Nat.div_pos (Nat.gcd_le_left (val b) (a8U q)) (a8U c);omega
  have e:(mH neg (val a) (val b)).rf=⟨neg,aH (val a/a6O (val a) (val b)),aH (val b/a6O (val a) (val b))⟩:=by unfold mH FV.rf;simp only[W,ne_eq,not_false_eq_true,decide_true,a8V]
  rw[e];refine bA (vs:=[.agg (eD neg (aH (val a/a6O (val a) (val b))) (aH (val b/a6O (val a) (val b))))]) (.inr rfl) .nil ?_ a_ ⟨.refl _,rfl⟩;simp only[go_sem,f6]
 simp only[aC.wp,go_sem] at fin;have B:=fun x (K:nl x≤512)=>L.div (aH x) (aH (a6O (val a) (val b))) (aX _) (aX _) (sT K) (sT M);simp only[aW,mM] at B;have tail:a6O (val a) (val b)≠1→∀ (F:PF) (H:PH),F 0=some (.bool neg)→F 1=some (aI (aH (val a)))→F 2=some (aI (aH (val b)))→F 6=some (.ptr o 3 0 0)→F 7=some (aI (aH (a6O (val a) (val b))))→H o=some (.rows 3 [[.bool false,.aB,.aB]]) →
   aC.wp C (.seq (.seq (.region LZ) (.region MA)) (.seq (.region xO) .ret)) (aV [.cell 6 (some 3)] (bX (.agg (mH neg (val a) (val b)).rf.cells))) F H:=by
  intro _ F H f0 f1 f2 f6 f7 A;have Q:=B (val a) u;have R:=B (val b) p;rw[gR u M,if_neg c] at Q;rw[gR p M,if_neg c] at R;simp only[go_sem,LZ,f1,f7];refine aA Q rfl ?_;simp only[go_sem,a9T,MA,f2,f7];refine aA R rfl ?_;simp only[go_sem,a9T];exact fin _ _ rfl rfl _ _ (by simp only[go_sem,f0]) rfl rfl (by simp only[go_sem,f6]) A
 simp only[aC.wp,go_sem] at tail;simp only[go_sem,a9T,pw,a6K,bB];by_cases N:nl (a6O (val a) (val b))>1
 ·have i:((nl (a6O (val a) (val b)):Nat):Int)>1:=Om;simp only[go_sem,i];exact tail ((zH c).1 (.inl N)) _ _ rfl rfl rfl rfl rfl Sq
 ·have i:¬ ((nl (a6O (val a) (val b)):Nat):Int)>1:=Om;simp only[go_sem,i,ji c];by_cases O:a6O (val a) (val b)%4294967296>1
  ·have l:((a6O (val a) (val b)%4294967296:Nat):Int)>1:=Om;simp only[go_sem,l];exact tail ((zH c).1 (.inr O)) _ _ rfl rfl rfl rfl (by simp only[go_sem,ji c]) Sq
  ·have l:¬ ((a6O (val a) (val b)%4294967296:Nat):Int)>1:=Om;have S:a6O (val a) (val b)=1:=by
    rcases Decidable.em (a6O (val a) (val b)=1) with h | h
    ·exact h
    ·rcases (zH c).2 h with h | h
     ·exact absurd h N
     ·exact absurd h O
   simp only[go_sem,l];exact fin (val a) (val b) (by rw[S,Nat.div_one]) (by rw[S,Nat.div_one]) _ _ rfl rfl rfl rfl Sq
theorem Ub {C:Ctx} (v:Int) (p:-9223372036854775808≤v) (q:v≤9223372036854775807) :
  MF.wp C (aV Hi.res (aF (.int .u64 (v.natAbs:Nat)))) (PF.args [.int .i64 v]) .nil:=by
 simp only[go_sem,MF,Uc,Ud,Hi];by_cases c:v<0
 ·have d:IntKind.i64.wrap (v+1)=v+1:=wrap_i64 Om Om;have i:IntKind.i64.wrap (0-(v+1))=-(v+1):=by rw[wrap_i64 Om Om]; omega
  have l:IntKind.u64.wrap (IntKind.u64.wrap (-(v+1))+1)=(v.natAbs:Int):=by rw[fM,fM]; omega
  simp only[go_sem,c,Ue,d,i,l];refine aQ (.inr rfl) rfl ?_;rfl
 ·have e:IntKind.u64.wrap v=(v.natAbs:Int):=by rw[fM]; omega
  simp only[go_sem,c,Uf,e];refine aQ (.inr rfl) rfl ?_;rfl
structure Gi (C:Ctx):Prop extends fa C where
 lowest:∀ neg a b,Lim a→Lim b→a.length≤35184372087808→b.length≤35184372087808→nl (val a)≤512→nl (val b)≤512→val b≠0→aG C 58 [.bool neg,aI a,aI b] .nil (aF (.agg (mH neg (val a) (val b)).rf.cells))
 size:∀ v:Int,dE v→aG C 59 [.int .i64 v] .nil (aF (.int .u64 (v.natAbs:Nat)))
def mkT (n d:Int):RF:=(mH (decide (n<0) != decide (d<0)) n.natAbs d.natAbs).rf
def vX (n d:Int):PV:=if d=0 then BC 3 else .tup [.agg (mkT n d).cells,.int .i64 0]
theorem Tz {C:Ctx} (L:Gi C) (n d:Int) (e:dE n) (i:dE d) :
  MB.wp C (aV p4.res (bX (vX n d))) (PF.args [.int .i64 n,.int .i64 d]) .nil:=by
 simp only[go_sem,MB,T0,T1];refine aR fun o l=>?_;unfold vX;by_cases c:d=0
 ·subst c;simp only[go_sem,T2];refine gS ?_;simp only[go_sem,p4]
 ·rw[if_neg c];simp only[go_sem,bF c,T3];refine aA (L.size n e) rfl ?_;simp only[go_sem];refine aA (L.make n.natAbs Om) rfl ?_;simp only[go_sem];refine aA (L.size d i) rfl ?_;simp only[go_sem];refine aA (L.make d.natAbs Om) rfl ?_;simp only[go_sem];have p:nl n.natAbs≤2:=nJ Om;have q:nl d.natAbs≤2:=nJ Om;have low:=L.lowest (decide (n<0) != decide (d<0)) (aH n.natAbs) (aH d.natAbs) (aX _) (aX _) (by rw[bB]; omega) (by rw[bB]; omega);rw[aW,aW] at low;have low:=low Om Om Om;refine aA low rfl ?_;simp only[go_sem];exact bA (.inr rfl) .nil (vs:=[.agg (mkT n d).cells,.int .i64 0]) (by simp only[go_sem,p4]; rfl) a_ ⟨.refl _,rfl⟩
structure NT (C:Ctx):Prop extends Gi C where
 fmk:∀ n d:Int,dE n→dE d→aG C 50 [.int .i64 n,.int .i64 d] .nil (aF (vX n d))
theorem VG {C:Ctx} (L:NT C) (n:Int) (i:dE n) :
  TM.wp C (aV apJ.res (bX (.agg (mkT n 1).cells))) (PF.args [.int .i64 n]) .nil:=by
 simp only[go_sem,TM,agF,agG,apJ];refine aR fun o l=>?_;simp only[go_sem];refine aA (L.fmk n 1 i (by unfold dE; omega)) rfl ?_;unfold vX;rw[if_neg (by decide)];simp only[go_sem];refine aR fun p e=>?_;have c:o≠p:=by rintro rfl;simp only[aT,if_true] at e;cases e
 have d:p≠o:=fun h=>c h.symm;simp only[go_sem,c,agH];refine bA (vs:=[.agg (mkT n 1).cells]) (.inr rfl) .nil ?_ a_ ⟨.refl _,rfl⟩;simp only[go_sem,d]
def aK (l:List Nat) (n a:Nat):Nat × Nat:=if l.length≤a∨n<2 then (0,a) else (l.getD a 0%n,a+1)
theorem eV (l:List Nat) {n:Nat} (h:0<n) (a:Nat):(aK l n a).1<n:=by
 unfold aK;split
 ·exact h
 ·exact a8A _ h
theorem bR (l:List Nat) (n:Nat) {a:Nat} (h:a≤l.length):(aK l n a).2≤l.length:=by
 unfold aK;split
 ·exact h
 ·simp only; omega
def fK (l:List Nat) (a:Nat):RF × Nat :=
 let x:=aK l 6 a
 let y:=aK l 8 x.2
 (mkT ((1+x.1:Nat):Int) ((1+y.1:Nat):Int),y.2)
abbrev lG:RF:=mkT 0 1
def kD (l:List Nat) (i j a:Nat):RF × Nat :=
 if j=i+1 then fK l a
 else if j=i then (lG,a)
 else let t:=aK l 3 a
  if t.1=0 then fK l t.2 else (lG,t.2)
def eI (l:List Nat) (i a:Nat):Nat→List RF × Nat
 | 0=>([],a)
 | j+1=>let s:=eI l i a j
  let z:=kD l i j s.2
  (s.1++[z.1],z.2)
structure GH where
 start:List RF
 exit:List RF
 a5E:List (List RF)
 left:Nat
 a:Nat
def eG (l:List Nat) (n i:Nat) (s:GH):Nat × Nat:=if i+1<n then aK l (s.left+1) s.a else (s.left,s.a)
def fP (l:List Nat) (n i a:Nat):RF × Nat :=
 let e:=fK l a
 if i+1<n then (let t:=aK l 3 e.2; (if t.1=0 then lG else e.1,t.2)) else e
def gV (l:List Nat) (n a:Nat):Nat→GH
 | 0=>⟨[],[],[],8,a⟩
 | i+1=>let s:=gV l n a i
  let k:=eG l n i s
  let e:=fP l n i k.2
  let r:=eI l i e.2 n
  ⟨s.start++[mkT (k.1:Nat) 8],s.exit++[e.1],s.a5E++[r.1],s.left-k.1,r.2⟩
def zO (l:List Nat) (dV a:Nat):cG × Nat :=
 let t:=aK l dV a
 let s:=gV l (1+t.1) t.2 (1+t.1)
 (⟨[],s.start,s.a5E,s.exit⟩,s.a)
def mW (l:List Nat) (a:Nat):Nat→List RF × Nat
 | 0=>([],a)
 | k+1=>let s:=mW l a k
  let z:=fK l s.2
  (s.1++[z.1],z.2)
abbrev cT (n:Nat):List UInt8:=Lib.decDigits n
def nI (l:List Nat) (a:Nat):Nat→List cG × Nat
 | 0=>([],a)
 | k+1=>let s:=nI l a k
  let z:=zO l 2 s.2
  (s.1++[{ z.1 with name:=[108,97,119]++cT k }],z.2)
def hM (l:List Nat) (a5G a:Nat):Nat→List cQ × Nat
 | 0=>([],a)
 | k+1=>let s:=hM l a5G a k
  let x:=aK l 4 s.2
  let y:=aK l 8 x.2
  let z:=aK l a5G y.2
  (s.1++[⟨[109]++cT k,(1+x.1:Nat),(1+y.1:Nat),(z.1:Nat)⟩],z.2)
structure GS where
 a5I:List cE
 a5S:List dN
 a:Nat
def kZ (l:List Nat) (mc a4Z c:Nat) (s:GS):Nat→GS
 | 0=>s
 | i+1=>let s:=kZ l mc a4Z c s i
  if s.a5S.length<a4Z then
   let t:=aK l mc s.a
   { s with a5S:=s.a5S++[⟨[100]++cT s.a5S.length,(t.1:Nat),(c:Nat)⟩],a:=t.2 }
  else s
def oC (level:Nat):UInt8:=match level with
 | 0=>45
 | 1=>115
 | 2=>114
 | 3=>107
 | _=>109
def tO (l:List Nat) (level c:Nat) (s:GS):GS :=
 let u:=aK l 16 s.a
 let t:=aK l 3 u.2
 let k:=aK l 6 t.2
 let sh:RF × Nat:=if t.1=0 then (mkT 1 ((2+k.1:Nat):Int),k.2) else (lG,t.2)
 { s with a5I:=s.a5I++[⟨[oC level]++cT s.a5I.length,(level:Nat),(c:Nat),(1+u.1:Nat),sh.1⟩],a:=sh.2 }
def sI (a4Z:Nat) (s:GS):Bool:=decide (a4Z≤s.a5S.length)||decide (35≤s.a5I.length)
def jB (l:List Nat) (level a4Z c:Nat) (rec:Nat→GS→GS) (s:GS):Nat→GS
 | 0=>s
 | i+1=>let s:=jB l level a4Z c rec s i
  if sI a4Z s then s else (let s':=tO l level c s; rec (s'.a5I.length-1) s')
def fF (l:List Nat) (mc a4Z:Nat):Nat→Nat→GS→GS
 | 0,c,s=>let t:=aK l 2 s.a
  kZ l mc a4Z c { s with a:=t.2 } (1+t.1)
 | k+1,c,s=>let t:=aK l 2 s.a
  jB l (4-k) a4Z c (fF l mc a4Z k) { s with a:=t.2 } (if 4-k=2 then 1 else 1+t.1)
def uX:cE:=⟨[],0,-1,0,lG⟩
def kN (l:List Nat) (a:Nat):Int × Nat :=
 let t:=aK l 3 a
 let k:=aK l 3 t.2
 if t.1=0 then ((1+k.1:Nat),k.2) else (0,t.2)
def uB (l:List Nat) (a5A i a:Nat):bT × Nat :=
 let k:=aK l 2 a
 let m:=aK l 3 k.2
 let h:=aK l 4 m.2
 let q:=aK l (m.1+1) h.2
 let r:=mW l q.2 (max m.1 1)
 let g:=aK l 9 r.2
 let s1:=kN l g.2
 let s2:=kN l s1.2
 let s3:=kN l s2.2
 let s4:=kN l s3.2
 let f:=aK l a5A s4.2
 let b:=aK l 2 f.2
 let ms:List Int × Nat:=if 1<a5A then (if b.1=0 then ([(f.1:Int),1-(f.1:Int)],b.2) else ([(f.1:Int)],b.2)) else ([(f.1:Int)],f.2)
 (⟨[112]++cT i,(1+k.1:Nat),(m.1:Nat),(1+k.1+q.1:Nat),0,s1.1,s2.1,s3.1,s4.1,ms.1,r.1,mkT (g.1:Nat) 8,mkT ((1+h.1:Nat):Int) 1⟩,ms.2)
def fU (l:List Nat) (a5A a:Nat):Nat→List bT × Nat
 | 0=>([],a)
 | k+1=>let s:=fU l a5A a k
  let z:=uB l a5A k s.2
  (s.1++[z.1],z.2)
def gX (l:List Nat) (pols a:Nat):Nat→List eO × Nat
 | 0=>([],a)
 | k+1=>let s:=gX l pols a k
  let z:=aK l pols s.2
  (s.1++[⟨[118]++cT k,(z.1:Nat)⟩],z.2)
def kT (l:List Nat) (a4Z a5B a:Nat):aE × Nat :=
 let e:=aK l 2 a
 let d:=aK l 2 e.2
 let a5G:=nI l d.2 (1+d.1)
 let c:=aK l 2 a5G.2
 let a5A:=hM l (1+d.1) c.2 (1+c.1)
 let g:=fF l (1+c.1) a4Z 4 0 ⟨[uX],[],a5A.2⟩
 let pl:=aK l 2 g.a
 let pols:=fU l (1+c.1) pl.2 (1+pl.1)
 let i:=aK l (a5B+1) pols.2
 let vols:=gX l (1+pl.1) i.2 i.1
 (⟨(1+e.1:Nat),a5G.1,a5A.1,g.a5I,g.a5S,pols.1,vols.1⟩,vols.2)
abbrev mP (l:List Nat):List (List PV):=l.map fun (n:Nat)=>[PV.int .u8 (n:Int)]
theorem TG (l:List Nat):(mP l).length=l.length:=by simp
theorem aLW (l:List Nat) {i:Nat} (h:i<l.length):(mP l)[i]?=some [.int .u8 (l[i]:Nat)]:=by simp[h]
abbrev bN (v:PV) (a:Nat):cC:=.rows 2 [[v,.int .i64 a]]
structure Tp (l:List Nat) (v:PV):Prop where
 seen:Seen 1 v (mP l)
 byte:∀ x∈l,x<256
 len:l.length≤400
def ahU (l:List Nat) (r:PV) (H:PH):Prop:=∃ o v,r=.ptr o 2 0 0∧Tp (l.take 400) v∧H=PH.nil.set o (bN v 0)
theorem F9 {t q s:Nat} {rs:List (List PV)} {F:PF} {H H2:PH} {R:PV→PH→Prop} {v:PV} {e:jZ} (w:e=.normal∨e=.ret) (y:F t=some v) (x:H q=some (.rows s rs)) (l:H2.le (H.frz q s rs)) (p:R (PV.frz q s rs v) H2):aV [.tmp t] R e F H:=by
 have c:∃ vs,dQ.evs F H [.tmp t]=some vs∧∃ d i H2,iU (PF.nil.set 0 (bO vs)) H d i∧H2.le i∧∃ u,d 0=some u∧R u H2:=by refine⟨[v],by rw[jU,mX,y,oG],_,_,H2,.step q x (.refl _ _),l,PV.frz q s rs v,?_,p⟩;rw[qQ,jS,if_pos rfl,a7Y];rfl
 rcases w with rfl | rfl<;>exact c
theorem aaA {C:Ctx} (l:List Nat) (E:∀ x∈l,x<256) (O:l.length≤9223372036854775807):QM.wp C (aV alE.res (ahU l)) (PF.args [.sl 1 (mP l)]) .nil:=by
 simp only[go_sem,QM,aaB,aaC,alE,a6K];have fin:∀ F:PF,F 0=some (.sl 1 (mP (l.take 400)))→aC.wp C (.seq (.region uq) .ret) (aV [.tmp 2] (ahU l)) F .nil:=by
  intro F f0;have w:(l.take 400).length≤400:=by rw[a7D]; omega
  have u:∀ x∈l.take 400,x<256:=fun x M=>E x (List.mem_of_mem_take M);have y:∀ o v,Seen 1 v (mP (l.take 400))→ahU l (.ptr o 2 0 0) (PH.nil.set o (bN v 0)):=fun o v K=>⟨o,v,rfl,⟨K,u,w⟩,rfl⟩;generalize N:l.take 400=L at *
  simp only[go_sem,uq,f0];refine tG (src:=mP L) rfl ?_ (fun h=>?_) fun h o H=>?_
  ·unfold roomFor;rw[TG];simp only[maxLen]; omega
  ·simp only[go_sem,a6V,a7G,or_false,forall_eq];refine aR fun o H=>?_;simp only[go_sem];exact bA (vs:=[.ptr o 2 0 0]) (.inr rfl) (PH.nil.set o (bN .aB 0)) rfl b_ (y o .aB (.inl ⟨h,rfl⟩))
  ·simp only[go_sem,a6V,a7G,or_false,forall_eq];refine aR fun p J=>?_;have d:¬ p=o:=(hC.1 J).1;have e:¬ o=p:=fun h=>d h.symm;simp only[go_sem];refine F9 (v:=.ptr p 2 0 0) (q:=o) (s:=1) (rs:=mP L) (H2:=PH.nil.set p (bN (.sl 1 (mP L)) 0)) (.inr rfl) rfl (by simp only[go_sem,e]) (PH.aJ a_ ?_) (y p _ (.inr rfl));have B:(mP L).take L.length=mP L:=a7F (by rw[TG]; exact a6S _);simp only[go_sem,d,cC.frz,PV.dA,a6K,B];rfl
 simp only[aC.wp,go_sem] at fin;by_cases c:l.length>400
 ·have i:(l.length:Int)>400:=Om;have A:(400:Int)≤(l.length:Int):=Om;simp only[go_sem,i,aaD,a6K,A];refine fin _ ?_;rw[jS,if_pos rfl];simp[mP]
 ·have i:¬ (l.length:Int)>400:=Om;simp only[go_sem,i];refine fin _ ?_;rw[a7F Om];simp only[go_sem]
def e7 (l:List Nat) (v:PV) (o n a:Nat) (r:PV) (H:PH):Prop:=r=.int .i64 ((aK l n a).1:Nat)∧H=PH.nil.set o (bN v (aK l n a).2)
theorem Oq {C:Ctx} {l:List Nat} {v:PV} (T:Tp l v) (o n a:Nat) (O:n≤1000000) (M:a≤l.length):xF.wp C (aV kp.res (e7 l v o n a)) (PF.args [.ptr o 2 0 0,.int .i64 n]) (PH.nil.set o (bN v a)):=by
 obtain⟨J,E,N⟩:=T;have zero:(l.length≤a∨n<2)→∀ F,aC.wp C (.seq (.region bj) .ret) (aV [.tmp 4] (e7 l v o n a)) F (PH.nil.set o (bN v a)):=by
  intro h F;have e:aK l n a=(0,a):=by unfold aK; rw[if_pos h]
  simp only[go_sem,bj];exact bA (vs:=[.int .i64 0]) (.inr rfl) _ rfl b_ ⟨by rw[e]; rfl,by rw[e]⟩
 simp only[aC.wp,go_sem] at zero;rcases J with ⟨B,rfl⟩ | rfl
 ·have K:l.length=0:=by rw[← TG,B]; rfl
  have p:(a:Int)≥0:=Om;simp only[go_sem,xF,bi,kp];refine bV .nil eM a_ ?_;simp only[go_sem,JH,p];exact zero (.inl Om) _
 simp only[go_sem,xF,bi,kp];refine bV .nil eM a_ ?_;by_cases u:l.length≤a
 ·have c:(a:Int)≥(l.length:Nat):=Om;simp only[go_sem,JH,a6K,c];exact zero (.inl u) _
 have c:¬ (a:Int)≥(l.length:Nat):=Om;simp only[go_sem,JH,a6K,c];by_cases w:n<2
 ·have d:(n:Int)<2:=Om;simp only[go_sem,d];exact zero (.inr w) _
 have d:¬ (n:Int)<2:=Om;have i:a<l.length:=Om;have e:aK l n a=(l[a]%n,a+1):=by unfold aK;rw[if_neg Om];simp[a7C,i]
 have A:IntKind.i64.wrap ((a:Int)+1)=((a+1:Nat):Int):=cW Om;have y:IntKind.i64.wrap (((a+1:Nat):Int)-1)=((a:Nat):Int):=by rw[wrap_i64 Om Om]; omega
 have H:=aLW l i;have Q:=E _ (a6M i);have x:IntKind.i64.wrap ((l[a]:Nat):Int)=((l[a]:Nat):Int):=dg Om;have q:¬ ((n:Nat):Int)=0:=Om;have em:Int.tmod ((l[a]:Nat):Int) ((n:Nat):Int)=((l[a]%n:Nat):Int):=rfl;simp only[go_sem,d,Or,A];refine bV .nil eM a_ ?_;simp only[go_sem,Ot,y,H,x,q,em];exact bA (vs:=[.int .i64 (l[a]%n:Nat)]) (.inr rfl) _ rfl b_ ⟨by rw[e]; rfl,by rw[e]⟩
def PV.oid:PV→Option Nat
 | .osl q _ _ _=>some q
 | _=>none
abbrev LI:=PV × Nat × List (List PV)
abbrev BX:=Nat × cC
def eH (B:List BX):List Nat:=B.map (·.1)
def eA (L:List LI):List Nat:=L.filterMap fun x=>x.1.oid
structure aN (H:PH) (B:List BX) (L:List LI):Prop where
 box:∀ b∈B,H b.1=some b.2
 lst:∀ x∈L,bP H x.2.1 x.1 x.2.2
 nd:(eH B++eA L).Nodup
section
variable {C:Ctx} {H:PH} {B:List BX} {L:List LI} {K:PV→PH→Prop}
theorem bP.id {s q:Nat} {v:PV} {rows:List (List PV)} (h:bP H s v rows) (c:v.oid=some q):∃ rs,H q=some (.rows s rs)∧v=.osl q s 0 rows.length∧rows.length≤rs.length∧rs.take rows.length=rows:=by
 rcases h with ⟨_,rfl⟩ | ⟨p,rs,rfl,h1,h2,h3⟩
 ·cases c
 ·cases c;exact⟨rs,h1,rfl,h2,h3⟩
theorem bP.same {s:Nat} {v:PV} {rows:List (List PV)} {H':PH} (h:bP H s v rows) (c:∀ q,v.oid=some q→H' q=H q):bP H' s v rows:=by
 rcases h with h | ⟨p,rs,rfl,h1,h2,h3⟩
 ·exact .inl h
 ·exact .inr ⟨p,rs,rfl,by rw[c p rfl]; exact h1,h2,h3⟩
theorem kW {x:LI} {q:Nat} (h:x∈L) (c:x.1.oid=some q):q∈eA L:=List.mem_filterMap.2 ⟨x,h,c⟩
theorem tY {b:BX} (h:b∈B):b.1∈eH B:=a7N.2 ⟨b,h,rfl⟩
theorem aN.nil:aN H [] []:=⟨by simp,by simp,by simp[eH,eA]⟩
theorem aN.at (h:aN H B L) (i:Nat) {o:Nat} {x:cC} (hi:B[i]?=some (o,x)):H o=some x:=h.box _ (a9D hi)
theorem aN.own (h:aN H B L) (i:Nat) {s:Nat} {v:PV} {rows:List (List PV)} (hi:L[i]?=some (v,s,rows)):bP H s v rows:=h.lst _ (a9D hi)
theorem aN.ndB (h:aN H B L):(eH B).Nodup:=(a9G.1 h.nd).1
theorem aN.ndL (h:aN H B L):(eA L).Nodup:=(a9G.1 h.nd).2.1
theorem aN.ndX (h:aN H B L) {o q:Nat} (c:o∈eH B) (d:q∈eA L):o≠q:=(a9G.1 h.nd).2.2 o c q d
theorem aN.ne (h:aN H B L) (i j:Nat) {o p:Nat} {x y:cC} (hi:B[i]?=some (o,x)) (F:B[j]?=some (p,y)) (c:i≠j):o≠p:=by
 intro e;have A:(eH B)[i]?=some o:=by unfold eH; rw[a7J,hi]; rfl
 have E:(eH B)[j]?=some p:=by unfold eH; rw[a7J,F]; rfl
 obtain⟨u,d⟩:=a7T.1 A;obtain⟨w,l⟩:=a7T.1 E;have q:=List.pairwise_iff_getElem.1 h.ndB;rcases Nat.lt_or_gt_of_ne c with g | g
 ·exact q i j u w g (by rw[d,l,e])
 ·exact q j i w u g (by rw[d,l,e])
theorem aN.neL (h:aN H B L) (i j:Nat) {o q:Nat} {x:cC} {y:LI} (hi:B[i]?=some (o,x)) (c:L[j]?=some y) (d:y.1.oid=some q):o≠q :=
 h.ndX (tY (a9D hi)) (kW (a9D c) d)
theorem aN.fresh (h:aN H B L) {o:Nat} (c:H o=none):o ∉ eH B∧o ∉ eA L:=by
 refine⟨fun d=>?_,fun d=>?_⟩
 ·obtain⟨b,l,rfl⟩:=a7N.1 d;rw[h.box b l] at c; cases c
 ·obtain⟨x,p,e⟩:=List.mem_filterMap.1 d;obtain⟨rs,i,_⟩:=(h.lst x p).id e;rw[i] at c; cases c
theorem aN.keep (h:aN H B L) {H':PH} (d:∀ q,q∈eH B∨q∈eA L→H' q=H q):aN H' B L :=
 ⟨fun b c=>by rw[d _ (.inl (tY c))]; exact h.box b c,fun x e=>(h.lst x e).same fun q i=>d q (.inr (kW e i)),h.nd⟩
theorem aEY {i:Nat} {o:Nat} {x y:cC} (hi:B[i]?=some (o,x)):eH (B.set i (o,y))=eH B:=by
 unfold eH;rw[List.map_set];refine List.ext_getElem? fun j=>?_;rw[List.getElem?_set];split
 ·rename_i e;subst e;rw[a7J,hi];have:=(a7T.1 hi).1;simp[this]
 ·rfl
theorem aN.set (h:aN H B L) (i:Nat) {o:Nat} {x:cC} (hi:B[i]?=some (o,x)) (y:cC):aN (H.set o y) (B.set i (o,y)) L:=by
 have l:o∈eH B:=tY (a9D hi);refine⟨fun b u=>?_,fun z p=>(h.lst z p).same fun q w=>?_,by rw[aEY hi]; exact h.nd⟩
 ·obtain⟨j,c⟩:=List.mem_iff_getElem?.1 u;rw[List.getElem?_set] at c;split at c
  ·split at c
   ·cases c; simp only[aT,if_true]
   ·cases c
  ·rename_i d;have:b.1≠o:=fun e=>h.ne i j hi (show B[j]?=some (b.1,b.2) from c) d e.symm;rw[aT,if_neg this];exact h.box b (a9D c)
 ·have:q≠o:=fun e=>h.ndX l (kW p w) e.symm;rw[aT,if_neg this]
theorem aN.new (h:aN H B L) {o:Nat} (u:H o=none) (y:cC):aN (H.set o y) (B++[(o,y)]) L:=by
 obtain⟨f1,f2⟩:=h.fresh u;refine⟨fun b d=>?_,fun z l=>(h.lst z l).same fun q hq=>?_,?_⟩
 ·rw[a8J,a9A] at d;rcases d with d | rfl
  ·have:b.1≠o:=fun e=>f1 (e ▸ tY d);rw[aT,if_neg this]; exact h.box b d
  ·simp only[aT,if_true]
 ·have:q≠o:=fun e=>f2 (e ▸ kW l hq);rw[aT,if_neg this]
 ·have:=h.nd;simp only[eH,a7L,a8B,a8W] at *
  rw[a7V,a9G] at *
  obtain⟨a,b,c⟩:=this;refine⟨a,?_,fun p i q hq=>?_⟩
  ·rw[List.singleton_append,List.nodup_cons]; exact⟨f2,b⟩
  ·rw[List.singleton_append,a6V] at hq;rcases hq with rfl | hq
   ·intro e; subst e; exact f1 i
   ·exact c p i q hq
theorem kK (L1 L2:List LI):eA (L1++L2)=eA L1++eA L2:=List.filterMap_append ..
theorem aN.mV (h:aN H B L) (s:Nat):aN H B (L++[(.aB,s,[])]):=by
 refine⟨h.box,fun z c=>?_,?_⟩
 ·rw[a8J,a9A] at c;rcases c with c | rfl
  ·exact h.lst z c
  ·exact .nil
 ·rw[kK,show eA [((.aB:PV),s,([]:List (List PV)))]=[] from rfl,a8H]; exact h.nd
theorem aN.alR (h:aN H B L) {o s:Nat} {rows:List (List PV)} (i:H o=none):aN (H.set o (.rows s rows)) B (L++[(.osl o s 0 rows.length,s,rows)]):=by
 obtain⟨f1,f2⟩:=h.fresh i;have e:=h.keep (H':=H.set o (.rows s rows)) fun q c=>by
  have:q≠o:=by rintro rfl; exact c.elim f1 f2
  rw[aT,if_neg this]
 refine⟨e.box,fun z d=>?_,?_⟩
 ·rw[a8J,a9A] at d;rcases d with d | rfl
  ·exact e.lst z d
  ·exact .inr ⟨o,rows,rfl,by simp only[aT,if_true],a6S _,a7M⟩
 ·rw[kK,show eA [((.osl o s 0 rows.length:PV),s,rows)]=[o] from rfl,← a7V,a9G];refine⟨h.nd,by simp,fun p hp q c=>?_⟩;rw[a9A] at c;subst c;rintro rfl;rcases a8J.1 hp with hp | hp
  ·exact f1 hp
  ·exact f2 hp
theorem M4 {i:Nat} {v v':PV} {s s':Nat} {rows rows':List (List PV)} (hi:L[i]?=some (v,s,rows)):∃ L1 L2,L=L1++(v,s,rows)::L2∧L.set i (v',s',rows')=L1++(v',s',rows')::L2:=by
 obtain⟨c,d⟩:=a7T.1 hi;refine⟨L.take i,L.drop (i+1),?_,?_⟩
 ·rw[← d,← a8I c,a9I]
 ·rw[List.set_eq_take_append_cons_drop,if_pos c]
theorem aN.LC (h:aN H B L) (i:Nat) {s:Nat} {v:PV} {rows:List (List PV)} (hi:L[i]?=some (v,s,rows)) {s':Nat} {v':PV} {rows':List (List PV)} {H':PH} (Q:bP H' s' v' rows')
  (F:∀ q,v'.oid=some q→v.oid=some q∨H q=none) (O:∀ q,q∈eH B∨q∈eA L→(∀ p,v.oid=some p→q≠p)→H' q=H q):aN H' B (L.set i (v',s',rows')):=by
 obtain⟨L1,L2,M,N⟩:=M4 (v':=v') (s':=s') (rows':=rows') hi;rw[N];subst M;have d:=h.nd;have A:eA (L1++(v,s,rows)::L2)=eA L1++(v.oid.toList++eA L2):=by rw[kK];congr 1;unfold eA;rw[List.filterMap_cons];cases e:v.oid<;>simp
 have E:eA (L1++(v',s',rows')::L2)=eA L1++(v'.oid.toList++eA L2):=by rw[kK];congr 1;unfold eA;rw[List.filterMap_cons];cases e:v'.oid<;>simp
 rw[A] at d;have x:∀ q,q∈eH B∨q∈eA L1∨q∈eA L2→∀ p,v.oid=some p→q≠p:=by
  intro q hq p w e;subst e;rw[w] at d;simp only[Option.toList_some] at d;rw[a9G] at d;obtain⟨a,b,c⟩:=d;rw[a9G] at b;obtain⟨b1,b2,y⟩:=b;rw[List.singleton_append,List.nodup_cons] at b2;rcases hq with hq | hq | hq
  ·exact c q hq q (by simp) rfl
  ·exact y q hq q (by simp) rfl
  ·exact b2.1 hq
 have l:∀ q,q∈eH B∨q∈eA L1∨q∈eA L2→H' q=H q:=by
  intro q hq;refine O q ?_ (x q hq);rw[A];simp only[a8J];rcases hq with hq | hq | hq
  ·exact .inl hq
  ·exact .inr (.inl hq)
  ·exact .inr (.inr (.inr hq))
 refine⟨fun b J=>by rw[l _ (.inl (tY J))]; exact h.box b J,fun z hz=>?_,?_⟩
 ·rw[a8J,a6V] at hz;rcases hz with hz | rfl | hz
  ·exact (h.lst z (by simp[hz])).same fun q hq=>l q (.inr (.inl (kW hz hq)))
  ·exact Q
  ·exact (h.lst z (by simp[hz])).same fun q hq=>l q (.inr (.inr (kW hz hq)))
 ·rw[E];cases e:v'.oid with
  | none =>simp only[Option.toList_none,List.nil_append];refine List.Nodup.sublist ?_ d;exact a8L.append (a8L.refl _) (a8L.append (a8L.refl _) (List.sublist_append_right _ _))
  | some q =>
   rcases F q e with R | hn
   ·rw[R] at d;exact d
   ·obtain⟨f1,f2⟩:=h.fresh hn;rw[A] at f2;simp only[a8J,not_or] at f2;have u:(eH B++(eA L1++eA L2)).Nodup:=List.Nodup.sublist (a8L.append (a8L.refl _) (a8L.append (a8L.refl _) (List.sublist_append_right _ _))) d;simp only[Option.toList_some];rw[a9G] at u ⊢;obtain⟨a,b,c⟩:=u;rw[a9G] at b;obtain⟨b1,b2,y⟩:=b;refine⟨a,?_,?_⟩
    ·rw[a9G];refine⟨b1,by rw[List.singleton_append,List.nodup_cons]; exact⟨f2.2.2,b2⟩,fun p w r hr=>?_⟩;rw[List.singleton_append,a6V] at hr;rcases hr with rfl | hr
     ·rintro rfl; exact f2.1 w
     ·exact y p w r hr
    ·intro p w r hr;rw[a8J,List.singleton_append,a6V] at hr;rcases hr with hr | rfl | hr
     ·exact c p w r (by simp[hr])
     ·rintro rfl; exact f1 w
     ·exact c p w r (by simp[hr])
theorem aN.append (h:aN H B L) (i:Nat) {s b:Nat} {v y:PV} {rows src:List (List PV)} (hi:L[i]?=some (v,s,rows)) (E:dT H s y=some src) (A:roomFor rows.length src.length b)
  (w:∀ v' H',aN H' B (L.set i (v',s,rows++src))→(src≠[]→∃ q,v'=.osl q s 0 (rows++src).length)→K v' H'):mJ H s b v y K:=by
 rcases h.own i hi with ⟨rfl,rfl⟩ | ⟨q,rs,rfl,h1,h2,h3⟩
 ·refine⟨src,E,A,fun e=>?_,fun e o l=>?_⟩
  ·subst e;refine w _ _ ?_ fun h=>absurd rfl h;exact h.LC i hi (.inl ⟨rfl,rfl⟩) (fun q u=>by cases u) fun q _ _=>rfl
  ·refine w _ _ (h.LC i hi (.inr ⟨o,src,rfl,by simp only[aT,if_true],a6S _,a7M⟩) (fun q u=>by cases u; exact .inr l) fun q u _=>?_) fun _=>⟨o,rfl⟩;obtain⟨f1,f2⟩:=h.fresh l;have:q≠o:=by rintro rfl; exact u.elim f1 f2
   rw[aT,if_neg this]
 ·have c:(rows++src).length=rows.length+src.length:=a6T;refine⟨src,E,rfl,rfl,A,rs,h1,h2,?_,fun o l=>?_⟩
  ·rw[h3];refine w _ _ (h.LC i hi (.inr ⟨q,rows++src,by rw[c],by simp only[aT,if_true],a6S _,a7M⟩) (fun p d=>by cases d; exact .inl rfl) fun p _ d=>?_) fun _=>⟨q,by rw[c]⟩;rw[aT,if_neg (d q rfl)]
  ·rw[h3];refine w _ _ (h.LC i hi (.inr ⟨o,rows++src,by rw[c],by simp only[aT,if_true],a6S _,a7M⟩) (fun p d=>by cases d; exact .inr l) fun p x d=>?_) fun _=>⟨o,by rw[c]⟩;obtain⟨f1,f2⟩:=h.fresh l;have F:p≠o:=by rintro rfl; exact x.elim f1 f2
   rw[aT,if_neg F]
theorem aN.sub (h:aN H B L) {B':List BX} {L':List LI} (hB:B'.Sublist B) (c:L'.Sublist L):aN H B' L' :=
 ⟨fun b d=>h.box b (hB.subset d),fun x e=>h.lst x (c.subset e),List.Nodup.sublist (a8L.append (hB.map _) (c.filterMap _)) h.nd⟩
theorem aN.sF (h:aN H B L) (i:Nat):aN H (B.eraseIdx i) L:=h.sub (List.eraseIdx_sublist ..) (a8L.refl _)
theorem aN.aiZ (h:aN H B L) (i:Nat):aN H B (L.eraseIdx i):=h.sub (a8L.refl _) (List.eraseIdx_sublist ..)
end
section
variable {C:Ctx} {F:PF} {H:PH} {B:List BX} {L:List LI}
theorem aN.VB (h:aN H B L) {q:Nat} (hq:q∈eH B∨q∈eA L):∃ x,H q=some x:=by
 rcases hq with hq | hq
 ·obtain⟨b,d,rfl⟩:=a7N.1 hq;exact⟨_,h.box b d⟩
 ·obtain⟨x,i,e⟩:=List.mem_filterMap.1 hq;obtain⟨rs,c,_⟩:=(h.lst x i).id e;exact⟨_,c⟩
theorem aN.perm (h:aN H B L) {B':List BX} {L':List LI} (hB:B.Perm B') (c:L.Perm L'):aN H B' L' :=
 ⟨fun b d=>h.box b (hB.mem_iff.2 d),fun x e=>h.lst x (c.mem_iff.2 e),(List.Perm.nodup_iff ((hB.map _).append (c.filterMap _))).1 h.nd⟩
theorem aN.only (h:aN H B L) {B1:List BX} {L1:List LI} (hB:B1.Sublist B) (c:L1.Sublist L):aN (H.only (eH B1++eA L1)) B1 L1:=by
 refine (h.sub hB c).keep fun q d=>?_;rw[rS];rw[if_pos (a8J.2 d)]
theorem aVC {a b c d:List Nat} (i:(a++c).Nodup) (l:(b++d).Nodup) (u:∀ q,q∈a∨q∈c→q∈b∨q∈d→False):((a++b)++(c++d)).Nodup:=by
 have e:List.Perm ((a++b)++(c++d)) ((a++c)++(b++d)):=by rw[a7V,a7V];exact List.Perm.append_left a (by rw[← a7V,← a7V]; exact List.Perm.append_right d List.perm_append_comm)
 rw[e.nodup_iff,a9G];refine⟨i,l,fun p w q x=>?_⟩;rintro rfl;exact u p (a8J.1 w) (a8J.1 x)
theorem aN.frame {H':PH} {B1 B2 B':List BX} {L1 L2 L':List LI} (h:aN H (B1++B2) (L1++L2)) (p:aN H' B' L') (E:lN H (H.only (eH B1++eA L1)) H'):aN (H.over (H.only (eH B1++eA L1)) H') (B'++B2) (L'++L2):=by
 have w:aN H B2 L2:=h.sub (List.sublist_append_right ..) (List.sublist_append_right ..);have i:∀ q,q∈eH B2∨q∈eA L2→¬ (q∈eH B1++eA L1):=by
  intro q c J;have d:=h.nd;rw[show eH (B1++B2)=eH B1++eH B2 from a7L,kK] at d;have e:List.Perm ((eH B1++eH B2)++(eA L1++eA L2)) ((eH B1++eA L1)++(eH B2++eA L2)):=by rw[a7V,a7V];exact List.Perm.append_left _ (by rw[← a7V,← a7V]; exact List.Perm.append_right _ List.perm_append_comm)
  rw[e.nodup_iff,a9G] at d;exact d.2.2 q J q (a8J.2 c) rfl
 have new:∀ q,q∈eH B'∨q∈eA L'→(H.over (H.only (eH B1++eA L1)) H') q=H' q:=by intro q c;obtain⟨x,hx⟩:=p.VB c;rw[gG,hx]
 have A:∀ q,q∈eH B2∨q∈eA L2→(H.over (H.only (eH B1++eA L1)) H') q=H q:=by
  intro q c;obtain⟨x,hx⟩:=w.VB c;have u:(H.only (eH B1++eA L1)) q=none:=by rw[rS,if_neg (i q c)]
  rw[gG];cases e:H' q with
  | none=>simp only[u]
  | some y =>have:=E q y e u;rw[hx] at this; cases this
 have k1:=p.keep new;have k2:=w.keep A;refine⟨fun b hb=>?_,fun x hx=>?_,?_⟩
 ·rcases a8J.1 hb with hb | hb
  ·exact k1.box b hb
  ·exact k2.box b hb
 ·rcases a8J.1 hx with hx | hx
  ·exact k1.lst x hx
  ·exact k2.lst x hx
 ·rw[show eH (B'++B2)=eH B'++eH B2 from a7L,kK];refine aVC p.nd w.nd fun q c l=>?_;obtain⟨x,hx⟩:=p.VB c;obtain⟨y,K⟩:=w.VB l;have u:(H.only (eH B1++eA L1)) q=none:=by rw[rS,if_neg (i q l)]
  have:=E q x hx u;rw[K] at this; cases this
theorem EO {name:Nat} {vs:List PV} {args:List aP} {d:Option Nat} {K:PF→PH→Prop} {B1 B2:List BX} {L1 L2:List LI} {Q:PV→List BX→List LI→Prop} (h:aN H (B1++B2) (L1++L2))
  (p:∀ e,aN e B1 L1→aG C name vs e (fun r H'=>∃ B' L',Q r B' L'∧aN H' B' L')) (l:aP.evs F args=some vs)
  (q:∀ r B' L' H',Q r B' L'→aN H' (B'++B2) (L'++L2)→K (F.put d r) H'):hZ C name args [] d K F H:=by
 refine kJ (p (H.only (eH B1++eA L1)) (h.only (List.sublist_append_left ..) (List.sublist_append_left ..))) l (UV H _) ?_;rintro r H' ⟨B',L',u,i⟩ c;exact q r B' L' _ u (h.frame i c)
theorem aN.NY {B:List BX} {o:Nat} {x:cC} (h:aN H (B++[(o,x)]) L):H o=some x:=h.box (o,x) (by simp)
theorem aN.wc {B:List BX} {o:Nat} {x:cC} (h:aN H (B++[(o,x)]) L) (y:cC):aN (H.set o y) (B++[(o,y)]) L:=by
 have:=h.set B.length (o:=o) (x:=x) (by simp) y
 rwa [a9H _ _ (a6S _),a9N] at this
theorem aN.dropLast {B:List BX} {b:BX} (h:aN H (B++[b]) L):aN H B L:=h.sub (List.sublist_append_left ..) (a8L.refl _)
theorem aN.aRQ {B:List BX} {o:Nat} {x:cC} (h:aN H ((o,x)::B) L) (y:cC):aN (H.set o y) ((o,y)::B) L:=h.set 0 rfl y
theorem aN.aTZ {B:List BX} {o:Nat} {x:cC} (h:aN H ((o,x)::B) L):H o=some x:=h.at 0 rfl
theorem mK {name o:Nat} {x y:cC} {r:PV} {vs:List PV} {args:List aP} {d:Option Nat} {K:PF→PH→Prop} (h:aG C name vs (PH.nil.set o x) (fun c H'=>c=r∧H'=PH.nil.set o y)) (l:H o=some x) (e:aP.evs F args=some vs)
  (i:K (F.put d r) (H.set o y)):hZ C name args [] d K F H:=by
 refine kJ h e (PH.aJ a_ l) ?_;rintro c H' ⟨rfl,rfl⟩ -;rw[PH.sW];exact i
theorem aDU {Hs:PH} {S:Spec} {name o:Nat} {x y:cC} {r:PV} {vs:List PV} {R:PH→PV→PH→Prop} {args:List aP} {st:Bool} {d:Option Nat} {K:PF→PH→Prop} (N:S name vs=some ([o],R)) (J:H o=some x)
  (h:aG C name vs (PH.nil.set o x) (fun c H'=>c=r∧H'=PH.nil.set o y)) (i:R (PH.nil.set o x) r (PH.nil.set o y)) (u:∀ c H',R (PH.nil.set o x) c H'→c=r∧H'=PH.nil.set o y) (O:aP.evs F args=some vs)
  (w:Hs.le (H.set o y)) (Q:K (F.put d r) (H.set o y)):dOp C Hs S st (.call name args) d K F H:=by
 have e:=ci J;refine⟨vs,[o],_,O,N,fun q M=>?_,?_,fun G=>⟨r,_,by rw[e]; exact i,fun q z E p=>?_⟩,fun c H' l _=>?_⟩
 ·simp at M; subst M; exact⟨x,J⟩
 ·rw[e];exact h.post fun c H' l=>⟨c,.refl _,by rw[l.1,l.2]; exact i⟩
 ·rw[e] at p;rw[aT] at E p;split at p
  ·cases p
  ·rename_i A;rw[if_neg A] at E; cases E
 ·rw[e] at l;obtain⟨rfl,rfl⟩:=u c H' l;rw[e,PH.sW];exact⟨w,Q⟩
theorem aKC {s:Nat} {q z:Nat} {rs:List (List PV)} {v:PV} {rows:List (List PV)} (h:bP H s v rows) (d:v.oid≠some q):bP (H.frz q z rs) s v (rows.map fun r=>r.map (PV.dA q z rs)):=by
 rcases h with ⟨rfl,rfl⟩ | ⟨p,rs',rfl,h1,h2,h3⟩
 ·exact .inl ⟨rfl,rfl⟩
 ·have c:¬ p=q:=fun e=>d (by rw[e]; rfl);refine .inr ⟨p,rs'.map fun r=>r.map (PV.dA q z rs),by rw[a6K],?_,by simpa using h2,?_⟩
  ·rw[yD,if_neg c,h1]; rfl
  ·rw[a6K,← List.map_take,h3]
theorem aN.frz (h:aN H B L) (i:Nat) {q s k:Nat} {rows:List (List PV)} (hi:L[i]?=some (.osl q s 0 k,s,rows)):∃ rs,H q=some (.rows s rs)∧PV.dA q s rs (.osl q s 0 k)=.sl s rows∧PV.frz q s rs (.osl q s 0 k)=.sl s rows∧(∀ j x,j≠i→L[j]?=some x→PV.dA q s rs x.1=x.1) ∧
  aN (H.frz q s rs) (B.map fun b=>(b.1,b.2.frz q s rs)) ((L.eraseIdx i).map fun x=>(x.1,x.2.1,x.2.2.map fun r=>r.map (PV.dA q s rs))):=by
 obtain⟨rs,U,V,W,X⟩:=(h.own i hi).id rfl;injection V with _ _ _ hk
 subst hk;have e:PV.frz q s rs (.osl q s 0 rows.length)=.sl s rows:=by rw[tR W,X]
 refine⟨rs,U,e,e,?_⟩;refine⟨fun j x K R=>?_,?_⟩
 ·have l:x.1.oid≠some q:=by
   intro l;obtain⟨M,J⟩:=a7T.1 hi;obtain⟨β,Z⟩:=a7T.1 R;have u:x∈L.eraseIdx i:=List.mem_eraseIdx_iff_getElem?.2 ⟨j,K,R⟩;have d:=h.ndL;have O:L=L.take i++(L[i]::L.drop (i+1)):=by rw[← a8I M,a9I]
   rw[List.eraseIdx_eq_take_drop_succ] at u;rw[O,kK] at d;have E:eA (L[i]::L.drop (i+1))=q::eA (L.drop (i+1)):=by rw[J]; rfl
   rw[E,a9G] at d;obtain⟨a,b,c⟩:=d;rcases a8J.1 u with hx | hx
   ·exact c q (kW hx l) q (by simp) rfl
   ·exact (List.nodup_cons.1 b).1 (kW hx l)
  cases hx:x.1<;>try rfl
  rename_i p z γ len;have:¬ p=q:=fun e=>l (by rw[hx,e]; rfl);simp only[PV.dA,if_neg this]
 obtain⟨L1,L2,e1,e2⟩:=M4 (v':=.aB) (s':=s) (rows':=rows) hi;have α:i=L1.length∨True:=.inr trivial;have w:(L.eraseIdx i).Sublist L:=List.eraseIdx_sublist ..;have N:∀ x∈L.eraseIdx i,x.1.oid≠some q:=by
  intro x hx l;obtain⟨M,J⟩:=a7T.1 hi;have d:=h.ndL;have O:L=L.take i++(L[i]::L.drop (i+1)):=by rw[← a8I M,a9I]
  rw[List.eraseIdx_eq_take_drop_succ] at hx;rw[O,kK] at d;have E:eA (L[i]::L.drop (i+1))=q::eA (L.drop (i+1)):=by rw[J]; rfl
  rw[E,a9G] at d;obtain⟨a,b,c⟩:=d;rcases a8J.1 hx with hx | hx
  ·exact c q (kW hx l) q (by simp) rfl
  ·exact (List.nodup_cons.1 b).1 (kW hx l)
 refine⟨fun b Y=>?_,fun x hx=>?_,?_⟩
 ·obtain⟨Q,y,rfl⟩:=a7N.1 Y;have:¬ Q.1=q:=h.ndX (tY y) (kW (a9D hi) rfl);simp only;rw[yD,if_neg this,h.box Q y]; rfl
 ·obtain⟨S,A,rfl⟩:=a7N.1 hx;exact aKC (h.lst S (w.subset A)) (N S A)
 ·have i1:eH (B.map fun b=>(b.1,b.2.frz q s rs))=eH B:=by unfold eH; rw[List.map_map]; rfl
  have i2:eA ((L.eraseIdx i).map fun x=>(x.1,x.2.1,x.2.2.map fun r=>r.map (PV.dA q s rs)))=eA (L.eraseIdx i):=by unfold eA; rw[List.filterMap_map]; rfl
  rw[i1,i2];exact List.Nodup.sublist (a8L.append (a8L.refl _) (w.filterMap _)) h.nd
def Flat (rows:List (List PV)):Prop:=∀ q s rs,rows.map (fun r=>r.map (PV.dA q s rs))=rows
theorem Flat.nil:Flat []:=fun _ _ _=>rfl
theorem Flat.of {rows:List (List PV)} (h:∀ r∈rows,∀ c∈r,∀ q s rs,PV.dA q s rs c=c):Flat rows:=fun q s rs=>by
 conv=>rhs; rw[← List.map_id rows]
 refine List.map_congr_left fun r e=>?_
 conv=>rhs; rw[id,← List.map_id r]
 exact List.map_congr_left fun c d=>h r e c d q s rs
theorem Flat.map {α:Type} {f:α→List PV} (l:List α) (h:∀ x,∀ c∈f x,∀ q s rs,PV.dA q s rs c=c):Flat (l.map f):=Flat.of fun r d=>by
 obtain⟨x,_,rfl⟩:=a7N.1 d;exact h x
theorem Flat.append {r1 r2:List (List PV)} (c:Flat r1) (d:Flat r2):Flat (r1++r2):=fun q s rs=>by rw[a7L,c,d]
theorem aN.flat {φ:PV→List (List PV)} (h:aN H B L):aN H B L:=h
def AQ (v:PV) (H:PH) (R:PV→PH→Prop):Prop:=∃ c d H2,iU (PF.nil.set 0 v) H c d∧H2.le d∧∃ u,c 0=some u∧R u H2
theorem AQ.done {v:PV} {H2:PH} {R:PV→PH→Prop} (d:R v H2) (c:H2.le H):AQ v H R:=⟨_,_,H2,.refl _ _,c,v,by rw[jS,if_pos rfl],d⟩
theorem AQ.step {v:PV} {q s:Nat} {rs:List (List PV)} {R:PV→PH→Prop} (w:H q=some (.rows s rs)) (h:AQ (PV.frz q s rs v) (H.frz q s rs) R):AQ v H R:=by
 obtain⟨c,d,H2,l,p,u⟩:=h;have e:(PF.nil.set 0 v).frz q s rs=PF.nil.set 0 (PV.frz q s rs v):=by funext i;rw[qQ,jS,jS];split<;>rfl
 exact⟨c,d,H2,.step q w (by rw[e]; exact l),p,u⟩
theorem yM {res:List dQ} {R:PV→PH→Prop} {vs:List PV} {e:jZ} (l:e=.normal∨e=.ret) (h:dQ.evs F H res=some vs) (p:AQ (bO vs) H R):aV res R e F H:=by
 have c:∃ vs,dQ.evs F H res=some vs∧∃ d i H2,iU (PF.nil.set 0 (bO vs)) H d i∧H2.le i∧∃ u,d 0=some u∧R u H2:=⟨vs,h,p⟩;rcases l with rfl | rfl<;>exact c
theorem ja {u:PV} (h:u.oid=none) (q s:Nat) (rs:List (List PV)):PV.dA q s rs u=u:=by
 cases u<;>first | rfl | (simp[PV.oid] at h)
theorem Seen.co {s:Nat} {v:PV} {rows:List (List PV)} (h:Seen s v rows):Co v (.sl s rows):=by
 rcases h with ⟨rfl,rfl⟩ | rfl
 ·exact .nil s
 ·exact .refl _
theorem aN.giveUp:∀ (L:List LI) {H:PH} {B:List BX},aN H B L→(∀ x∈L,Flat x.2.2)→(∀ b∈B,∀ q s rs,cC.frz q s rs b.2=b.2) →
  ∃ (φ:PV→PV) (d:PH),(∀ x∈L,Seen x.2.1 (φ x.1) x.2.2)∧(∀ u,u.oid=none→φ u=u)∧aN d B []∧∀ cs R,AQ (.agg (cs.map φ)) d R→AQ (.agg cs) H R
 | [],H,B,h,_,_=>⟨id,H,by simp,fun _ _=>rfl,h,fun cs R p=>by rwa [List.map_id] at p⟩
 | (w,s,rows)::L,H,B,h,l,hB=>by
  have c:∀ q z rs,(L.map fun x=>(x.1,x.2.1,x.2.2.map fun r=>r.map (PV.dA q z rs)))=L:=fun q z rs=>by
   conv=>rhs; rw[← List.map_id L]
   refine List.map_congr_left fun x hx=>?_;rw[l x (by simp[hx]) q z rs]; rfl
  rcases h.own 0 rfl with ⟨i,M⟩ | ⟨q,rs,i,_⟩
  ·obtain⟨φ,d,k1,k2,y,A⟩:=aN.giveUp L (h.aiZ 0) (fun x hx=>l x (by simp[hx])) hB;refine⟨φ,d,fun x hx=>?_,k2,y,A⟩;rw[a6V] at hx;rcases hx with rfl | hx
   ·exact .inl ⟨i,by simp only; rw[M]; exact k2 _ rfl⟩
   ·exact k1 x hx
  ·subst i;obtain⟨rs,Q,S,W,U,J⟩:=h.frz 0 rfl;have V:aN (H.frz q s rs) B L:=by
    have K:(B.map fun b=>(b.1,b.2.frz q s rs))=B:=by
     conv=>rhs; rw[← List.map_id B]
     refine List.map_congr_left fun b N=>?_;rw[hB b N q s rs]; rfl
    rw[K] at J;have:=J;simp only[List.eraseIdx_cons_zero] at this
    rwa [c q s rs] at this
   obtain⟨φ,d,k1,k2,y,A⟩:=aN.giveUp L V (fun x hx=>l x (by simp[hx])) hB;refine⟨fun u=>φ (PV.dA q s rs u),d,fun x hx=>?_,fun u E=>?_,y,fun cs R p=>?_⟩
   ·rw[a6V] at hx;rcases hx with rfl | hx
    ·simp only;rw[S];exact .inr (k2 _ rfl)
    ·obtain⟨j,O⟩:=List.mem_iff_getElem?.1 hx;have:=U (j+1) x Om (by simpa using O);simp only;rw[this];exact k1 x hx
   ·simp only;rw[ja E,k2 u E]
   ·refine .step Q ?_;have e:PV.frz q s rs (.agg cs)=.agg (cs.map (PV.dA q s rs)):=rfl;rw[e];refine A _ R ?_;rw[List.map_map];exact p
theorem zz {K:bQ} {α:Type} {c:α→PF} {Hs:α→PH} {d:α→Prop} {m:α→Nat} {n q s:Nat} {rs:List (List PV)} (a:α) (u:H q=some (.rows s rs)) (e:d a) (p:m a<n) (i:(c a).le (F.frz q s rs)) (l:(Hs a).le (H.frz q s rs)):fB c Hs d m n K .normal F H :=
 ⟨a,_,_,.step q u (.refl _ _),e,p,i,l⟩
end
structure AS (C:Ctx):Prop extends NT C where
 int:∀ n:Int,dE n→aG C 47 [.int .i64 n] .nil (aF (.agg (mkT n 1).cells))
 itoa:∀ n:Nat,n<100→aG C 195 [.int .i64 n] .nil (aF (.str (cT n)))
 next:∀ (l:List Nat) (v:PV),Tp l v→∀ (o n a:Nat),n≤1000000→a≤l.length→aG C 4 [.ptr o 2 0 0,.int .i64 n] (PH.nil.set o (bN v a)) (e7 l v o n a)
section
variable {C:Ctx} {F:PF} {H:PH} {l:List Nat} {v:PV} {o a:Nat}
theorem dJ (e:AS C) (T:Tp l v) {n:Nat} {args:List aP} {d:Option Nat} {K:PF→PH→Prop} (q:n≤1000000) (i:a≤l.length) (c:aP.evs F args=some [.ptr o 2 0 0,.int .i64 n]) (u:H o=some (bN v a))
  (p:K (F.put d (.int .i64 ((aK l n a).1:Nat))) (H.set o (bN v (aK l n a).2))):hZ C 4 args [] d K F H :=
 mK (e.next l v T o n a q i) u c p
end
def aMM (l:List Nat) (v:PV) (o a:Nat) (r:PV) (H:PH):Prop:=r=.agg (fK l a).1.cells∧H=PH.nil.set o (bN v (fK l a).2)
theorem tQ (l:List Nat) {a:Nat} (h:a≤l.length):(fK l a).2≤l.length:=bR l 8 (bR l 6 h)
theorem N0 {C:Ctx} (d:AS C) {l:List Nat} {v:PV} (T:Tp l v) (o a:Nat) (u:a≤l.length):JB.wp C (aV Gx.res (aMM l v o a)) (PF.args [.ptr o 2 0 0]) (PH.nil.set o (bN v a)):=by
 simp only[go_sem,JB,N1,Gx];refine aR fun p K=>?_;have x:¬ p=o:=(hC.1 K).1;have c:¬ o=p:=fun h=>x h.symm;have M:=eV l (show 0<6 by decide) a;have a1:=bR l 6 u;simp only[go_sem,N2];refine dJ d T (o:=o) (n:=6) (a:=a) (by decide) u rfl (by simp only[go_sem,c]) ?_;have B:IntKind.i64.wrap (1+((aK l 6 a).1:Int))=((1+(aK l 6 a).1:Nat):Int):=by rw[wrap_i64 Om Om]; omega
 simp only[go_sem,B];have N:=eV l (show 0<8 by decide) (aK l 6 a).2;refine dJ d T (o:=o) (n:=8) (a:=(aK l 6 a).2) (by decide) a1 rfl Sq ?_;have E:IntKind.i64.wrap (1+((aK l 8 (aK l 6 a).2).1:Int))=((1+(aK l 8 (aK l 6 a).2).1:Nat):Int):=by rw[wrap_i64 Om Om]; omega
 simp only[go_sem,E];refine aA (d.fmk ((1+(aK l 6 a).1:Nat):Int) ((1+(aK l 8 (aK l 6 a).2).1:Nat):Int) (by unfold dE; omega) (by unfold dE; omega)) rfl ?_;have J:¬ ((1+(aK l 8 (aK l 6 a).2).1:Nat):Int)=0:=Om;unfold vX;rw[if_neg J];simp only[go_sem];refine aR fun q w=>?_;have y:¬ q=o:=(hC.1 w).1;have A:¬ q=p:=(hC.1 (hC.1 w).2).1;have i:¬ p=q:=fun h=>A h.symm;have e:¬ o=q:=fun h=>y h.symm;simp only[go_sem,N3,x,c,y,A,i];refine bA (vs:=[.agg (fK l a).1.cells]) (.inr rfl) (PH.nil.set o (bN v (fK l a).2)) ?_ (PH.aJ a_ ?_) ⟨rfl,rfl⟩
 ·simp only[go_sem];rfl
 ·simp only[go_sem,c,e];rfl
structure eg (C:Ctx):Prop extends AS C where
 frac:∀ (l:List Nat) (v:PV),Tp l v→∀ (o a:Nat),a≤l.length→aG C 1 [.ptr o 2 0 0] (PH.nil.set o (bN v a)) (aMM l v o a)
abbrev fQ (l:List RF):List (List PV):=l.map RF.cells
theorem wW (l:List RF) (x:RF):fQ l++[x.cells]=fQ (l++[x]):=by simp[fQ]
theorem HP (l:List RF):Flat (fQ l):=Flat.map l fun x c d q s rs=>by
 simp only[RF.cells,eD,a6V,a7G,or_false] at d;rcases d with rfl | rfl | rfl<;>rfl
theorem lZ (l:List RF):(fQ l).length=l.length:=by simp[fQ]
theorem Tp.frz {l:List Nat} {v:PV} (T:Tp l v) (q s:Nat) (rs:List (List PV)):PV.dA q s rs v=v:=by
 rcases T.seen with ⟨_,rfl⟩ | rfl<;>rfl
theorem FY (l:List Nat) {a:Nat} (h:a≤l.length):∀ k,(mW l a k).2≤l.length
 | 0=>h
 | k+1=>tQ l (FY l h k)
theorem Q1 (l:List Nat) (a:Nat):∀ k,(mW l a k).1.length=k
 | 0=>rfl
 | k+1=>by simp only[mW,a6T,a6X,Q1 l a k]
def aTT (l:List Nat) (v:PV) (o a k:Nat) (r:PV) (H:PH):Prop:=r=frs (mW l a k).1∧H=PH.nil.set o (bN v (mW l a k).2)
def alG (o:Nat) (m:Nat) (w:PV) (i:Nat):PF:=((((PF.nil.set 0 (.ptr o 2 0 0)).set 1 (.int .i64 m)).set 5 (w)).set 6 (.int .i64 i))
theorem aaF {C:Ctx} (J:eg C) {l:List Nat} {v:PV} (T:Tp l v) (o a m:Nat) (S:m≤1000) (N:a≤l.length):QN.wp C (aV alF.res (aTT l v o a (max m 1))) (PF.args [.ptr o 2 0 0,.int .i64 m]) (PH.nil.set o (bN v a)):=by
 have p:∀ i:Nat,((i:Int)<(if (m:Int)<1 then 1 else (m:Int)))↔i<max m 1:=by intro i;split<;>omega
 simp only[go_sem,QN,aaG,aaH,aaI,alF];have K:aN (PH.nil.set o (bN v a)) [(o,bN v a)] [(.aB,3,fQ [])]:=(aN.nil.new (H:=PH.nil) rfl (bN v a)).mV 3;refine wp_loop (α:=Nat × PV × PH) (fun t=>alG o m t.2.1 t.1) (fun t=>t.2.2) (fun t=>t.1≤max m 1∧aN t.2.2 [(o,bN v (mW l a t.1).2)] [(t.2.1,3,fQ (mW l a t.1).1)]) (fun t=>max m 1-t.1) (0,.aB,PH.nil.set o (bN v a)) ⟨a6Q _,K⟩ ?_ b_ ?_
 ·unfold alG;exact Lq
 rintro⟨k,w,R⟩ ⟨O,d⟩;simp only at O d ⊢;simp only[go_sem,aaE,aaJ,alG];have A:=FY l N k;have c:=Q1 l a k;by_cases hlt:k<max m 1
 ·have y:=(p k).2 hlt;simp only[go_sem,y,aaK];refine mK (J.frac l v T o _ A) (d.at 0 rfl) rfl ?_;have x:=d.set 0 rfl (bN v (fK l (mW l a k).2).2);have u:(1:Nat)*3≤16777216:=by decide
  simp only[go_sem,u];refine x.append 0 (src:=[(fK l (mW l a k).2).1.cells]) rfl rfl (by unfold roomFor; rw[lZ,c]; simp only[a6X,maxLen]; omega) fun Q H' E _=>?_;rw[wW] at E;simp only[go_sem,aaL,wZz k];refine aD (k+1,Q,H') ⟨hlt,E⟩ (by simp only; omega) ?_ b_;exact Lq
 ·have y:¬ ((k:Int)<(if (m:Int)<1 then 1 else (m:Int))):=fun h=>hlt ((p k).1 h);have e:k=max m 1:=Om;subst e;simp only[go_sem,y,aaM];have B:fQ (mW l a (max m 1)).1≠[]:=fun h=>by have:=congrArg List.length h;rw[lZ,c] at this;simp at this
  rcases d.own 0 rfl with ⟨M,_⟩ | ⟨q,rs,rfl,_⟩
  ·exact absurd M B
  obtain⟨rs,g1,g2,g3,-,g4⟩:=d.frz 0 rfl;refine yM (vs:=[.osl q 3 0 (fQ (mW l a (max m 1)).1).length]) (.inr rfl) rfl (.step g1 (.done (H2:=PH.nil.set o (bN v (mW l a (max m 1)).2)) ?_ (PH.aJ a_ ?_)))
  ·rw[bO,g3];exact⟨rfl,rfl⟩
  ·have:=g4.at 0 rfl;rw[this];simp only[cC.frz,a8B,a8W,T.frz];rfl
theorem Ol {C:Ctx} (d:AS C) (s:List UInt8) (n:Nat) (p:s.length≤100) (e:n<100):JG.wp C (aV Gy.res (aF (.str (s++cT n)))) (PF.args [.str s,.int .i64 n]) .nil:=by
 have i:(cT n).length≤2:=by
  unfold cT;rw[Lib.decDigits];split
  ·simp
  ·rw[Lib.decDigits,dif_pos Om]; simp
 have c:¬ (((s.length+(cT n).length:Nat):Int)>9223372036854775807):=Om;simp only[go_sem,JG,On,Oo,Gy];refine aA (d.itoa n e) rfl ?_;simp only[go_sem,aiF,c];refine aQ (.inr rfl) rfl ?_;rfl
structure qN (C:Ctx):Prop extends eg C where
 rep:∀ (l:List Nat) (v:PV),Tp l v→∀ (o a m:Nat),m≤1000→a≤l.length→aG C 5 [.ptr o 2 0 0,.int .i64 m] (PH.nil.set o (bN v a)) (aTT l v o a (max m 1))
 name:∀ (s:List UInt8) (n:Nat),s.length≤100→n<100→aG C 29 [.str s,.int .i64 n] .nil (aF (.str (s++cT n)))
theorem aDC (l:List Nat) (i j:Nat) {a:Nat} (h:a≤l.length):(kD l i j a).2≤l.length:=by
 unfold kD;split
 ·exact tQ l h
 ·split
  ·exact h
  ·simp only;split
   ·exact tQ l (bR l 3 h)
   ·exact bR l 3 h
theorem wa (l:List Nat) (i:Nat) {a:Nat} (h:a≤l.length):∀ j,(eI l i a j).2≤l.length
 | 0=>h
 | j+1=>aDC l i j (wa l i h j)
theorem cv (l:List Nat) (i a:Nat):∀ j,(eI l i a j).1.length=j
 | 0=>rfl
 | j+1=>by simp only[eI,a6T,a6X,cv l i a j]
theorem aj (l:List Nat) (n i:Nat) (s:GH) (h:s.a≤l.length):(eG l n i s).2≤l.length∧(eG l n i s).1≤s.left:=by
 unfold eG;split
 ·exact⟨bR l _ h,by have:=eV l (Om:0<s.left+1) s.a; omega⟩
 ·exact⟨h,a6S _⟩
theorem J6 (l:List Nat) (n i:Nat) {a:Nat} (h:a≤l.length):(fP l n i a).2≤l.length:=by
 unfold fP;simp only;split
 ·exact bR l 3 (tQ l h)
 ·exact tQ l h
theorem uh (l:List Nat) (n:Nat) {a:Nat} (h:a≤l.length):∀ i,(gV l n a i).a≤l.length∧(gV l n a i).left≤8∧(gV l n a i).start.length=i∧(gV l n a i).exit.length=i∧(gV l n a i).a5E.length=i
 | 0=>⟨h,a6S _,rfl,rfl,rfl⟩
 | i+1=>by
  obtain⟨c,q,d,e,h5⟩:=uh l n h i;have p:=aj l n i (gV l n a i) c;refine⟨?_,?_,?_,?_,?_⟩
  ·exact wa l i (J6 l n i p.1) n
  ·simp only[gV]; omega
  ·simp only[gV,a6T,a6X,d]
  ·simp only[gV,a6T,a6X,e]
  ·simp only[gV,a6T,a6X,h5]
abbrev uD (l:List (List RF)):List (List PV):=l.map fun r=>[frs r]
theorem B9 (l:List (List RF)):Flat (uD l):=Flat.map l fun x c d q s rs=>by
 simp only[a6V,a7G,or_false] at d;subst d; rfl
abbrev ac (c d e:PV):cC:=.rows 4 [[.str [],c,d,e]]
abbrev Nc:cC:=.rows 4 [[.str [],.aB,.aB,.aB]]
def fC (o o4 o6 n left i:Nat) (w:PV) (j:Nat):PF:=((((((((PF.nil.set 0 (.ptr o 2 0 0)).set 4 (.ptr o4 4 0 0)).set 5 (.int .i64 n)).set 6 (.ptr o6 4 0 0)).set 7 (.int .i64 left)).set 8 (.int .i64 i)).set 13 (w)).set 14 (.int .i64 j))
def cU (o o4 o6 n left i:Nat):PF:=((((((PF.nil.set 0 (.ptr o 2 0 0)).set 4 (.ptr o4 4 0 0)).set 5 (.int .i64 n)).set 6 (.ptr o6 4 0 0)).set 7 (.int .i64 left)).set 8 (.int .i64 i))
theorem ap {l:List RF} (h:l.length≤1000):roomFor (fQ l).length 1 56:=by
 unfold roomFor;rw[lZ];simp only[maxLen]; omega
theorem aGC {C:Ctx} (V:qN C) {l:List Nat} {v:PV} (T:Tp l v) (o o4 o6 n left i a:Nat) (ha:a≤l.length) (hn:n≤100) (hi:i<n) (B:List BX) (L:List LI) (K:bQ) (F:PF) (H:PH)
  (hF:(fC o o4 o6 n left i .aB 0).le F) (O:aN H ((o,bN v a)::B) L)
  (hK:∀ w d H',(fC o o4 o6 n left i w n).le d→aN H' ((o,bN v (eI l i a n).2)::B) (L++[(w,3,fQ (eI l i a n).1)])→K (.exit 2) d H') :
  aC.wp C (.loop JE) K F H:=by
 refine wp_loop (α:=Nat × PV × PH) (fun t=>fC o o4 o6 n left i t.2.1 t.1) (fun t=>t.2.2) (fun t=>t.1≤n∧aN t.2.2 ((o,bN v (eI l i a t.1).2)::B) (L++[(t.2.1,3,fQ (eI l i a t.1).1)])) (fun t=>n-t.1) (0,.aB,H) ⟨a6Q _,O.mV 3⟩ hF b_ ?_;rintro⟨j,w,H0⟩ ⟨hj,O⟩;simp only at hj O ⊢;have N:=wa l i ha j;have δ:=cv l i a j;have e1:IntKind.i64.wrap ((i:Int)+1)=((i+1:Nat):Int):=cW Om;simp only[go_sem,JE,Oe,fC];by_cases hlt:j<n
 ·have A:(j:Int)<(n:Nat):=Om;simp only[go_sem,A,Of];refine aA (V.int 0 (by unfold dE; omega)) rfl ?_;simp only[go_sem];refine aR fun p hp=>?_;have e:=O.new hp (.rows 3 [lG.cells]);simp only[go_sem,Og,e1];have fin:∀ (d:PF) (H':PH),(fC o o4 o6 n left i w j).le d→d 15=some (.ptr p 3 0 0)→aN H' ((o,bN v (kD l i j (eI l i a j).2).2)::B++[(p,.rows 3 [(kD l i j (eI l i a j).2).1.cells])]) (L++[(w,3,fQ (eI l i a j).1)]) →
    aC.wp C (.region be) (eP 3 (fV C (aC.wp C (.region bf)) (fB (fun (t:Nat × PV × PH)=>fC o o4 o6 n left i t.2.1 t.1) (fun t=>t.2.2) (fun t=>t.1≤n∧aN t.2.2 ((o,bN v (eI l i a t.1).2)::B) (L++[(t.2.1,3,fQ (eI l i a t.1).1)])) (fun t=>n-t.1) (n-j) K))) d H':=by
   intro d H' c E Q;have f0:d 0=some (.ptr o 2 0 0):=c 0 _ (by unfold fC; simp only[go_sem]);have f4:d 4=some (.ptr o4 4 0 0):=c 4 _ (by unfold fC; simp only[go_sem]);have f5:d 5=some (.int .i64 n):=c 5 _ (by unfold fC; simp only[go_sem]);have f6:d 6=some (.ptr o6 4 0 0):=c 6 _ (by unfold fC; simp only[go_sem]);have f7:d 7=some (.int .i64 left):=c 7 _ (by unfold fC; simp only[go_sem]);have f8:d 8=some (.int .i64 i):=c 8 _ (by unfold fC; simp only[go_sem]);have f13:d 13=some w:=c 13 _ (by unfold fC; simp only[go_sem]);have f14:d 14=some (.int .i64 j):=c 14 _ (by unfold fC; simp only[go_sem]);have β:H' p=some (.rows 3 [(kD l i j (eI l i a j).2).1.cells]):=Q.box (p,.rows 3 [(kD l i j (eI l i a j).2).1.cells]) (by simp);have X:(1:Nat)*3≤16777216:=by decide
   simp only[go_sem,be,f13,E,β,X];refine Q.append (v:=w) (s:=3) (rows:=fQ (eI l i a j).1) L.length (src:=[(kD l i j (eI l i a j).2).1.cells]) (by simp) rfl (ap Om) fun w' H2 h2 _=>?_;rw[wW,a9H _ _ (a6S _),a9N] at h2;simp only[go_sem,bf,f14,wZz j];refine aD (α:=Nat × PV × PH) (j+1,w',H2) ⟨hlt,h2.sub (List.sublist_append_left ..) (a8L.refl _)⟩ (by simp only; omega) ?_ b_;unfold fC;exact Lq
  simp only[aC.wp,go_sem] at fin;have U:∀ x:RF,PH.set (PH.set H0 p (.rows 3 [lG.cells])) p (.rows 3 [x.cells])=PH.set H0 p (.rows 3 [x.cells]):=fun x=>PH.set_set p _ _;have draw:∀ (d:PF) (R:PH) (a1:Nat),a1≤l.length→(fC o o4 o6 n left i w j).le d→d 15=some (.ptr p 3 0 0)→aN R ((o,bN v a1)::B++[(p,.rows 3 [lG.cells])]) (L++[(w,3,fQ (eI l i a j).1)])→kD l i j (eI l i a j).2=fK l a1→∀ K',(∀ M H2,(fC o o4 o6 n left i w j).le M→M 15=some (.ptr p 3 0 0)→aN H2 ((o,bN v (kD l i j (eI l i a j).2).2)::B++[(p,.rows 3 [(kD l i j (eI l i a j).2).1.cells])]) (L++[(w,3,fQ (eI l i a j).1)])→K' M H2) →
    wpOps C bd K' d R:=by
   intro d R a1 Z c E e J K' Y;have f0:d 0=some (.ptr o 2 0 0):=c 0 _ (by unfold fC; simp only[go_sem]);simp only[go_sem,bd,f0];refine mK (V.frac l v T o a1 Z) (e.at 0 rfl) rfl ?_;have y:aN (R.set o (bN v (fK l a1).2)) ((o,bN v (fK l a1).2)::B++[(p,.rows 3 [lG.cells])]) (L++[(w,3,fQ (eI l i a j).1)]):=e.set 0 rfl _;have γ:=y.NY;simp only[go_sem,E,γ];refine Y _ _ ?_ (by simp only[go_sem,E]) ?_
   ·have g:=fun (q:Nat) u h=>c q u h;unfold fC at g ⊢;refine d_ (d_ (d_ (d_ (d_ (d_ (d_ (d_ c_ ?_) ?_) ?_) ?_) ?_) ?_) ?_) ?_
    ·simp only[go_sem,f0]
    ·simp only[go_sem,g 4 _ rfl]
    ·simp only[go_sem,g 5 _ rfl]
    ·simp only[go_sem,g 6 _ rfl]
    ·simp only[go_sem,g 7 _ rfl]
    ·simp only[go_sem,g 8 _ rfl]
    ·simp only[go_sem,g 13 _ rfl]
    ·simp only[go_sem,g 14 _ rfl]
   ·rw[J];exact y.wc (.rows 3 [(fK l a1).1.cells])
  by_cases S:j=i+1
  ·have J:kD l i j (eI l i a j).2=fK l (eI l i a j).2:=by unfold kD; rw[if_pos S]
   simp only[go_sem,bH (Om:(j:Int)=((i+1:Nat):Int))];refine draw _ _ _ N (by unfold fC; exact Lq) rfl e J _ ?_;intro M H2 k1 k2 k3;exact fin M H2 k1 k2 k3
  ·simp only[go_sem,bF (Om:¬ (j:Int)=((i+1:Nat):Int))];by_cases W:j=i
   ·have J:kD l i j (eI l i a j).2=(lG,(eI l i a j).2):=by unfold kD; rw[if_neg S,if_pos W]
    simp only[go_sem,cA (Om:(j:Int)=(i:Int))];exact fin _ _ (by unfold fC; exact Lq) rfl (by rw[J]; exact e)
   ·simp only[go_sem,dK (Om:¬ (j:Int)=(i:Int))];refine dJ V.toAS T (o:=o) (n:=3) (a:=(eI l i a j).2) (by decide) N rfl (e.at 0 rfl) ?_;have y:aN _ ((o,bN v (aK l 3 (eI l i a j).2).2)::B++[(p,.rows 3 [lG.cells])]) (L++[(w,3,fQ (eI l i a j).1)]):=e.set 0 rfl _;by_cases c3:(aK l 3 (eI l i a j).2).1=0
    ·have J:kD l i j (eI l i a j).2=fK l (aK l 3 (eI l i a j).2).2:=by unfold kD; rw[if_neg S,if_neg W]; simp only[c3,if_true]
     simp only[go_sem,bH (show (((aK l 3 (eI l i a j).2).1:Nat):Int)=0 by omega)];refine draw _ _ _ (bR l 3 N) (by unfold fC; exact Lq) rfl y J _ ?_;intro M H2 k1 k2 k3;exact fin M H2 k1 k2 k3
    ·have J:kD l i j (eI l i a j).2=(lG,(aK l 3 (eI l i a j).2).2):=by unfold kD; rw[if_neg S,if_neg W]; simp only[c3,if_false]
     simp only[go_sem,bF (show ¬ (((aK l 3 (eI l i a j).2).1:Nat):Int)=0 by omega)];exact fin _ _ (by unfold fC; exact Lq) rfl (by rw[J]; exact y)
 ·have A:¬ (j:Int)<(n:Nat):=Om;have:j=n:=Om;subst this;simp only[go_sem,A];exact hK w _ _ (by unfold fC; exact Lq) O
abbrev qX (o o4 o6:Nat) (v c d e:PV) (a:Nat):List BX:=[(o,bN v a),(o4,Nc),(o6,ac c d e)]
abbrev uR (s:GH) (c d e:PV):List LI:=[(c,3,fQ s.start),(d,1,uD s.a5E),(e,3,fQ s.exit)]
theorem atF {C:Ctx} (E:qN C) {l:List Nat} {v:PV} (T:Tp l v) (o o4 o6 n i:Nat) (s:GH) (A:s.a≤l.length) (S:s.left≤8) (U:n≤100) (hi:i<n) (B:List BX) (L:List LI) (rest:aC) (K:bQ) (F:PF) (H:PH)
  (d:(cU o o4 o6 n s.left i).le F) (w:aN H ((o,bN v s.a)::B) L)
  (p:∀ q H',(cU o o4 o6 n (s.left-(eG l n i s).1) i).le q→q 9=some (.int .i64 ((eG l n i s).1:Nat))→aN H' ((o,bN v (eG l n i s).2)::B) L→aC.wp C rest K q H') :
  aC.wp C (.seq (.region ul) (.seq (.seq (.region um) (.cond (.tmp 29) (.region uo) .skip)) (.seq (.region US) rest))) K F H:=by
 have f0:F 0=some (.ptr o 2 0 0):=d 0 _ (by unfold cU; simp only[go_sem]);have Q:F 4=some (.ptr o4 4 0 0):=d 4 _ (by unfold cU; simp only[go_sem]);have N:F 5=some (.int .i64 n):=d 5 _ (by unfold cU; simp only[go_sem]);have f6:F 6=some (.ptr o6 4 0 0):=d 6 _ (by unfold cU; simp only[go_sem]);have f7:F 7=some (.int .i64 s.left):=d 7 _ (by unfold cU; simp only[go_sem]);have O:F 8=some (.int .i64 i):=d 8 _ (by unfold cU; simp only[go_sem]);have J:IntKind.i64.wrap ((i:Int)+1)=((i+1:Nat):Int):=cW Om;have R:=(aj l n i s A).2;have e:IntKind.i64.wrap ((s.left:Int)-((eG l n i s).1:Int))=((s.left-(eG l n i s).1:Nat):Int):=by rw[wrap_i64 Om Om]; omega
 simp only[go_sem,ul,f7,um,O,N,J];by_cases c:i+1<n
 ·have u:((i+1:Nat):Int)<(n:Nat):=Om;have y:eG l n i s=aK l (s.left+1) s.a:=by unfold eG; rw[if_pos c]
  have M:IntKind.i64.wrap ((s.left:Int)+1)=((s.left+1:Nat):Int):=cW Om;rw[y] at p e;simp only[go_sem,u,uo,f0,f7,M];refine dJ E.toAS T (o:=o) (n:=s.left+1) (a:=s.a) Om A rfl w.aTZ ?_;have x:=w.aRQ (bN v (aK l (s.left+1) s.a).2);simp only[go_sem,US,f7,e];refine p _ _ ?_ rfl x;unfold cU;exact Lq
 ·have u:¬ ((i+1:Nat):Int)<(n:Nat):=Om;have y:eG l n i s=(s.left,s.a):=by unfold eG; rw[if_neg c]
  rw[y] at p e;simp only at p e;simp only[go_sem,u,US,f7,e];refine p _ _ ?_ rfl w;unfold cU;exact Lq
theorem akT {C:Ctx} (O:qN C) {l:List Nat} {v:PV} (o o4 o6 n i left k a:Nat) (hk:k≤8) (hi:i<n) (hn:n≤100) (s:GH) (hs:s.start.length=i) (N u w:PV) (B:List BX) (rest:aC) (K:bQ) (F:PF) (H:PH)
  (e:(cU o o4 o6 n left i).le F) (Q:F 9=some (.int .i64 k)) (V:aN H (qX o o4 o6 v N u w a++B) (uR s N u w))
  (W:∀ d M H' B',(cU o o4 o6 n left i).le M→aN H' (qX o o4 o6 v d u w a++B') (uR { s with start:=s.start++[mkT (k:Nat) 8] } d u w)→aC.wp C rest K M H') :
  aC.wp C (.seq (.region au) (.seq (.region av) rest)) K F H:=by
 have f0:F 0=some (.ptr o 2 0 0):=e 0 _ (by unfold cU; simp only[go_sem]);have Z:F 4=some (.ptr o4 4 0 0):=e 4 _ (by unfold cU; simp only[go_sem]);have f5:F 5=some (.int .i64 n):=e 5 _ (by unfold cU; simp only[go_sem]);have f6:F 6=some (.ptr o6 4 0 0):=e 6 _ (by unfold cU; simp only[go_sem]);have f7:F 7=some (.int .i64 left):=e 7 _ (by unfold cU; simp only[go_sem]);have f8:F 8=some (.int .i64 i):=e 8 _ (by unfold cU; simp only[go_sem]);simp only[go_sem,au,Q];refine aA (O.fmk (k:Int) 8 (by unfold dE; omega) (by unfold dE; omega)) rfl ?_;unfold vX;rw[if_neg (by decide)];simp only[go_sem];refine aR fun p X=>?_;have c:=V.new X (.rows 3 [(mkT (k:Nat) 8).cells]);have R:=c.at 2 rfl;have S:=c.NY;have A:(1:Nat)*3≤16777216:=by decide
 have Y:∀ y,PH.set (PH.set H p (.rows 3 [[PV.bool false,PV.aB,PV.aB]])) p y=PH.set H p y:=fun y=>PH.set_set p _ _;simp only[go_sem,av,f6,R,S,A];refine c.append 0 (src:=[(mkT (k:Nat) 8).cells]) rfl rfl (ap Om) fun d H2 E J=>?_;rw[wW] at E J; rw[lZ] at J;obtain⟨q,rfl⟩:=J (by simp);have x:=E.at 2 rfl;simp only[go_sem,x,a6V,a7G,or_false,forall_eq];have U:=E.set 2 rfl (ac (.osl q 3 0 (s.start++[mkT (k:Nat) 8]).length) u w);refine W _ _ _ (B++[(p,.rows 3 [(mkT (k:Nat) 8).cells])]) ?_ U;unfold cU;exact Lq
theorem atE {C:Ctx} (O:qN C) {l:List Nat} {v:PV} (T:Tp l v) (o o4 o6 n i left a:Nat) (ha:a≤l.length) (hi:i<n) (hn:n≤100) (s:GH) (hs:s.exit.length=i) (u w M:PV) (B:List BX) (rest:aC) (K:bQ) (F:PF) (H:PH)
  (J:(cU o o4 o6 n left i).le F) (hH:aN H (qX o o4 o6 v u w M a++B) (uR s u w M))
  (hK:∀ E d H' B',(cU o o4 o6 n left i).le d→aN H' (qX o o4 o6 v u w E (fP l n i a).2++B') (uR { s with exit:=s.exit++[(fP l n i a).1] } u w E)→aC.wp C rest K d H') :
  aC.wp C (.seq (.region aw) (.seq (.seq (.region ay) (.cond (.tmp 58) (.region ba) .skip)) (.seq (.region JF) rest))) K F H:=by
 have f0:F 0=some (.ptr o 2 0 0):=J 0 _ (by unfold cU; simp only[go_sem]);have f4:F 4=some (.ptr o4 4 0 0):=J 4 _ (by unfold cU; simp only[go_sem]);have f5:F 5=some (.int .i64 n):=J 5 _ (by unfold cU; simp only[go_sem]);have f6:F 6=some (.ptr o6 4 0 0):=J 6 _ (by unfold cU; simp only[go_sem]);have f7:F 7=some (.int .i64 left):=J 7 _ (by unfold cU; simp only[go_sem]);have f8:F 8=some (.int .i64 i):=J 8 _ (by unfold cU; simp only[go_sem]);have e1:IntKind.i64.wrap ((i:Int)+1)=((i+1:Nat):Int):=cW Om;simp only[go_sem,aw,f0];refine mK (O.frac l v T o a ha) (hH.at 0 rfl) rfl ?_;have X:=hH.set 0 rfl (bN v (fK l a).2);simp only[go_sem];refine aR fun p hp=>?_;have y:=X.new hp (.rows 3 [(fK l a).1.cells]);simp only[go_sem,ay,f8,f5,e1];have fin:∀ (d:PF) (H':PH),(cU o o4 o6 n left i).le d→d 12=some (.ptr p 3 0 0)→aN H' (qX o o4 o6 v u w M (fP l n i a).2++B++[(p,.rows 3 [(fP l n i a).1.cells])]) (uR s u w M)→wpOps C JF (aC.wp C rest K) d H':=by
  intro d H' e R x;have q0:d 0=some (.ptr o 2 0 0):=e 0 _ (by unfold cU; simp only[go_sem]);have q4:d 4=some (.ptr o4 4 0 0):=e 4 _ (by unfold cU; simp only[go_sem]);have q5:d 5=some (.int .i64 n):=e 5 _ (by unfold cU; simp only[go_sem]);have q6:d 6=some (.ptr o6 4 0 0):=e 6 _ (by unfold cU; simp only[go_sem]);have q7:d 7=some (.int .i64 left):=e 7 _ (by unfold cU; simp only[go_sem]);have q8:d 8=some (.int .i64 i):=e 8 _ (by unfold cU; simp only[go_sem]);have g6:=x.at 2 rfl;have U:=x.NY;have V:(1:Nat)*3≤16777216:=by decide
  simp only[go_sem,JF,q6,g6,R,U,V];refine x.append 2 (src:=[(fP l n i a).1.cells]) rfl rfl (ap Om) fun E H2 W Z=>?_;rw[wW] at W Z; rw[lZ] at Z;obtain⟨q,rfl⟩:=Z (by simp);have S:=W.at 2 rfl;simp only[go_sem,S,a6V,a7G,or_false,forall_eq];have h3:=W.set 2 rfl (ac u w (.osl q 3 0 (s.exit++[(fP l n i a).1]).length));refine hK _ _ _ (B++[(p,.rows 3 [(fP l n i a).1.cells])]) ?_ h3;unfold cU;exact Lq
 by_cases c:i+1<n
 ·have Q:((i+1:Nat):Int)<(n:Nat):=Om;have Y:=tQ l ha;simp only[go_sem,Q,f0];refine dJ O.toAS T (o:=o) (n:=3) (a:=(fK l a).2) (by decide) Y rfl (y.at 0 rfl) ?_;have A:=y.set 0 rfl (bN v (aK l 3 (fK l a).2).2);by_cases c3:(aK l 3 (fK l a).2).1=0
  ·have N:fP l n i a=(lG,(aK l 3 (fK l a).2).2):=by unfold fP; simp only[if_pos c,c3,if_true]
   have U:=aN.NY (B:=qX o o4 o6 v u w M (aK l 3 (fK l a).2).2++B) A;simp only[go_sem,bH (show (((aK l 3 (fK l a).2).1:Nat):Int)=0 by omega),ba];refine aA (O.int 0 (by unfold dE; omega)) rfl ?_;simp only[go_sem,U];refine fin _ _ ?_ rfl ?_
   ·unfold cU;exact Lq
   ·rw[N];exact aN.wc (B:=qX o o4 o6 v u w M (aK l 3 (fK l a).2).2++B) A (.rows 3 [lG.cells])
  ·have N:fP l n i a=((fK l a).1,(aK l 3 (fK l a).2).2):=by unfold fP; simp only[if_pos c,c3,if_false]
   simp only[go_sem,bF (show ¬ (((aK l 3 (fK l a).2).1:Nat):Int)=0 by omega)];refine fin _ _ ?_ rfl ?_
   ·unfold cU;exact Lq
   ·rw[N];exact A
 ·have Q:¬ ((i+1:Nat):Int)<(n:Nat):=Om;have N:fP l n i a=fK l a:=by unfold fP; simp only[if_neg c]
  simp only[go_sem,Q];refine fin _ _ ?_ rfl ?_
  ·unfold cU;exact Lq
  ·rw[N];exact y
def aCJ (l:List Nat) (v:PV) (o dV a:Nat) (r:PV) (H:PH):Prop:=r=.agg (zO l dV a).1.cells∧H=PH.nil.set o (bN v (zO l dV a).2)
theorem auV {l:List (List RF)} (h:l.length≤1000):roomFor (uD l).length 1 24:=by
 unfold roomFor;simp only[a6K,maxLen]; omega
theorem auW (l:List (List RF)) (x:List RF):uD l++[[frs x]]=uD (l++[x]):=by simp[uD]
theorem akS {C:Ctx} (Z:qN C) {l:List Nat} {v:PV} (T:Tp l v) (o o4 o6 n left i a:Nat) (ha:a≤l.length) (hn:n≤100) (hi:i<n) (s:GH) (hs:s.a5E.length=i) (u M A:PV) (B:List BX) (K:bQ) (F:PF) (H:PH)
  (E:(cU o o4 o6 n left i).le F) (hH:aN H (qX o o4 o6 v u M A a++B) (uR s u M A))
  (hK:∀ y x U H' B',(cU o o4 o6 n left i).le U→(∃ q,x=.osl q 3 0 n)→aN H' (qX o o4 o6 v u y A (eI l i a n).2++B') [(u,3,fQ s.start),(y,1,uD s.a5E++[[x]]),(A,3,fQ s.exit),(x,3,fQ (eI l i a n).1)]→K .normal U H') :
  aC.wp C (.seq (.region bb) (.seq (.seq (.region bc) (.block 2 (.loop JE))) (.region bg))) K F H:=by
 have f0:F 0=some (.ptr o 2 0 0):=E 0 _ (by unfold cU; simp only[go_sem]);have f4:F 4=some (.ptr o4 4 0 0):=E 4 _ (by unfold cU; simp only[go_sem]);have f5:F 5=some (.int .i64 n):=E 5 _ (by unfold cU; simp only[go_sem]);have f6:F 6=some (.ptr o6 4 0 0):=E 6 _ (by unfold cU; simp only[go_sem]);have f7:F 7=some (.int .i64 left):=E 7 _ (by unfold cU; simp only[go_sem]);have f8:F 8=some (.int .i64 i):=E 8 _ (by unfold cU; simp only[go_sem]);simp only[go_sem,bb,bc];refine aGC (C:=C) Z T o o4 o6 n left i a ha hn hi ([(o4,Nc),(o6,ac u M A)]++B) (uR s u M A) _ _ H ?_ hH ?_
 ·unfold fC
  (repeat' (first|exact c_|refine d_ ?_ ?_))<;>first|(simp only[go_sem,f0,f4,f5,f6,f7,f8]<;>rfl)|rfl
 intro w e H1 c p;have d:=cv l i a n;have hw:∃ q,w=.osl q 3 0 n:=by
  rcases p.own (v:=w) 3 rfl with ⟨J,_⟩ | ⟨q,rs,J,_⟩
  ·have:=congrArg List.length J;rw[lZ,d] at this;simp at this; omega
  ·rw[lZ,d] at J;exact⟨q,J⟩
 obtain⟨q,rfl⟩:=hw;have g0:e 0=some (.ptr o 2 0 0):=c 0 _ (by unfold fC; simp only[go_sem]);have g4:e 4=some (.ptr o4 4 0 0):=c 4 _ (by unfold fC; simp only[go_sem]);have g5:e 5=some (.int .i64 n):=c 5 _ (by unfold fC; simp only[go_sem]);have V:e 6=some (.ptr o6 4 0 0):=c 6 _ (by unfold fC; simp only[go_sem]);have g7:e 7=some (.int .i64 left):=c 7 _ (by unfold fC; simp only[go_sem]);have g8:e 8=some (.int .i64 i):=c 8 _ (by unfold fC; simp only[go_sem]);have O:e 13=some (.osl q 3 0 n):=c 13 _ (by unfold fC; simp only[go_sem]);have b6:=p.at 2 rfl;have Q:(1:Nat)*1≤16777216:=by decide
 simp only[go_sem,bg,V,b6,O,Q,a6V,a7G,or_false,forall_eq];refine p.append 1 (src:=[[.osl q 3 0 n]]) rfl Sq (auV Om) fun y H2 W S=>?_;obtain⟨Y,rfl⟩:=S (by simp);have N:=W.at 2 rfl;simp only[go_sem,N,a6V,a7G,or_false,forall_eq];have X:=W.set 2 rfl (ac u (.osl Y 1 0 (uD s.a5E++[[PV.osl q 3 0 n]]).length) A);have R:(uD s.a5E++[[(PV.osl q 3 0 n:PV)]]).length=s.a5E.length+1:=by simp
 rw[R] at X ⊢;refine hK (.osl Y 1 0 (s.a5E.length+1)) (.osl q 3 0 n) _ _ B ?_ ⟨q,rfl⟩ X;unfold cU
 (repeat' (first|exact c_|refine d_ ?_ ?_))<;>first|(simp only[go_sem,g0,g4,g5,V,g7,g8]<;>rfl)|rfl
theorem Z3 {C:Ctx} (J:qN C) {l:List Nat} {v:PV} (T:Tp l v) (o dV a:Nat) (hm:0<dV) (γ:dV≤50) (ha:a≤l.length):QL.wp C (aV akR.res (aCJ l v o dV a)) (PF.args [.ptr o 2 0 0,.int .i64 dV]) (PH.nil.set o (bN v a)):=by
 have h0:aN (PH.nil.set o (bN v a)) [(o,bN v a)] []:=aN.nil.new (H:=PH.nil) rfl (bN v a);simp only[go_sem,QL,Z4,akR];refine aR fun o4 Z=>?_;have F:=h0.new Z Nc;simp only[go_sem,Z5];refine dJ J.toAS T (o:=o) (n:=dV) (a:=a) Om ha Sq (F.at 0 rfl) ?_;have h2:=F.set 0 rfl (bN v (aK l dV a).2);have hN:=eV l hm a;have X:=bR l dV ha;have e1:IntKind.i64.wrap (1+((aK l dV a).1:Int))=((1+(aK l dV a).1:Nat):Int):=by rw[wrap_i64 Om Om]; omega
 have Y:∀ s:GH,s=gV l (1+(aK l dV a).1) (aK l dV a).2 (1+(aK l dV a).1)→zO l dV a=(⟨[],s.start,s.a5E,s.exit⟩,s.a):=fun s hs=>by rw[hs]; rfl
 have W:∀ r H,aCJ l v o dV a r H↔r=.agg (zO l dV a).1.cells∧H=PH.nil.set o (bN v (zO l dV a).2):=fun _ _=>Iff.rfl;generalize hn:1+(aK l dV a).1=n at *
 generalize hb:(aK l dV a).2=b at *
 have δ:0<n:=Om;have c:n≤100:=Om;simp only[go_sem,e1,Z6];refine aR fun o6 β=>?_;have h3:=((h2.new β Nc).mV 3).mV 1;have h4:=h3.mV 3;simp only[go_sem,Z7,Z8];refine wp_loop (α:=Nat × PV × PV × PV × PH) (fun t=>cU o o4 o6 n (gV l n b t.1).left t.1) (fun t=>t.2.2.2.2)
  (fun t=>t.1≤n∧aN t.2.2.2.2 (qX o o4 o6 v t.2.1 t.2.2.1 t.2.2.2.1 (gV l n b t.1).a) (uR (gV l n b t.1) t.2.1 t.2.2.1 t.2.2.2.1)) (fun t=>n-t.1) (0,.aB,.aB,.aB,_) ⟨a6Q _,h4⟩ ?_ b_ ?_
 ·unfold cU
  (repeat' (first|exact c_|refine d_ ?_ ?_))<;>first|(simp only[go_sem,gV]<;>rfl)|rfl
 rintro⟨i,w1,K,M,H0⟩ ⟨hi,B⟩;simp only at hi B ⊢;obtain⟨k1,k2,k3,k4,k5⟩:=uh l n X i;simp only[go_sem,Od,Z9,cU];by_cases hlt:i<n
 ·have y:(i:Int)<(n:Nat):=Om;have A:gV l n b (i+1)=⟨(gV l n b i).start++[mkT ((eG l n i (gV l n b i)).1:Nat) 8],(gV l n b i).exit++[(fP l n i (eG l n i (gV l n b i)).2).1],(gV l n b i).a5E++[(eI l i (fP l n i (eG l n i (gV l n b i)).2).2 n).1],(gV l n b i).left-(eG l n i (gV l n b i)).1,(eI l i (fP l n i (eG l n i (gV l n b i)).2).2 n).2⟩:=rfl;have kl:=aj l n i (gV l n b i) k1;have ke:=J6 l n i kl.1;generalize hs:gV l n b i=s at *
  simp only[go_sem,y];refine atF (C:=C) J T o o4 o6 n i s k1 k2 c hlt [(o4,Nc),(o6,ac w1 K M)] (uR s w1 K M) _ _ _ H0 (by unfold cU; exact Lq) B ?_;intro F1 H1 N f9 R;refine akT (C:=C) (l:=l) J o o4 o6 n i _ (eG l n i s).1 (eG l n i s).2 Om hlt c s k3 w1 K M [] _ _ F1 H1 N f9 R ?_;intro d F2 H2 B2 O S;refine atE (C:=C) J T o o4 o6 n i _ (eG l n i s).2 kl.1 hlt c { s with start:=s.start++[mkT ((eG l n i s).1:Nat) 8] } k4 d K M B2 _ _ F2 H2 O S ?_;intro e F3 H3 B3 Q U;refine akS (C:=C) J T o o4 o6 n _ i (fP l n i (eG l n i s).2).2 ke c hlt { s with start:=s.start++[mkT ((eG l n i s).1:Nat) 8],exit:=s.exit++[(fP l n i (eG l n i s).2).1] } k5 d K e B3 _ F3 H3 Q U ?_;rintro u ε E H4 B4 p ⟨q,rfl⟩ V;have g0:E 0=some (.ptr o 2 0 0):=p 0 _ (by unfold cU; simp only[go_sem]);have g4:E 4=some (.ptr o4 4 0 0):=p 4 _ (by unfold cU; simp only[go_sem]);have g5:E 5=some (.int .i64 n):=p 5 _ (by unfold cU; simp only[go_sem]);have g6:E 6=some (.ptr o6 4 0 0):=p 6 _ (by unfold cU; simp only[go_sem]);have g7:E 7=some (.int .i64 (s.left-(eG l n i s).1:Nat)):=p 7 _ (by unfold cU; simp only[go_sem]);have g8:E 8=some (.int .i64 i):=p 8 _ (by unfold cU; simp only[go_sem]);obtain⟨rs,z1,z2,z3,z4,z5⟩:=V.frz 3 rfl;have y1:=z4 0 _ (by decide) rfl;have y2:=z4 1 _ (by decide) rfl;have y3:=z4 2 _ (by decide) rfl;simp only at y1 y2 y3;have y4:=T.frz q 3 rs;simp only[go_sem,Oh,g8,wZz i];refine zz (i+1,d,u,e,H4.frz q 3 rs) z1 ⟨hlt,?_⟩ (by simp only; omega) ?_ b_
  ·rw[A];have eB:(qX o o4 o6 v d u e (eI l i (fP l n i (eG l n i s).2).2 n).2).map (fun b=>(b.1,b.2.frz q 3 rs))=qX o o4 o6 v d u e (eI l i (fP l n i (eG l n i s).2).2 n).2:=by simp only[a8B,a8W,cC.frz,y1,y2,y3,y4];rfl
   have eL:([(d,3,fQ (s.start++[mkT ((eG l n i s).1:Nat) 8])),(u,1,uD s.a5E++[[.osl q 3 0 n]]),(e,3,fQ (s.exit++[(fP l n i (eG l n i s).2).1]))]:List LI).map (fun x=>(x.1,x.2.1,x.2.2.map fun r=>r.map (PV.dA q 3 rs))) =
     uR ⟨s.start++[mkT ((eG l n i s).1:Nat) 8],s.exit++[(fP l n i (eG l n i s).2).1],s.a5E++[(eI l i (fP l n i (eG l n i s).2).2 n).1],s.left-(eG l n i s).1,(eI l i (fP l n i (eG l n i s).2).2 n).2⟩ d u e:=by
    have e2:(uD s.a5E++[[PV.osl q 3 0 n]]).map (fun r=>r.map (PV.dA q 3 rs))=uD (s.a5E++[(eI l i (fP l n i (eG l n i s).2).2 n).1]):=by rw[a7L,B9,a8B,a8W,a8B,a8W,z2,auW]
    show ([(d,3,(fQ (s.start++[mkT ((eG l n i s).1:Nat) 8])).map (fun r=>r.map (PV.dA q 3 rs))),(u,1,(uD s.a5E++[[PV.osl q 3 0 n]]).map (fun r=>r.map (PV.dA q 3 rs))),(e,3,(fQ (s.exit++[(fP l n i (eG l n i s).2).1])).map (fun r=>r.map (PV.dA q 3 rs)))]:List LI)=_;rw[HP,e2,HP]
   rw[← eB,← eL];exact z5.sub (by rw[a7L]; exact List.sublist_append_left ..) (a8L.refl _)
  ·rw[A]
   (repeat' (first|exact c_|refine d_ ?_ ?_))<;>first|(simp only[go_sem,g0,g4,g5,g6,g7,g8]<;>rfl)|rfl
 ·have y:¬ (i:Int)<(n:Nat):=Om;have:i=n:=Om;subst this;simp only[go_sem,y,Oi];have b4:=B.at 1 rfl;have b6:=B.at 2 rfl;have osl:∀ {w:PV} {z:Nat} {rows:List (List PV)},rows.length=i→bP H0 z w rows→∃ q,w=.osl q z 0 i:=by
   intro w z rows hr hO;rcases hO with ⟨F,_⟩ | ⟨q,rs,F,_⟩
   ·rw[F] at hr; simp at hr; omega
   ·exact⟨q,by rw[F,hr]⟩
  obtain⟨q1,rfl⟩:=osl (by rw[lZ,k3]) (B.own 0 rfl);obtain⟨q2,rfl⟩:=osl (by rw[a6K,k5]) (B.own 1 rfl);obtain⟨q3,rfl⟩:=osl (by rw[lZ,k4]) (B.own 2 rfl);have hR:=Y (gV l i b i) rfl;simp only[go_sem,b6,b4,a6V,a7G,or_false,forall_eq,forall_eq_or_imp];have x1:=B.set 1 rfl (ac (.osl q1 3 0 i) (.osl q2 1 0 i) (.osl q3 3 0 i));obtain⟨r1,s1,s2,s3,s4,s5⟩:=x1.frz 0 rfl;have u2:=s4 1 _ (by decide) rfl;have u3:=s4 2 _ (by decide) rfl;simp only at u2 u3;have u4:=T.frz q1 3 r1;obtain⟨r2,t1,t2,t3,t4,t5⟩:=s5.frz 0 rfl;have m3:=t4 1 _ (by decide) rfl;simp only at m3;have m4:=T.frz q2 1 r2;obtain⟨r3,n1,n2,n3,n4,n5⟩:=t5.frz 0 rfl;have n4:=T.frz q3 3 r3;refine yM (vs:=[.agg [.str [],.osl q1 3 0 i,.osl q2 1 0 i,.osl q3 3 0 i]]) (.inr rfl) ?_ (.step s1 (.step t1 (.step n1 (.done (H2:=PH.nil.set o (bN v (gV l i b i).a)) ?_ (PH.aJ a_ ?_)))))
  ·simp only[go_sem]
  ·rw[W,hR];refine⟨?_,rfl⟩;simp only[bO,PV.frz,PV.sH,a8B,a8W,s2,u2,u3,t2,m3,n2];simp only[PV.dA,HP _ _ _ _,B9 _ _ _ _]
  ·have:=n5.at 0 rfl;rw[this];simp only[cC.frz,a8B,a8W,u4,m4,n4];rfl
structure lO (C:Ctx):Prop extends qN C where
 law:∀ (l:List Nat) (v:PV),Tp l v→∀ (o dV a:Nat),0<dV→dV≤50→a≤l.length→aG C 2 [.ptr o 2 0 0,.int .i64 dV] (PH.nil.set o (bN v a)) (aCJ l v o dV a)
structure GOk (l:List Nat) (a4Z:Nat) (s:GS):Prop where
 a5I:s.a5I.length≤35
 a5S:s.a5S.length≤a4Z
 a:s.a≤l.length
theorem ZJ {l:List Nat} {mc a4Z dom:Nat} {s:GS} (h:GOk l a4Z s):∀ i,GOk l a4Z (kZ l mc a4Z dom s i)∧(kZ l mc a4Z dom s i).a5I=s.a5I
 | 0=>⟨h,rfl⟩
 | i+1=>by
  obtain⟨⟨c,p,d⟩,e⟩:=ZJ (mc:=mc) (dom:=dom) h i;simp only[kZ];split
  ·exact⟨⟨c,by simp only[a6T,a6X]; omega,bR l mc d⟩,e⟩
  ·exact⟨⟨c,p,d⟩,e⟩
theorem Xr {l:List Nat} {level dom a4Z:Nat} {s:GS} (h:GOk l a4Z s) (c:sI a4Z s=false):GOk l a4Z (tO l level dom s)∧∃ x:cE,(tO l level dom s).a5I=s.a5I++[x]∧x.level=(level:Int)∧x.parent=(dom:Int):=by
 obtain⟨i,d,e⟩:=h;unfold sI at c;rw[Bool.or_eq_false_iff] at c;have p:=of_decide_eq_false c.2;refine⟨⟨?_,d,?_⟩,_,rfl,rfl,rfl⟩
 ·simp only[tO,a6T,a6X]; omega
 ·have a1:=bR l 3 (bR l 16 e);simp only[tO];split
  ·exact bR l 6 a1
  ·exact a1
theorem ZK {l:List Nat} {level a4Z dom:Nat} {rec:Nat→GS→GS} (c:∀ d t,GOk l a4Z t→GOk l a4Z (rec d t)∧∃ u,(rec d t).a5I=t.a5I++u) {s:GS} (h:GOk l a4Z s) :
  ∀ i,GOk l a4Z (jB l level a4Z dom rec s i)∧∃ u,(jB l level a4Z dom rec s i).a5I=s.a5I++u
 | 0=>⟨h,[],by simp[jB]⟩
 | i+1=>by
  obtain⟨e,u,p⟩:=ZK c h i;simp only[jB];split
  ·exact⟨e,u,p⟩
  ·rename_i q;obtain⟨g1,x,g2,-⟩:=Xr (level:=level) (dom:=dom) e (by simpa using q);obtain⟨k1,w,k2⟩:=c ((tO l level dom (jB l level a4Z dom rec s i)).a5I.length-1) _ g1;exact⟨k1,u++[x]++w,by rw[k2,g2,p]; simp⟩
theorem ZL {l:List Nat} {mc a4Z:Nat}:∀ (k dom:Nat) {s:GS},GOk l a4Z s→GOk l a4Z (fF l mc a4Z k dom s)∧∃ u,(fF l mc a4Z k dom s).a5I=s.a5I++u
 | 0,dom,s,h=>by have c:GOk l a4Z { s with a:=(aK l 2 s.a).2 }:=⟨h.a5I,h.a5S,bR l 2 h.a⟩;obtain⟨e,i⟩:=ZJ (mc:=mc) (dom:=dom) c (1+(aK l 2 s.a).1);exact⟨e,[],by simp only[fF]; rw[i]; simp⟩
 | k+1,dom,s,h=>by have c:GOk l a4Z { s with a:=(aK l 2 s.a).2 }:=⟨h.a5I,h.a5S,bR l 2 h.a⟩;exact ZK (level:=4-k) (dom:=dom) (fun d t p=>ZL k d p) c (if 4-k=2 then 1 else 1+(aK l 2 s.a).1)
theorem ajV {l : List Nat} {level a4Z dom : Nat} {rec : Nat → GS → GS} {s : GS} {i : Nat} (h : sI a4Z (jB l level a4Z dom rec s i) = true) : ∀ n, i ≤ n → jB l level a4Z dom rec s n = jB l level a4Z dom rec s i := by
  intro n hn
  induction n with
  | zero => have : i = 0 := Om
            subst this; rfl
  | succ n ih =>
    rcases a7H n i with h' | h'
    · have : i = n + 1 := Om
      subst this; rfl
    · have e := ih h'
      simp only [jB];rw [e, if_pos h]
def mkS (l:List Nat) (v:PV):Spec:=fun name vs=>match name,vs with
 | 29,[.str s,.int _ i]=>some ([],fun _=>aF (.str (s++cT i.toNat)))
 | 47,[.int _ n]=>some ([],fun _=>aF (.agg (mkT n 1).cells))
 | 4,[.ptr o _ _ _,.int _ n]=>some ([o],fun c r H'=>∀ a,c o=some (bN v a)→e7 l v o n.toNat a r H')
 | _,_=>none
section
variable {C:Ctx} {F:PF} {H Hs:PH} {l:List Nat} {v:PV} {o a:Nat}
theorem rE (q:AS C) (T:Tp l v) {n:Nat} {st:Bool} {args:List aP} {d:Option Nat} {K:PF→PH→Prop} (A:n≤1000000) (u:a≤l.length) (e:aP.evs F args=some [.ptr o 2 0 0,.int .i64 n]) (B:H o=some (bN v a))
  (i:Hs.le (H.set o (bN v (aK l n a).2))) (w:K (F.put d (.int .i64 ((aK l n a).1:Nat))) (H.set o (bN v (aK l n a).2))):dOp C Hs (mkS l v) st (.call 4 args) d K F H:=by
 refine aDU (x:=bN v a) (y:=bN v (aK l n a).2) (r:=.int .i64 ((aK l n a).1:Nat)) (R:=fun p r H'=>∀ a,p o=some (bN v a)→e7 l v o n a r H') rfl B (q.next l v T o n a A u) ?_ ?_ e i w
 ·intro b c;rw[cN] at c;injection c with c
  injection c with _ c
  injection c with c _
  injection c with _ c
  injection c with c _
  injection c with _ c
  have:a=b:=Om;subst this;exact⟨rfl,rfl⟩
 ·intro J H' E;exact E a (by rw[cN])
theorem HD (i:qN C) {s:List UInt8} {n:Nat} {st:Bool} {args:List aP} {d:Option Nat} {K:PF→PH→Prop} (u:s.length≤100) (q:n<100) (c:aP.evs F args=some [.str s,.int .i64 n]) (e:Hs.le H) (p:K (F.put d (.str (s++cT n))) H) :
  dOp C Hs (mkS l v) st (.call 29 args) d K F H :=
 bM (v:=.str (s++cT n)) rfl (i.name s n u q) c e p
theorem aNT (i:AS C) {n:Int} {st:Bool} {args:List aP} {d:Option Nat} {K:PF→PH→Prop} (q:dE n) (c:aP.evs F args=some [.int .i64 n]) (e:Hs.le H) (p:K (F.put d (.agg (mkT n 1).cells)) H) :
  dOp C Hs (mkS l v) st (.call 47 args) d K F H :=
 bM (v:=.agg (mkT n 1).cells) rfl (i.int n q) c e p
end
theorem bP.sL {H:PH} {s:Nat} {v:PV} {rows:List (List PV)} (h:bP H s v rows):PV.sL v=some (.int .i64 (rows.length:Nat)):=by
 rcases h with ⟨rfl,rfl⟩ | ⟨q,rs,rfl,_⟩<;>rfl
abbrev jQ (l:List cE):List (List PV):=l.map cE.cells
abbrev lY (l:List dN):List (List PV):=l.map dN.cells
abbrev flB (ext wl d c e wp wv:PV):cC:=.rows 7 [[ext,wl,d,c,e,wp,wv]]
structure GE where
 o:Nat
 fo:Nat
 qm:Nat
 ext:PV
 wl:PV
 wp:PV
 wv:PV
abbrev GE.boxes (G:GE) (v:PV) (mc:Nat) (c d:PV) (a:Nat):List BX:=[(G.o,bN v a),(G.fo,flB G.ext G.wl (.osl G.qm 4 0 mc) c d G.wp G.wv)]
abbrev lC (s:GS) (c d:PV):List LI:=[(c,7,jQ s.a5I),(d,3,lY s.a5S)]
def eQ (G:GE) (dom a4Z level n i:Nat):PF:=(((((((PF.nil.set 0 (.ptr G.o 2 0 0)).set 1 (.ptr G.fo 7 0 0)).set 2 (.int .i64 dom)).set 3 (.int .i64 a4Z)).set 8 (.int .i64 level)).set 9 (.int .i64 n)).set 10 (.int .i64 i))
theorem bP.one {H:PH} {s:Nat} {v:PV} {rows:List (List PV)} (h:bP H s v rows) (c:0<rows.length):∃ q,v=.osl q s 0 rows.length:=by
 rcases h with ⟨rfl,_⟩ | ⟨q,rs,rfl,_⟩
 ·simp at c
 ·exact⟨q,rfl⟩
theorem N4 {C:Ctx} (Q:lO C) {l:List Nat} {v:PV} (T:Tp l v) (G:GE) (mc a4Z dom n:Nat) (γ:0<mc) (W:mc≤1000) (β:a4Z≤60) (hn:n≤10) (s:GS) (hs:GOk l a4Z s) (p w:PV) (K:bQ) (F:PF) (H:PH)
  (Z:(eQ G dom a4Z 5 n 0).le F) (u:aN H (G.boxes v mc p w s.a) (lC s p w))
  (hK:∀ E y X H',aN H' (G.boxes v mc E y (kZ l mc a4Z dom s n).a) (lC (kZ l mc a4Z dom s n) E y)→K (.exit 0) X H') :
  aC.wp C (.loop vQ) K F H:=by
 refine wp_loop (α:=Nat × PV × PV × PH) (fun t=>eQ G dom a4Z 5 n t.1) (fun t=>t.2.2.2) (fun t=>t.1≤n∧aN t.2.2.2 (G.boxes v mc t.2.1 t.2.2.1 (kZ l mc a4Z dom s t.1).a) (lC (kZ l mc a4Z dom s t.1) t.2.1 t.2.2.1)) (fun t=>n-t.1) (0,p,w,H) ⟨a6Q _,u⟩ Z b_ ?_;rintro⟨i,p,w,O⟩ ⟨hi,u⟩;simp only at hi u ⊢;obtain⟨M,-⟩:=ZJ (mc:=mc) (dom:=dom) hs i;have c:kZ l mc a4Z dom s (i+1)=(if (kZ l mc a4Z dom s i).a5S.length<a4Z then { kZ l mc a4Z dom s i with a5S:=(kZ l mc a4Z dom s i).a5S++[⟨[100]++cT (kZ l mc a4Z dom s i).a5S.length,((aK l mc (kZ l mc a4Z dom s i).a).1:Nat),(dom:Nat)⟩],a:=(aK l mc (kZ l mc a4Z dom s i).a).2 } else kZ l mc a4Z dom s i):=rfl;simp only[go_sem,vQ,an,eQ];by_cases hlt:i<n
 ·have d:(i:Int)<(n:Nat):=Om;generalize hg:kZ l mc a4Z dom s i=g at *
  have b1:=u.at 1 rfl;have N:=(u.own 1 rfl).sL;rw[a6K] at N;have R:=wZz i;simp only[go_sem,d,ao,show (((5:Nat):Int)==5)=true from rfl,Oa,b1,N];by_cases V:g.a5S.length<a4Z
  ·have x:(g.a5S.length:Int)<(a4Z:Nat):=Om;rw[if_pos V] at c;simp only[go_sem,x];have B:(PH.nil.set G.fo (flB G.ext G.wl (.osl G.qm 4 0 mc) p w G.wp G.wv)).le O:=PH.aJ a_ b1;refine bV (PH.nil.set G.fo (flB G.ext G.wl (.osl G.qm 4 0 mc) p w G.wp G.wv)) (mkS l v) B ?_;simp only[go_sem,Ob,b1,N];refine HD Q.toqN (s:=[100]) (n:=g.a5S.length) (by decide) (by have:=M.a5S; omega) rfl B ?_;simp only[go_sem];have ho:=u.at 0 rfl;have S:=u.set 0 rfl (bN v (aK l mc g.a).2);have J:=S.at 1 rfl;refine rE Q.toAS T (o:=G.o) (n:=mc) (a:=g.a) Om M.a rfl ho (PH.aJ a_ J) ?_;have A:(1:Nat)*3≤16777216:=by decide
   simp only[go_sem,A,a6V,a7G,or_false,forall_eq,forall_eq_or_imp];refine S.append 1 (src:=[(⟨[100]++cT g.a5S.length,((aK l mc g.a).1:Nat),(dom:Nat)⟩:dN).cells]) rfl rfl (by unfold roomFor; rw[a6K]; have:=M.a5S; simp only[a6X,maxLen]; omega) fun y H2 U hw=>?_;obtain⟨q,rfl⟩:=hw (by simp);have b2:=U.at 1 rfl;refine⟨PH.aJ a_ b2,?_⟩;refine bV .nil eM a_ ?_;simp only[go_sem,Oc,b2,a6V,a7G,or_false,forall_eq];have Y:=U.set 1 rfl (flB G.ext G.wl (.osl G.qm 4 0 mc) p (.osl q 3 0 (lY g.a5S++[(⟨[100]++cT g.a5S.length,((aK l mc g.a).1:Nat),(dom:Nat)⟩:dN).cells]).length) G.wp G.wv);refine⟨a_,?_⟩;simp only[go_sem,vS,R];refine aD (i+1,p,.osl q 3 0 (lY g.a5S++[(⟨[100]++cT g.a5S.length,((aK l mc g.a).1:Nat),(dom:Nat)⟩:dN).cells]).length,_) ⟨hlt,?_⟩ (by simp only; omega) ?_ b_
   ·rw[c];have e:lY (g.a5S++[(⟨[100]++cT g.a5S.length,((aK l mc g.a).1:Nat),(dom:Nat)⟩:dN)])=lY g.a5S++[(⟨[100]++cT g.a5S.length,((aK l mc g.a).1:Nat),(dom:Nat)⟩:dN).cells]:=by simp[lY]
    unfold lC;simp only;rw[e];exact Y
   ·exact Lq
  ·have x:¬ (g.a5S.length:Int)<(a4Z:Nat):=Om;rw[if_neg V] at c;simp only[go_sem,x,vS,R];refine aD (i+1,p,w,O) ⟨hlt,by rw[c]; exact u⟩ (by simp only; omega) ?_ b_;exact Lq
 ·have d:¬ (i:Int)<(n:Nat):=Om;have:i=n:=Om;subst this;simp only[go_sem,d];exact hK p w _ _ u
def ahT (G:GE) (v:PV) (mc:Nat) (s':GS) (r:PV) (B':List BX) (L':List LI):Prop:=r=.tup []∧∃ c d,B'=G.boxes v mc c d s'.a∧L'=lC s' c d
def ef (C:Ctx) (l:List Nat) (v:PV) (mc a4Z k:Nat):Prop :=
 ∀ (G:GE) (d e:PV) (s:GS) (dom:Nat) (x:cE),GOk l a4Z s→s.a5I[dom]?=some x→x.level=4-(k:Int)→∀ c,aN c (G.boxes v mc d e s.a) (lC s d e) →
  aG C 7 [.ptr G.o 2 0 0,.ptr G.fo 7 0 0,.int .i64 dom,.int .i64 a4Z] c (fun r H'=>∃ B' L',ahT G v mc (fF l mc a4Z k dom s) r B' L'∧aN H' B' L')
theorem asJ {lv:Nat} (h:lv≤4):([45,115,114,107,109]:List UInt8)[lv]?=some (oC lv):=by
 match lv,h with
 | 0,_=>rfl
 | 1,_=>rfl
 | 2,_=>rfl
 | 3,_=>rfl
 | 4,_=>rfl
theorem VX {C:Ctx} {l:List Nat} {v:PV} (G:GE) (mc a4Z dom lv n i k p:Nat) (β:lv=4-k) (hk:k<4) (w:ef C l v mc a4Z k) (g:GS) (x:cE) (a:Nat) (U:GOk l a4Z { g with a5I:=g.a5I++[x],a:=a }) (hx:x.level=(lv:Nat)) (V u:PV) (α:a4Z≤60) (K:bQ) (F:PF) (H:PH)
  (c:(eQ G dom a4Z lv n i).le F) (f11:F 11=some (.ptr p 7 0 0)) (E:aN H (G.boxes v mc V u a++[(p,.rows 7 [x.cells])]) (lC g V u))
  (hK:∀ d y R H',(eQ G dom a4Z lv n i).le R→aN H' (G.boxes v mc d y (fF l mc a4Z k g.a5I.length { g with a5I:=g.a5I++[x],a:=a }).a) (lC (fF l mc a4Z k g.a5I.length { g with a5I:=g.a5I++[x],a:=a }) d y)→K .normal R H') :
  aC.wp C (.draw QF) (fV C (aC.wp C (.region QG)) K) F H:=by
 have f0:F 0=some (.ptr G.o 2 0 0):=c 0 _ (by unfold eQ; simp only[go_sem]);have f1:F 1=some (.ptr G.fo 7 0 0):=c 1 _ (by unfold eQ; simp only[go_sem]);have f2:F 2=some (.int .i64 dom):=c 2 _ (by unfold eQ; simp only[go_sem]);have f3:F 3=some (.int .i64 a4Z):=c 3 _ (by unfold eQ; simp only[go_sem]);have f8:F 8=some (.int .i64 lv):=c 8 _ (by unfold eQ; simp only[go_sem]);have f9:F 9=some (.int .i64 n):=c 9 _ (by unfold eQ; simp only[go_sem]);have Z:F 10=some (.int .i64 i):=c 10 _ (by unfold eQ; simp only[go_sem]);have N:=U.a5I;simp only[a6T,a6X] at N;have b1:=E.at 1 rfl;have b2:=E.at 2 rfl;have A:(1:Nat)*7≤16777216:=by decide
 refine bV .nil eM a_ ?_;simp only[go_sem,QF,f1,f11,b1,b2,A,a6V,a7G,or_false,forall_eq,forall_eq_or_imp];refine E.append 0 (src:=[x.cells]) rfl rfl (by unfold roomFor; rw[a6K]; simp only[a6X,maxLen]; omega) fun d H2 B hw=>?_;obtain⟨q,rfl⟩:=hw (by simp);have hl:(jQ g.a5I++[x.cells]).length=g.a5I.length+1:=by simp
 rw[hl] at B ⊢;have X:=B.at 1 rfl;refine⟨a_,?_⟩;simp only[go_sem,X,a6V,a7G,or_false,forall_eq];have S:=B.set 1 rfl (flB G.ext G.wl (.osl G.qm 4 0 mc) (.osl q 7 0 (g.a5I.length+1)) u G.wp G.wv);have c2:=S.at 1 rfl;refine⟨a_,?_⟩;have e:jQ (g.a5I++[x])=jQ g.a5I++[x.cells]:=by simp[jQ]
 have Y:IntKind.i64.wrap (((g.a5I.length+1:Nat):Int)-1)=(g.a5I.length:Int):=by rw[wrap_i64 Om Om]; omega
 simp only[go_sem,QG,f0,f1,f3,Y];have h4:aN (H2.set G.fo (flB G.ext G.wl (.osl G.qm 4 0 mc) (.osl q 7 0 (g.a5I.length+1)) u G.wp G.wv)) (G.boxes v mc (.osl q 7 0 (g.a5I.length+1)) u a++[(p,.rows 7 [x.cells])]) (lC { g with a5I:=g.a5I++[x],a:=a } (.osl q 7 0 (g.a5I.length+1)) u++[]):=by unfold lC;simp only;rw[e];exact S
 refine EO h4 (fun W M=>w G _ u { g with a5I:=g.a5I++[x],a:=a } g.a5I.length x U (by simp) (by rw[hx]; omega) W M) rfl ?_;rintro r B' L' H' ⟨rfl,O,Q,rfl,rfl⟩ J;refine hK O Q _ _ ?_ (J.sub (List.sublist_append_left ..) (by rw[a8H]; exact a8L.refl _));unfold eQ;exact Lq
theorem NJ {C:Ctx} (S:lO C) {l:List Nat} {v:PV} (T:Tp l v) (G:GE) (mc a4Z dom n k:Nat) (hk:k<4) (V:a4Z≤60) (hn:n≤10) (O:ef C l v mc a4Z k) (s:GS) (hs:GOk l a4Z s) (ε:0<s.a5I.length) (M N:PV) (K:bQ) (F:PF) (H:PH)
  (hF:(eQ G dom a4Z (4-k) n 0).le F) (A:aN H (G.boxes v mc M N s.a) (lC s M N))
  (Y:∀ e x y w H',(e=.exit 0∨e=.ret)→aN H' (G.boxes v mc x y (jB l (4-k) a4Z dom (fF l mc a4Z k) s n).a) (lC (jB l (4-k) a4Z dom (fF l mc a4Z k) s n) x y)→K e w H') :
  aC.wp C (.loop vQ) K F H:=by
 obtain⟨lv,R⟩:∃ lv,lv=4-k:=⟨_,rfl⟩;rw[← R] at hF Y;refine wp_loop (α:=Nat × PV × PV × PH) (fun t=>eQ G dom a4Z lv n t.1) (fun t=>t.2.2.2) (fun t=>t.1≤n∧aN t.2.2.2 (G.boxes v mc t.2.1 t.2.2.1 (jB l lv a4Z dom (fF l mc a4Z k) s t.1).a) (lC (jB l lv a4Z dom (fF l mc a4Z k) s t.1) t.2.1 t.2.2.1)) (fun t=>n-t.1) (0,M,N,H) ⟨a6Q _,A⟩ hF b_ ?_;rintro⟨i,M,N,H0⟩ ⟨hi,A⟩;simp only at hi A ⊢;obtain⟨X,u,gu⟩:=ZK (level:=lv) (dom:=dom) (fun d t ht=>ZL (mc:=mc) k d ht) hs i;have E:=fun h=>ajV (l:=l) (level:=lv) (a4Z:=a4Z) (dom:=dom) (rec:=fF l mc a4Z k) (s:=s) (i:=i) h n hi;have q:jB l lv a4Z dom (fF l mc a4Z k) s (i+1)=(if sI a4Z (jB l lv a4Z dom (fF l mc a4Z k) s i) then jB l lv a4Z dom (fF l mc a4Z k) s i else fF l mc a4Z k ((tO l lv dom (jB l lv a4Z dom (fF l mc a4Z k) s i)).a5I.length-1) (tO l lv dom (jB l lv a4Z dom (fF l mc a4Z k) s i))):=rfl;simp only[go_sem,vQ,an,eQ];by_cases hlt:i<n
 ·have J:(i:Int)<(n:Nat):=Om;generalize hg:jB l lv a4Z dom (fF l mc a4Z k) s i=g at *
  have δ:0<g.a5I.length:=by rw[gu,a6T]; omega
  have b1:=A.at 1 rfl;have lr:=(A.own 1 rfl).sL;have ld:=(A.own 0 rfl).sL;rw[a6K] at lr ld;have ei:=wZz i;simp only[go_sem,J,ao,bF (Om:((lv:Nat):Int)≠5),Ao,b1,lr];by_cases c1:a4Z≤g.a5S.length
  ·have U:sI a4Z g=true:=by unfold sI; simp[c1]
   simp only[go_sem,show (g.a5S.length:Int)≥(a4Z:Nat) by omega];exact Y _ M N _ _ (.inr rfl) (by rw[E U]; exact A)
  simp only[go_sem,show ¬ (g.a5S.length:Int)≥(a4Z:Nat) by omega,b1,ld];by_cases c2:35≤g.a5I.length
  ·have U:sI a4Z g=true:=by unfold sI; simp[c2]
   simp only[go_sem,show (g.a5I.length:Int)≥35 by omega];exact Y _ M N _ _ (.inr rfl) (by rw[E U]; exact A)
  have U:sI a4Z g=false:=by unfold sI; simp[c1,c2]
  rw[if_neg (by rw[U]; decide)] at q;simp only[go_sem,show ¬ (g.a5I.length:Int)≥35 by omega];have ls:=asJ (Om:lv≤4);refine bV .nil (mkS l v) a_ ?_;have β:pB [[PV.int IntKind.u8 (((oC lv).toNat:Nat):Int)]]=some [oC lv]:=by simp[pB]
  obtain⟨W,x0,Z,-⟩:=Xr (level:=lv) (dom:=dom) X U;have γ:(tO l lv dom g).a5I.length-1=g.a5I.length:=by rw[Z]; simp
  rw[γ] at q;have h1:=A.set 0 rfl (bN v (aK l 16 g.a).2);have a1:=bR l 16 X.a;have n1:=eV l (show 0<16 by decide) g.a;have e1:IntKind.i64.wrap (1+((aK l 16 g.a).1:Int))=((1+(aK l 16 g.a).1:Nat):Int):=by rw[wrap_i64 Om Om]; omega
  simp only[go_sem,Ap,ls,β,b1,ld];refine HD S.toqN (s:=[oC lv]) (n:=g.a5I.length) (by simp) (by have:=X.a5I; omega) rfl a_ ?_;simp only[go_sem];refine rE S.toAS T (o:=G.o) (n:=16) (a:=g.a) Om X.a rfl (A.at 0 rfl) a_ ?_;simp only[go_sem,e1];refine aNT S.toAS (n:=0) (by unfold dE; omega) rfl a_ ?_;simp only[go_sem,a6V,a7G,or_false,forall_eq,forall_eq_or_imp];refine aR fun p hp=>?_;have h2:=h1.new hp (.rows 7 [(⟨[oC lv]++cT g.a5I.length,(lv:Nat),(dom:Nat),(1+(aK l 16 g.a).1:Nat),lG⟩:cE).cells]);simp only[go_sem,a6V,a7G,or_false,forall_eq,forall_eq_or_imp];refine⟨a_,?_⟩;simp only[go_sem,Aq];refine dJ S.toAS T (o:=G.o) (n:=3) (a:=(aK l 16 g.a).2) (by decide) a1 rfl (h2.at 0 rfl) ?_;have h3:=h2.set 0 rfl (bN v (aK l 3 (aK l 16 g.a).2).2);have a2:=bR l 3 a1;by_cases c3:(aK l 3 (aK l 16 g.a).2).1=0
  ·have hd:tO l lv dom g={ g with a5I:=g.a5I++[⟨[oC lv]++cT g.a5I.length,(lv:Nat),(dom:Nat),(1+(aK l 16 g.a).1:Nat),mkT 1 ((2+(aK l 6 (aK l 3 (aK l 16 g.a).2).2).1:Nat):Int)⟩],a:=(aK l 6 (aK l 3 (aK l 16 g.a).2).2).2 }:=by unfold tO; simp only[c3,if_true]
   rw[hd] at q W;have n2:=eV l (show 0<6 by decide) (aK l 3 (aK l 16 g.a).2).2;have e2:IntKind.i64.wrap (2+((aK l 6 (aK l 3 (aK l 16 g.a).2).2).1:Int))=((2+(aK l 6 (aK l 3 (aK l 16 g.a).2).2).1:Nat):Int):=by rw[wrap_i64 Om Om]; omega
   simp only[go_sem,bH (show (((aK l 3 (aK l 16 g.a).2).1:Nat):Int)=0 by omega),Ar];refine dJ S.toAS T (o:=G.o) (n:=6) (a:=(aK l 3 (aK l 16 g.a).2).2) (by decide) a2 rfl (h3.at 0 rfl) ?_;have h4:=h3.set 0 rfl (bN v (aK l 6 (aK l 3 (aK l 16 g.a).2).2).2);rw[PH.set_set] at h4;simp only[go_sem,e2];refine aA (S.fmk 1 ((2+(aK l 6 (aK l 3 (aK l 16 g.a).2).2).1:Nat):Int) (by unfold dE; omega) (by unfold dE; omega)) rfl ?_;unfold vX;rw[if_neg Om];simp only[go_sem,show ¬ p=G.o from h4.ne 2 0 rfl rfl (by decide)];have h5:=h4.set 2 rfl (.rows 7 [(⟨[oC lv]++cT g.a5I.length,(lv:Nat),(dom:Nat),(1+(aK l 16 g.a).1:Nat),mkT 1 ((2+(aK l 6 (aK l 3 (aK l 16 g.a).2).2).1:Nat):Int)⟩:cE).cells])
   try simp only[ww]
   refine VX G mc a4Z dom lv n i k p R hk O g _ _ W rfl M N V _ _ _ (by unfold eQ; exact Lq) rfl h5 ?_;intro x y w H' c B;rw[← q] at B;have Q:w 10=some (.int .i64 i):=c 10 _ (by unfold eQ; simp only[go_sem]);have g0:w 0=some (.ptr G.o 2 0 0):=c 0 _ (by unfold eQ; simp only[go_sem]);have g1:w 1=some (.ptr G.fo 7 0 0):=c 1 _ (by unfold eQ; simp only[go_sem]);have g2:w 2=some (.int .i64 dom):=c 2 _ (by unfold eQ; simp only[go_sem]);have g3:w 3=some (.int .i64 a4Z):=c 3 _ (by unfold eQ; simp only[go_sem]);have g8:w 8=some (.int .i64 lv):=c 8 _ (by unfold eQ; simp only[go_sem]);have g9:w 9=some (.int .i64 n):=c 9 _ (by unfold eQ; simp only[go_sem]);simp only[go_sem,vS,Q,ei];refine aD (i+1,x,y,H') ⟨hlt,B⟩ (by simp only; omega) ?_ b_;exact Lq
  ·have hd:tO l lv dom g={ g with a5I:=g.a5I++[⟨[oC lv]++cT g.a5I.length,(lv:Nat),(dom:Nat),(1+(aK l 16 g.a).1:Nat),lG⟩],a:=(aK l 3 (aK l 16 g.a).2).2 }:=by unfold tO; simp only[c3,if_false]
   rw[hd] at q W;simp only[go_sem,bF (show ¬ (((aK l 3 (aK l 16 g.a).2).1:Nat):Int)=0 by omega)]
   try simp only[ww]
   refine VX G mc a4Z dom lv n i k p R hk O g _ _ W rfl M N V _ _ _ (by unfold eQ; exact Lq) rfl h3 ?_;intro x y w H' c B;rw[← q] at B;have Q:w 10=some (.int .i64 i):=c 10 _ (by unfold eQ; simp only[go_sem]);have g0:w 0=some (.ptr G.o 2 0 0):=c 0 _ (by unfold eQ; simp only[go_sem]);have g1:w 1=some (.ptr G.fo 7 0 0):=c 1 _ (by unfold eQ; simp only[go_sem]);have g2:w 2=some (.int .i64 dom):=c 2 _ (by unfold eQ; simp only[go_sem]);have g3:w 3=some (.int .i64 a4Z):=c 3 _ (by unfold eQ; simp only[go_sem]);have g8:w 8=some (.int .i64 lv):=c 8 _ (by unfold eQ; simp only[go_sem]);have g9:w 9=some (.int .i64 n):=c 9 _ (by unfold eQ; simp only[go_sem]);simp only[go_sem,vS,Q,ei];refine aD (i+1,x,y,H') ⟨hlt,B⟩ (by simp only; omega) ?_ b_;exact Lq
 ·have J:¬ (i:Int)<(n:Nat):=Om;have:i=n:=Om;subst this;simp only[go_sem,J];exact Y _ M N _ _ (.inl rfl) A
theorem N5 {C:Ctx} (M:lO C) {l:List Nat} {v:PV} (T:Tp l v) (mc a4Z k:Nat) (R:0<mc) (F:mc≤1000) (y:a4Z≤60) (hk:k≤4) (J:∀ X,k=X+1→ef C l v mc a4Z X) (G:GE) (U K:PV) (s:GS) (dom:Nat) (x:cE)
  (N:GOk l a4Z s) (W:s.a5I[dom]?=some x) (hl:x.level=4-(k:Int)) (O:PH) (B:aN O (G.boxes v mc U K s.a) (lC s U K)) :
  xE.wp C (aV ko.res (fun r H'=>∃ B' L',ahT G v mc (fF l mc a4Z k dom s) r B' L'∧aN H' B' L')) (PF.args [.ptr G.o 2 0 0,.ptr G.fo 7 0 0,.int .i64 dom,.int .i64 a4Z]) O:=by
 have w:dom<s.a5I.length:=(a7T.1 W).1;have b1:=B.at 1 rfl;have fin:∀ (e:jZ) (c d:PV) (p:PF) (H':PH),(e=.exit 0∨e=.ret)→aN H' (G.boxes v mc c d (fF l mc a4Z k dom s).a) (lC (fF l mc a4Z k dom s) c d) →
   eP 0 (aV ko.res (fun r H'=>∃ B' L',ahT G v mc (fF l mc a4Z k dom s) r B' L'∧aN H' B' L')) e p H':=by
  intro e c d p H' E i;rcases E with rfl | rfl
  ·rw[CC,if_pos rfl];exact bA (vs:=[]) (.inl rfl) H' rfl b_ ⟨_,_,⟨rfl,c,d,rfl,rfl⟩,i⟩
  ·exact bA (vs:=[]) (.inr rfl) H' rfl b_ ⟨_,_,⟨rfl,c,d,rfl,rfl⟩,i⟩
 obtain⟨q,rs,Z,e2,e3,e4⟩:∃ q rs,U=.osl q 7 0 s.a5I.length∧O q=some (.rows 7 rs)∧s.a5I.length≤rs.length∧rs.take s.a5I.length=jQ s.a5I:=by
  rcases B.own 0 rfl with ⟨u,_⟩ | ⟨q,rs,u,h2,h3,h4⟩
  ·have:=congrArg List.length u;rw[a6K] at this;simp at this; rw[this] at w; simp at w
  ·rw[a6K] at u h3 h4;exact⟨q,rs,u,h2,h3,h4⟩
 have S:rs[dom]?=some x.cells:=by
  have:(jQ s.a5I)[dom]?=some x.cells:=by simp[jQ,W]
  rw[← e4,List.getElem?_take_of_lt w] at this;exact this
 subst Z;have Y:(dom:Int)<(s.a5I.length:Nat):=Om;have ew:IntKind.i64.wrap (x.level+1)=((5-k:Nat):Int):=by rw[hl,wrap_i64 Om Om]; omega
 have β:=eV l (show 0<2 by decide) s.a;have en:IntKind.i64.wrap (1+((aK l 2 s.a).1:Int))=((1+(aK l 2 s.a).1:Nat):Int):=by rw[wrap_i64 Om Om]; omega
 have u:=B.set 0 rfl (bN v (aK l 2 s.a).2);have A:GOk l a4Z { s with a:=(aK l 2 s.a).2 }:=⟨N.a5I,N.a5S,bR l 2 N.a⟩;have α:¬ q=G.o:=fun h=>B.neL 0 0 rfl rfl rfl h.symm;simp only[go_sem,xE,N6,b1,Y,e2,S,ew,N7];refine dJ M.toAS T (o:=G.o) (n:=2) (a:=s.a) (by decide) N.a (by simp only[go_sem]; rfl) (B.at 0 rfl) ?_;simp only[go_sem,en,N8];cases k with
 | zero =>
  simp only[go_sem,bF (Om:¬ ((5-0:Nat):Int)=2),JC];refine N4 (C:=C) M T G mc a4Z dom (1+(aK l 2 s.a).1) R F y Om { s with a:=(aK l 2 s.a).2 } A _ K _ _ _ ?_ u ?_
  ·unfold eQ;exact Lq
  ·intro c d p H' i;exact fin _ c d p H' (.inl rfl) i
 | succ k =>
  have H:=J k rfl;by_cases V:4-k=2
  ·have Q:fF l mc a4Z (k+1) dom s=jB l (4-k) a4Z dom (fF l mc a4Z k) { s with a:=(aK l 2 s.a).2 } 1:=by simp only[fF,if_pos V]
   simp only[go_sem,bH (show ((5-(k+1):Nat):Int)=2 by omega),N9,JC];refine NJ (C:=C) M T G mc a4Z dom 1 k Om y (by decide) H { s with a:=(aK l 2 s.a).2 } A (by simp only; omega) _ K _ _ _ ?_ u ?_
   ·unfold eQ
    (repeat' (first|exact c_|refine d_ ?_ ?_))<;>first|(simp only[go_sem,show 4-k=5-(k+1) by omega]<;>rfl)|rfl
   ·intro e c d p H' E i;rw[← Q] at i;exact fin e c d p H' E i
  ·have Q:fF l mc a4Z (k+1) dom s=jB l (4-k) a4Z dom (fF l mc a4Z k) { s with a:=(aK l 2 s.a).2 } (1+(aK l 2 s.a).1):=by simp only[fF,if_neg V]
   simp only[go_sem,bF (show ¬ ((5-(k+1):Nat):Int)=2 by omega),JC];refine NJ (C:=C) M T G mc a4Z dom (1+(aK l 2 s.a).1) k Om y Om H { s with a:=(aK l 2 s.a).2 } A (by simp only; omega) _ K _ _ _ ?_ u ?_
   ·unfold eQ
    (repeat' (first|exact c_|refine d_ ?_ ?_))<;>first|(simp only[go_sem,show 4-k=5-(k+1) by omega]<;>rfl)|rfl
   ·intro e c d p H' E i;rw[← Q] at i;exact fin e c d p H' E i
theorem ZM {C:Ctx} (q:lO C) {l:List Nat} {v:PV} (T:Tp l v) (mc a4Z:Nat) (i:0<mc) (c:mc≤1000) (d:a4Z≤60)
  (u:∀ (args:List PV) (H:PH) (R:PV→PH→Prop),args.length=4→xE.wp C (aV ko.res R) (PF.args args) H→aG C 7 args H R):∀ k,k≤4→ef C l v mc a4Z k
 | 0,h=>fun G E F s dom x A B y p w=>u _ _ _ rfl (N5 q T mc a4Z 0 i c d h (fun _ e=>by omega) G E F s dom x A B y p w)
 | k+1,h=>fun G E F s dom x A B y p w=>u _ _ _ rfl (N5 q T mc a4Z (k+1) i c d h (fun J e=>by have:J=k:=Om;subst this;exact ZM q T mc a4Z i c d u J Om) G E F s dom x A B y p w)
theorem aPB (l:List Nat) (dV:Nat) {a:Nat} (h:a≤l.length):(zO l dV a).2≤l.length:=(uh l (1+(aK l dV a).1) (bR l dV h) (1+(aK l dV a).1)).1
theorem ai (l:List Nat) {a:Nat} (h:a≤l.length):∀ k,(nI l a k).2≤l.length∧(nI l a k).1.length=k
 | 0=>⟨h,rfl⟩
 | k+1=>by obtain⟨c,d⟩:=ai l h k;exact⟨aPB l 2 c,by simp only[nI,a6T,a6X,d]⟩
theorem JI (l:List Nat) (a5G:Nat) {a:Nat} (h:a≤l.length):∀ k,(hM l a5G a k).2≤l.length∧(hM l a5G a k).1.length=k
 | 0=>⟨h,rfl⟩
 | k+1=>by obtain⟨c,d⟩:=JI l a5G h k;exact⟨bR l a5G (bR l 8 (bR l 4 c)),by simp only[hM,a6T,a6X,d]⟩
structure FE where
 o:Nat
 o6:Nat
 o7:Nat
 a4Z:Nat
 a5B:Nat
abbrev flZ:cC:=flB (.int .i64 0) .aB .aB .aB .aB .aB .aB
abbrev FE.boxes (E:FE) (v ext c d e i l p:PV) (a:Nat):List BX:=[(E.o,bN v a),(E.o7,flB ext c d e i l p),(E.o6,flZ)]
def fH (E:FE):PF:=(((((PF.nil.set 0 (.ptr E.o 2 0 0)).set 1 (.int .i64 E.a4Z)).set 2 (.int .i64 E.a5B)).set 6 (.ptr E.o6 7 0 0)).set 7 (.ptr E.o7 7 0 0))
abbrev gQ (l:List cG):List (List PV):=l.map cG.cells
abbrev jJ (l:List cQ):List (List PV):=l.map cQ.cells
theorem UR {E:FE} {F:PF} (c:F 0=some (.ptr E.o 2 0 0)) (d:F 1=some (.int .i64 E.a4Z)) (e:F 2=some (.int .i64 E.a5B)) (i:F 6=some (.ptr E.o6 7 0 0)) (h7:F 7=some (.ptr E.o7 7 0 0)):(fH E).le F :=
 d_ (d_ (d_ (d_ (d_ c_ c) d) e) i) h7
theorem aFW {C:Ctx} (N:lO C) {l:List Nat} {v:PV} (T:Tp l v) (E:FE) (n a:Nat) (hn:n≤10) (V:a≤l.length) (ext:PV) (K:bQ) (F:PF) (H:PH)
  (S:(((fH E).set 8 (.int .i64 n)).set 9 (.int .i64 0)).le F) (w:aN H (E.boxes v ext .aB .aB .aB .aB .aB .aB a) [])
  (U:∀ A M H',(fH E).le M→aN H' (E.boxes v ext A .aB .aB .aB .aB .aB (nI l a n).2) [(A,4,gQ (nI l a n).1)]→K (.exit 0) M H') :
  aC.wp C (.loop QE) K F H:=by
 refine wp_loop (α:=Nat × PV × PH) (fun t=>((fH E).set 8 (.int .i64 n)).set 9 (.int .i64 t.1)) (fun t=>t.2.2) (fun t=>t.1≤n∧aN t.2.2 (E.boxes v ext t.2.1 .aB .aB .aB .aB .aB (nI l a t.1).2) [(t.2.1,4,gQ (nI l a t.1).1)]) (fun t=>n-t.1) (0,.aB,H) ⟨a6Q _,w.mV 4⟩ S b_ ?_;rintro⟨i,A,Y⟩ ⟨hi,w⟩;simp only at hi w ⊢;obtain⟨k1,k2⟩:=ai l V i;have u:nI l a (i+1)=((nI l a i).1++[{ (zO l 2 (nI l a i).2).1 with name:=[108,97,119]++cT i }],(zO l 2 (nI l a i).2).2):=rfl;simp only[go_sem,QE,Aj,fH];by_cases hlt:i<n
 ·have c:(i:Int)<(n:Nat):=Om;generalize Z:nI l a i=g at *
  simp only[go_sem,c,Ak];refine mK (N.law l v T E.o 2 g.2 (by decide) (by decide) k1) (w.at 0 rfl) rfl ?_;have Q:=w.set 0 rfl (bN v (zO l 2 g.2).2);generalize hz:zO l 2 g.2=z at *
  simp only[go_sem];refine aR fun p W=>?_;have R:=Q.new W (.rows 4 [z.1.cells]);simp only[go_sem,Al,a6V,a7G,or_false,forall_eq,forall_eq_or_imp];refine aA (N.name [108,97,119] i (by decide) Om) rfl ?_;have x:=R.set 3 rfl (.rows 4 [({ z.1 with name:=[108,97,119]++cT i }:cG).cells]);rw[PH.set_set] at x;have b1:=x.at 1 rfl;have y:¬ E.o7=p:=x.ne 1 3 rfl rfl (by decide);have d:¬ E.o7=E.o:=x.ne 1 0 rfl rfl (by decide);simp only[aT,if_neg y,if_neg d] at b1;have J:(1:Nat)*4≤16777216:=by decide
  simp only[go_sem,Am,y,d,b1,J,a6V,a7G,or_false,forall_eq,forall_eq_or_imp];refine x.append 0 (src:=[({ z.1 with name:=[108,97,119]++cT i }:cG).cells]) rfl rfl (by unfold roomFor; rw[a6K]; simp only[a6X,maxLen]; omega) fun w' H2 O X=>?_;obtain⟨q,rfl⟩:=X (by simp);have b2:=O.at 1 rfl;simp only[go_sem,b2,a6V,a7G,or_false,forall_eq];have h5:=O.set 1 rfl (flB ext (.osl q 4 0 (gQ g.1++[({ z.1 with name:=[108,97,119]++cT i }:cG).cells]).length) .aB .aB .aB .aB .aB);simp only[go_sem,An,wZz i];refine aD (i+1,.osl q 4 0 (gQ g.1++[({ z.1 with name:=[108,97,119]++cT i }:cG).cells]).length,_) ⟨hlt,?_⟩ (by simp only; omega) ?_ b_
  ·rw[u];have e:gQ (g.1++[{ z.1 with name:=[108,97,119]++cT i }])=gQ g.1++[({ z.1 with name:=[108,97,119]++cT i }:cG).cells]:=by simp[gQ]
   simp only;rw[e];exact h5.dropLast (B:=E.boxes v ext _ .aB .aB .aB .aB .aB z.2)
  ·exact Lq
 ·have c:¬ (i:Int)<(n:Nat):=Om;have:i=n:=Om;subst this;simp only[go_sem,c];exact U A _ _ (UR rfl rfl rfl rfl rfl) w
theorem akP {C:Ctx} (O:lO C) {l:List Nat} {v:PV} (T:Tp l v) (E:FE) (n a nl:Nat) (hn:n≤10) (β:nl≤1000) (ha:a≤l.length) (ext d:PV) (a5G:List cG) (U:a5G.length=nl) (K:bQ) (F:PF) (H:PH)
  (hF:(((fH E).set 11 (.int .i64 n)).set 12 (.int .i64 0)).le F) (p:aN H (E.boxes v ext d .aB .aB .aB .aB .aB a) [(d,4,gQ a5G)])
  (hK:∀ A Q H',(fH E).le Q→Q 11=some (.int .i64 n)→aN H' (E.boxes v ext d A .aB .aB .aB .aB (hM l nl a n).2) [(d,4,gQ a5G),(A,4,jJ (hM l nl a n).1)]→K (.exit 2) Q H') :
  aC.wp C (.loop IR) K F H:=by
 refine wp_loop (α:=Nat × PV × PH) (fun t=>((fH E).set 11 (.int .i64 n)).set 12 (.int .i64 t.1)) (fun t=>t.2.2) (fun t=>t.1≤n∧aN t.2.2 (E.boxes v ext d t.2.1 .aB .aB .aB .aB (hM l nl a t.1).2) [(d,4,gQ a5G),(t.2.1,4,jJ (hM l nl a t.1).1)]) (fun t=>n-t.1) (0,.aB,H) ⟨a6Q _,p.mV 4⟩ hF b_ ?_;rintro⟨i,A,Z⟩ ⟨hi,p⟩;simp only at hi p ⊢;obtain⟨k1,k2⟩:=JI l nl ha i;have u:hM l nl a (i+1)=((hM l nl a i).1++[⟨[109]++cT i,(1+(aK l 4 (hM l nl a i).2).1:Nat),(1+(aK l 8 (aK l 4 (hM l nl a i).2).2).1:Nat),((aK l nl (aK l 8 (aK l 4 (hM l nl a i).2).2).2).1:Nat)⟩],(aK l nl (aK l 8 (aK l 4 (hM l nl a i).2).2).2).2):=rfl;simp only[go_sem,IR,jz,fH];by_cases hlt:i<n
 ·have c:(i:Int)<(n:Nat):=Om;generalize hg:hM l nl a i=g at *
  have hx:=eV l (show 0<4 by decide) g.2;have V:=bR l 4 k1;have hy:=eV l (show 0<8 by decide) (aK l 4 g.2).2;have W:=bR l 8 V;have az:=bR l nl W;have R:=p.set 0 rfl (bN v (aK l 4 g.2).2);have w:=R.set 0 rfl (bN v (aK l 8 (aK l 4 g.2).2).2);have h3:=w.set 0 rfl (bN v (aK l nl (aK l 8 (aK l 4 g.2).2).2).2);generalize J:aK l 4 g.2=x at *
  generalize M:aK l 8 x.2=y at *
  generalize N:aK l nl y.2=z at *
  have b1:=p.at 1 rfl;have Y:=(p.own 0 rfl).sL;rw[a6K,U] at Y;have B:(PH.nil.set E.o7 (flB ext d A .aB .aB .aB .aB)).le Z:=PH.aJ a_ b1;have ex:IntKind.i64.wrap (1+(x.1:Int))=((1+x.1:Nat):Int):=by rw[wrap_i64 Om Om]; omega
  have ey:IntKind.i64.wrap (1+(y.1:Int))=((1+y.1:Nat):Int):=by rw[wrap_i64 Om Om]; omega
  simp only[go_sem,c];refine bV (PH.nil.set E.o7 (flB ext d A .aB .aB .aB .aB)) (mkS l v) B ?_;simp only[go_sem,j2];refine HD O.toqN (s:=[109]) (n:=i) (by decide) Om rfl B ?_;simp only[go_sem];refine rE O.toAS T (o:=E.o) (n:=4) (a:=g.2) (by decide) k1 rfl (p.at 0 rfl) ?_ ?_
  ·rw[J]; exact PH.aJ a_ (R.at 1 rfl)
  rw[J];simp only[go_sem,ex];refine rE O.toAS T (o:=E.o) (n:=8) (a:=x.2) (by decide) V rfl (R.at 0 rfl) ?_ ?_
  ·rw[M]; exact PH.aJ a_ (w.at 1 rfl)
  rw[M];simp only[go_sem,ey,Y];rw[PH.set_set] at w;refine rE O.toAS T (o:=E.o) (n:=nl) (a:=y.2) Om W rfl (w.at 0 rfl) ?_ ?_
  ·rw[N]; exact PH.aJ a_ ((w.set 0 rfl (bN v z.2)).at 1 rfl)
  rw[N];have X:=w.set 0 rfl (bN v z.2);have S:(1:Nat)*4≤16777216:=by decide
  simp only[go_sem,S,a6V,a7G,or_false,forall_eq,forall_eq_or_imp];rw[PH.set_set] at X;refine X.append 1 (src:=[(⟨[109]++cT i,(1+x.1:Nat),(1+y.1:Nat),(z.1:Nat)⟩:cQ).cells]) rfl rfl (by unfold roomFor; rw[a6K]; simp only[a6X,maxLen]; omega) fun w' H2 h5 hw=>?_;obtain⟨q,rfl⟩:=hw (by simp);have b2:=h5.at 1 rfl;refine⟨PH.aJ a_ b2,?_⟩;refine bV .nil eM a_ ?_;simp only[go_sem,j3,b2,a6V,a7G,or_false,forall_eq];have h6:=h5.set 1 rfl (flB ext d (.osl q 4 0 (jJ g.1++[(⟨[109]++cT i,(1+x.1:Nat),(1+y.1:Nat),(z.1:Nat)⟩:cQ).cells]).length) .aB .aB .aB .aB);refine⟨a_,?_⟩;simp only[go_sem,j4,wZz i];refine aD (i+1,.osl q 4 0 (jJ g.1++[(⟨[109]++cT i,(1+x.1:Nat),(1+y.1:Nat),(z.1:Nat)⟩:cQ).cells]).length,_) ⟨hlt,?_⟩ (by simp only; omega) ?_ b_
  ·rw[u];have e:jJ (g.1++[⟨[109]++cT i,(1+x.1:Nat),(1+y.1:Nat),(z.1:Nat)⟩])=jJ g.1++[(⟨[109]++cT i,(1+x.1:Nat),(1+y.1:Nat),(z.1:Nat)⟩:cQ).cells]:=by simp[jJ]
   simp only;rw[e];exact h6
  ·exact Lq
 ·have c:¬ (i:Int)<(n:Nat):=Om;have:i=n:=Om;subst this;simp only[go_sem,c];exact hK A _ _ (UR rfl rfl rfl rfl rfl) rfl p
abbrev wF (x:bT) (w:PV):List PV:=[.str x.name,.int .i64 x.k,.int .i64 x.m,.int .i64 x.a5X,.int .i64 x.s0,.int .i64 x.s1,.int .i64 x.s2,.int .i64 x.s3,.int .i64 x.s4,w,frs x.repair,
 .bool x.target.neg,aI x.target.num,aI x.target.den,.bool x.a5J.neg,aI x.a5J.num,aI x.a5J.den]
def uk (E:FE) (mc n i:Nat):PF:=(((fH E).set 11 (.int .i64 mc)).set 13 (.int .i64 n)).set 14 (.int .i64 i)
structure PAt (E:FE) (mc n i:Nat) (F:PF):Prop where
 f0:F 0=some (.ptr E.o 2 0 0)
 f1:F 1=some (.int .i64 E.a4Z)
 f2:F 2=some (.int .i64 E.a5B)
 f6:F 6=some (.ptr E.o6 7 0 0)
 f7:F 7=some (.ptr E.o7 7 0 0)
 f11:F 11=some (.int .i64 mc)
 f13:F 13=some (.int .i64 n)
 f14:F 14=some (.int .i64 i)
def qM (l:List Nat) (a:Nat):Nat→List Int × Nat
 | 0=>([],a)
 | j+1=>let s:=qM l a j
  let t:=kN l s.2
  (s.1++[t.1],t.2)
theorem tE (l:List Nat) {a:Nat} (h:a≤l.length):(kN l a).2≤l.length:=by
 unfold kN;simp only;split
 ·exact bR l 3 (bR l 3 h)
 ·exact bR l 3 h
theorem we (l:List Nat) {a:Nat} (h:a≤l.length):∀ j,(qM l a j).2≤l.length∧(qM l a j).1.length=j
 | 0=>⟨h,rfl⟩
 | j+1=>by obtain⟨c,d⟩:=we l h j;exact⟨tE l c,by simp only[qM,a6T,a6X,d]⟩
abbrev qL (pre post:List PV) (s:List Int):List PV:=pre++(s.map fun x=>PV.int .i64 x)++a6N (4-s.length) (.int .i64 0)++post
theorem aRT {pre post:List PV} {s:List Int} (c:pre.length=5) (e:s.length<4) (x:Int):(qL pre post s).set (5+s.length) (.int .i64 x)=qL pre post (s++[x]):=by
 obtain⟨k,d⟩:∃ k,4-s.length=k+1:=⟨3-s.length,by omega⟩;unfold qL;rw[a6T,a6X,show 4-(s.length+1)=k by omega,d,List.replicate_succ,a7L,a8B,a8W];rw[List.set_append_left _ _ (by simp[c]),a9H _ _ (by simp[c])];have:5+s.length-(pre++s.map fun x=>PV.int .i64 x).length=0:=by simp[c]
 rw[this,List.set_cons_zero];simp
theorem aHZ {pre post:List PV} {s:List Int} (d:pre.length=5) (e:s.length<4):qL pre post s=qL pre post (s++[0]):=by
 obtain⟨k,c⟩:∃ k,4-s.length=k+1:=⟨3-s.length,by omega⟩;unfold qL;rw[a6T,a6X,show 4-(s.length+1)=k by omega,c,List.replicate_succ,a7L,a8B,a8W];simp
theorem akQ {C:Ctx} (Y:lO C) {l:List Nat} {v:PV} (T:Tp l v) (E:FE) (mc n i a p:Nat) (ha:a≤l.length) (B:List BX) (L:List LI) (pre post:List PV) (d:pre.length=5) (x:post.length=8) (K:bQ) (F:PF) (H:PH)
  (q:PAt E mc n i F) (R:F 15=some (.ptr p 17 0 0)) (S:F 16=some (.int .i64 1)) (y:aN H ((E.o,bN v a)::B++[(p,.rows 17 [qL pre post []])]) L)
  (hK:∀ O H',PAt E mc n i O→O 15=some (.ptr p 17 0 0)→aN H' ((E.o,bN v (qM l a 4).2)::B++[(p,.rows 17 [qL pre post (qM l a 4).1])]) L→K (.exit 6) O H') :
  aC.wp C (.loop wY) K F H:=by
 refine wp_loop (α:=Nat × PH) (fun t=>((uk E mc n i).set 15 (.ptr p 17 0 0)).set 16 (.int .i64 (t.1+1:Nat))) (fun t=>t.2) (fun t=>t.1≤4∧aN t.2 ((E.o,bN v (qM l a t.1).2)::B++[(p,.rows 17 [qL pre post (qM l a t.1).1])]) L) (fun t=>4-t.1) (0,H) ⟨a6Q _,y⟩ ?_ b_ ?_
 ·unfold uk fH
  (repeat' (first|exact c_|refine d_ ?_ ?_))<;>first|(simp only[go_sem,q.f0,q.f1,q.f2,q.f6,q.f7,q.f11,q.f13,q.f14,R,S]<;>rfl)|rfl
 rintro⟨j,H0⟩ ⟨hj,y⟩;simp only at hj y ⊢;obtain⟨k1,k2⟩:=we l ha j;have e:qM l a (j+1)=((qM l a j).1++[(kN l (qM l a j).2).1],(kN l (qM l a j).2).2):=rfl;simp only[go_sem,wY,ka,uk,fH];by_cases hlt:j<4
 ·generalize hg:qM l a j=g at *
  have Z:=cW (Om:j+1<9223372036854775807);simp only[go_sem,show ((j+1:Nat):Int)<5 by omega,kb];refine dJ Y.toAS T (o:=E.o) (n:=3) (a:=g.2) (by decide) k1 (by simp only[go_sem]; rfl) (y.at 0 rfl) ?_;have M:aN _ ((E.o,bN v (aK l 3 g.2).2)::B++[(p,.rows 17 [qL pre post g.1])]) L:=y.set 0 rfl (bN v (aK l 3 g.2).2);by_cases c:(aK l 3 g.2).1=0
  ·have X:kN l g.2=(((1+(aK l 3 (aK l 3 g.2).2).1:Nat):Int),(aK l 3 (aK l 3 g.2).2).2):=by unfold kN; simp only[c,if_true]
   have n2:=eV l (show 0<3 by decide) (aK l 3 g.2).2;have e2:IntKind.i64.wrap (1+((aK l 3 (aK l 3 g.2).2).1:Int))=((1+(aK l 3 (aK l 3 g.2).2).1:Nat):Int):=by rw[wrap_i64 Om Om]; omega
   simp only[go_sem,bH (show (((aK l 3 g.2).1:Nat):Int)=0 by omega),kc];refine dJ Y.toAS T (o:=E.o) (n:=3) (a:=(aK l 3 g.2).2) (by decide) (bR l 3 k1) (by simp only[go_sem]; rfl) (M.at 0 rfl) ?_;have N:aN _ ((E.o,bN v (aK l 3 (aK l 3 g.2).2).2)::B++[(p,.rows 17 [qL pre post g.1])]) L:=M.set 0 rfl (bN v (aK l 3 (aK l 3 g.2).2).2);have Q:=N.NY;rw[PH.set_set] at Q N;have J:¬ p=E.o:=fun h=>by have W:=N.ndB;simp[eH,h] at W
   simp only[aT,if_neg J] at Q;have V:((j+1:Nat):Int)<((5:Nat):Int):=Om;have U:(0:Int)≤((j+1:Nat):Int):=Om;have β:(qL pre post g.1).length=17:=by simp[qL,d,x,k2]; omega
   have u:=aRT (pre:=pre) (post:=post) (s:=g.1) d Om ((1+(aK l 3 (aK l 3 g.2).2).1:Nat):Int);rw[k2] at u;have A:4+(j+1)*1=5+j:=Om;have w:5+j+1≤17:=Om;simp only[go_sem,e2,V,U,A,J,Q,w,a6V,a7G,or_false,forall_eq,u,IW,Z];refine aD (j+1,_) ⟨hlt,?_⟩ (by simp only; omega) ?_ b_
   ·rw[e,X];exact N.wc _
   ·exact Lq
  ·have X:kN l g.2=(0,(aK l 3 g.2).2):=by unfold kN; simp only[c,if_false]
   simp only[go_sem,bF (show ¬ (((aK l 3 g.2).1:Nat):Int)=0 by omega),IW,Z];refine aD (j+1,_) ⟨hlt,?_⟩ (by simp only; omega) ?_ b_
   ·rw[aHZ (pre:=pre) (post:=post) (s:=g.1) d Om] at M;rw[e,X];exact M
   ·exact Lq
 ·have:j=4:=Om;subst this;simp only[go_sem,show ¬ ((4+1:Nat):Int)<5 by decide];exact hK _ _ ⟨by simp only[go_sem],by simp only[go_sem],by simp only[go_sem],by simp only[go_sem],by simp only[go_sem],by simp only[go_sem],by simp only[go_sem],by simp only[go_sem]⟩ Sq y
theorem aN.pA {E:FE} {v ext c d e i l p:PV} {a:Nat} {H:PH} {B:List BX} {L:List LI} (h:aN H (E.boxes v ext c d e i l p a++B) L) (b:Nat):aN (H.set E.o (bN v b)) (E.boxes v ext c d e i l p b++B) L:=h.set 0 rfl _
abbrev ck (s:List UInt8) (k m q:Int) (w r c d e:PV) (h:RF):List PV:=[.str s,.int .i64 k,.int .i64 m,.int .i64 q,.int .i64 0,.int .i64 0,.int .i64 0,.int .i64 0,.int .i64 0,w,r,c,d,e,.bool h.neg,aI h.num,aI h.den]
theorem aFX {C : Ctx} (Lb : lO C) {l : List Nat} {v : PV} (T : Tp l v) (E : FE) (mc n i a : Nat) (ha : a ≤ l.length) (hi : i < 50) (ext w1 w2 w3 w4 w5 w6 : PV) (L : List LI) (rest : aC) (K : bQ) (F : PF) (H : PH)
    (hF : PAt E mc n i F) (hH : aN H (E.boxes v ext w1 w2 w3 w4 w5 w6 a) L)
    (hK : ∀ p F' H', PAt E mc n i F' → F' 15 = some (.ptr p 17 0 0) →
      (let k := aK l 2 a; let m := aK l 3 k.2; let h := aK l 4 m.2; let q := aK l (m.1 + 1) h.2; let r := mW l q.2 (max m.1 1); let g := aK l 9 r.2
       aN H' (E.boxes v ext w1 w2 w3 w4 w5 w6 g.2 ++ [(p, .rows 17 [qL [.str ([112] ++ cT i), .int .i64 (1 + k.1 : Nat), .int .i64 (m.1 : Nat), .int .i64 (1 + k.1 + q.1 : Nat), .int .i64 0]
        ([.aB, frs r.1] ++ (mkT (g.1 : Nat) 8).cells ++ (mkT ((1 + h.1 : Nat) : Int) 1).cells) []])]) L) → aC.wp C rest K F' H') :
    aC.wp C (.seq (.region IU) (.seq (.seq (.draw wZ) (.draw xA)) (.seq (.region xB) (.seq (.region xC) rest)))) K F H := by
  obtain ⟨f0, f1, f2, f6, f7, f11, f13, f14⟩ := hF;have nk := eV l (show 0 < 2 by decide) a;have ak := bR l 2 ha;have nm := eV l (show 0 < 3 by decide) (aK l 2 a).2;have am := bR l 3 ak;simp only at hK;generalize hk : aK l 2 a = k at *
  generalize hm : aK l 3 k.2 = m at *
  have nh := eV l (show 0 < 4 by decide) m.2;have ah := bR l 4 am;generalize hh : aK l 4 m.2 = h at *
  have nq := eV l (Om : 0 < m.1 + 1) h.2;have aq := bR l (m.1 + 1) ah;generalize hq : aK l (m.1 + 1) h.2 = q at *
  have ar := FY l aq (max m.1 1);generalize hr : mW l q.2 (max m.1 1) = r at *
  have ng := eV l (show 0 < 9 by decide) r.2;have ag := bR l 9 ar;generalize hg : aK l 9 r.2 = g at *
  have ek : IntKind.i64.wrap (1 + (k.1 : Int)) = ((1 + k.1 : Nat) : Int) := by rw [wrap_i64 Om Om]; omega
  have eh : IntKind.i64.wrap (1 + (h.1 : Int)) = ((1 + h.1 : Nat) : Int) := by rw [wrap_i64 Om Om]; omega
  have em : IntKind.i64.wrap ((m.1 : Int) + 1) = ((m.1 + 1 : Nat) : Int) := cW Om;have eq' : IntKind.i64.wrap (((1 + k.1 : Nat) : Int) + (q.1 : Int)) = ((1 + k.1 + q.1 : Nat) : Int) := by rw [wrap_i64 Om Om]; omega
  have h0 : aN H (E.boxes v ext w1 w2 w3 w4 w5 w6 a ++ []) L := by rw [a8H]; exact hH
  simp only[go_sem,IU,f14];refine aA (Lb.name [112] i (by decide) Om) rfl ?_;simp only[go_sem,f0];refine dJ Lb.toAS T (o := E.o) (n := 2) (a := a) (by decide) ha rfl (h0.at 0 rfl) ?_;have g1 := h0.pA k.2;rw [hk];simp only[go_sem,ek,f0];refine dJ Lb.toAS T (o := E.o) (n := 3) (a := k.2) (by decide) ak rfl (g1.at 0 rfl) ?_;have g2 := g1.pA m.2;rw [hm];rw [PH.set_set] at g2;simp only[go_sem,f0];refine dJ Lb.toAS T (o := E.o) (n := 4) (a := m.2) (by decide) am rfl (g2.at 0 rfl) ?_;have g3 := g2.pA h.2;rw [hh];rw [PH.set_set] at g3;simp only[go_sem,eh];refine aA (Lb.int ((1 + h.1 : Nat) : Int) (by unfold dE; omega)) rfl ?_;simp only[go_sem,a6V,a7G,or_false,forall_eq,forall_eq_or_imp];refine aR fun p hp => ?_;have g4 := g3.new hp (.rows 17 [ck ([112] ++ cT i) (1 + k.1 : Nat) (m.1 : Nat) 0 .aB .aB (.bool false) .aB .aB (mkT ((1 + h.1 : Nat) : Int) 1)]);have hpo : ¬ p = E.o := g4.ne 3 0 rfl rfl (by decide);have hop : ¬ E.o = p := fun e => hpo e.symm;have q2 : ∀ (F2 : PF) (H2 : PH), PAt E mc n i F2 → F2 15 = some (.ptr p 17 0 0) → aN H2 (E.boxes v ext w1 w2 w3 w4 w5 w6 h.2 ++ [(p, .rows 17 [ck ([112] ++ cT i) (1 + k.1 : Nat) (m.1 : Nat) 0 .aB .aB (.bool false) .aB .aB (mkT ((1 + h.1 : Nat) : Int) 1)])]) L →
      aC.wp C (.seq (.seq (.draw wZ) (.draw xA)) (.seq (.region xB) (.seq (.region xC) rest))) K F2 H2 := by
    intro F2 H2 hF2 f15 hH2;obtain ⟨f0, f1, f2, f6, f7, f11, f13, f14⟩ := hF2;have bp := hH2.at 3 rfl;have hHs : (PH.nil.set p (.rows 17 [ck ([112] ++ cT i) (1 + k.1 : Nat) (m.1 : Nat) 0 .aB .aB (.bool false) .aB .aB (mkT ((1 + h.1 : Nat) : Int) 1)])).le H2 := PH.aJ a_ bp;simp only[go_sem];refine bV _ (mkS l v) hHs ?_;simp only[go_sem,wZ,f15,bp,em,f0];refine rE Lb.toAS T (o := E.o) (n := m.1 + 1) (a := h.2) Om ah rfl (hH2.at 0 rfl) ?_ ?_
    · rw [hq]; exact PH.aJ a_ ((hH2.pA q.2).at 3 rfl)
    rw [hq];have g5 := hH2.pA q.2;simp only[go_sem,eq',f15];refine bV .nil eM a_ ?_;simp only[go_sem,xA,hpo,bp];refine ⟨a_, ?_⟩;have g6 : aN _ (E.boxes v ext w1 w2 w3 w4 w5 w6 q.2 ++ [(p, .rows 17 [ck ([112] ++ cT i) (1 + k.1 : Nat) (m.1 : Nat) (1 + k.1 + q.1 : Nat) .aB .aB (.bool false) .aB .aB (mkT ((1 + h.1 : Nat) : Int) 1)])]) L := g5.set 3 rfl (.rows 17 [ck ([112] ++ cT i) (1 + k.1 : Nat) (m.1 : Nat) (1 + k.1 + q.1 : Nat) .aB .aB (.bool false) .aB .aB (mkT ((1 + h.1 : Nat) : Int) 1)]);have bq := g6.at 3 rfl;simp only[go_sem,xB,f0,f15];refine mK (Lb.rep l v T E.o q.2 m.1 Om aq) (g6.at 0 rfl) rfl ?_;have g7 := g6.pA r.2;rw [hr];simp only[go_sem,hpo,f15];have g8 : aN _ (E.boxes v ext w1 w2 w3 w4 w5 w6 r.2 ++ [(p, .rows 17 [ck ([112] ++ cT i) (1 + k.1 : Nat) (m.1 : Nat) (1 + k.1 + q.1 : Nat) .aB (frs r.1) (.bool false) .aB .aB (mkT ((1 + h.1 : Nat) : Int) 1)])]) L := g7.set 3 rfl (.rows 17 [ck ([112] ++ cT i) (1 + k.1 : Nat) (m.1 : Nat) (1 + k.1 + q.1 : Nat) .aB (frs r.1) (.bool false) .aB .aB (mkT ((1 + h.1 : Nat) : Int) 1)]);simp only[go_sem,xC,f0];refine dJ Lb.toAS T (o := E.o) (n := 9) (a := r.2) (by decide) ar rfl (g8.at 0 rfl) ?_;have g9 := g8.pA g.2;rw [hg];simp only[go_sem];refine aA (Lb.fmk (g.1 : Int) 8 (by unfold dE; omega) (by unfold dE; omega)) rfl ?_;unfold vX;rw [if_neg (by decide)];simp only[go_sem,f15,hpo];have g10 := g9.set 3 rfl (.rows 17 [qL [.str ([112] ++ cT i), .int .i64 (1 + k.1 : Nat), .int .i64 (m.1 : Nat), .int .i64 (1 + k.1 + q.1 : Nat), .int .i64 0]
        ([.aB, frs r.1] ++ (mkT (g.1 : Nat) 8).cells ++ (mkT ((1 + h.1 : Nat) : Int) 1).cells) []])
    refine hK p _ _ ⟨by simp only[go_sem,f0], by simp only[go_sem,f1], by simp only[go_sem,f2], by simp only[go_sem,f6], by simp only[go_sem,f7], by simp only[go_sem,f11], by simp only[go_sem,f13], by simp only[go_sem,f14]⟩ (by simp only[go_sem,f15]) g10
  simp only [aC.wp, go_sem] at q2;simp only[go_sem,a6V,a7G,or_false,forall_eq,forall_eq_or_imp];exact q2 _ _ ⟨by simp only[go_sem,f0], by simp only[go_sem,f1], by simp only[go_sem,f2], by simp only[go_sem,f6], by simp only[go_sem,f7], by simp only[go_sem,f11], by simp only[go_sem,f13], by simp only[go_sem,f14]⟩ rfl g4
abbrev FE.lists (p q u w x:PV) (e:List cG) (i:List cQ) (c:List cE) (d:List dN) (l:List (List PV)):List LI:=[(p,4,gQ e),(q,4,jJ i),(u,7,jQ c),(w,3,lY d),(x,17,l)]
theorem aFY {C:Ctx} (Lb:lO C) {l:List Nat} {v:PV} (T:Tp l v) (E:FE) (mc n i a:Nat) (ha:a≤l.length) (η:0<mc) (μ:mc≤50) (ext y A B J w5:PV) (lw:List cG) (md:List cQ) (dm:List cE) (dv:List dN) (pr:List (List PV)) (ρ:pr.length≤50)
  (s:List UInt8) (k m q:Int) (r t h:RF) (N:List RF) (p:Nat) (K:bQ) (F:PF) (H:PH)
  (hF:PAt E mc n i F) (u:F 15=some (.ptr p 17 0 0))
  (hH:aN H (E.boxes v ext y A B J w5 .aB a++[(p,.rows 17 [qL [.str s,.int .i64 k,.int .i64 m,.int .i64 q,.int .i64 0] ([.aB,frs N]++t.cells++h.cells) []])]) (FE.lists y A B J w5 lw md dm dv pr))
  (V:(let M:=qM l a 4; let f:=aK l mc M.2; let b:=aK l 2 f.2
   let ms:List Int × Nat:=if 1<mc then (if b.1=0 then ([(f.1:Int),1-(f.1:Int)],b.2) else ([(f.1:Int)],b.2)) else ([(f.1:Int)],f.2)
   ∀ (w d:PV) (W:PF) (H':PH) (B':List BX),PAt E mc n i W→(∃ o,w=.osl o 1 0 ms.1.length)→aN H' (E.boxes v ext y A B J d .aB ms.2++B')
    (FE.lists y A B J d lw md dm dv (pr++[wF ⟨s,k,m,q,0,(M.1.getD 0 0),(M.1.getD 1 0),(M.1.getD 2 0),(M.1.getD 3 0),ms.1,N,t,h⟩ w])++[(w,1,aY ms.1)])→K .normal W H')) :
  aC.wp C (.seq (.seq (.region IV) (.block 6 (.loop wY))) (.seq (.region IX) (.seq (.region IY) (.seq (.seq (.region IZ) (.cond (.tmp 143) (.region JA) .skip)) (.region xD))))) K F H:=by
 obtain⟨f0,f1,f2,f6,f7,f11,f13,f14⟩:=hF;simp only[go_sem,IV];refine akQ (C:=C) Lb T E mc n i a p ha [(E.o7,flB ext y A B J w5 .aB),(E.o6,flZ)] _ _ _ rfl rfl _ _ H ⟨by simp only[go_sem,f0],by simp only[go_sem,f1],by simp only[go_sem,f2],by simp only[go_sem,f6],by simp only[go_sem,f7],by simp only[go_sem,f11],by simp only[go_sem,f13],by simp only[go_sem,f14]⟩ (by simp only[go_sem,u]) rfl hH ?_;clear f0 f1 f2 f6 f7 f11 f13 f14 u hH;intro F1 H1 ε u x;obtain⟨f0,f1,f2,f6,f7,f11,f13,f14⟩:=ε;obtain⟨α,ls⟩:=we l ha 4;have ι:∃ O Q R S,(qM l a 4).1=[O,Q,R,S]:=⟨_,_,_,_,rfl⟩;simp only at V;generalize ν:qM l a 4=M at *
 obtain⟨O,Q,R,S,hx⟩:=ι;rw[hx] at V x;replace x:aN H1 (E.boxes v ext y A B J w5 .aB M.2++[(p,.rows 17 [wF ⟨s,k,m,q,0,O,Q,R,S,[],N,t,h⟩ .aB])]) (FE.lists y A B J w5 lw md dm dv pr):=x;have nf:=eV l η M.2;have af:=bR l mc α;generalize hf:aK l mc M.2=f at *
 have ab:=bR l 2 af;generalize hb:aK l 2 f.2=b at *
 have Z:¬ p=E.o:=x.ne 3 0 rfl rfl (by decide);have θ:¬ p=E.o7:=x.ne 3 1 rfl rfl (by decide);have ο:¬ E.o7=p:=fun e=>θ e.symm;have ξ:¬ E.o7=E.o:=x.ne 1 0 rfl rfl (by decide);simp only[go_sem,IX,f0,f11];refine dJ Lb.toAS T (o:=E.o) (n:=mc) (a:=M.2) Om α rfl (x.at 0 rfl) ?_;have h2:=x.set 0 rfl (bN v f.2);rw[hf];simp only[go_sem,IY];refine aR fun o ho=>?_;have h3:=h2.alR (s:=1) (rows:=aY [(f.1:Int)]) ho;have b3:=h3.at 3 rfl;have ob:¬ p=o:=h3.neL 3 5 rfl rfl rfl;have σ:¬ E.o7=o:=h3.neL 1 5 rfl rfl rfl;have τ:¬ E.o=o:=h3.neL 0 5 rfl rfl rfl;simp only[aT,if_neg ob,if_neg Z] at b3;simp only[go_sem,u,ob,Z,b3,a6V,a7G,or_false,forall_eq];have h4:=h3.set 3 rfl (.rows 17 [wF ⟨s,k,m,q,0,O,Q,R,S,[],N,t,h⟩ (.osl o 1 0 1)]);have fin:∀ (w:PV) (ms:List Int) (a':Nat) (W:PF) (H':PH),PAt E mc n i W→W 15=some (.ptr p 17 0 0)→(∃ o,w=.osl o 1 0 ms.length) →
   aN H' (E.boxes v ext y A B J w5 .aB a'++[(p,.rows 17 [wF ⟨s,k,m,q,0,O,Q,R,S,ms,N,t,h⟩ w])]) (FE.lists y A B J w5 lw md dm dv pr++[(w,1,aY ms)]) →
   (∀ (d:PV) (U:PF) (H2:PH),PAt E mc n i U→aN H2 (E.boxes v ext y A B J d .aB a'++[(p,.rows 17 [wF ⟨s,k,m,q,0,O,Q,R,S,ms,N,t,h⟩ w])]) (FE.lists y A B J d lw md dm dv (pr++[wF ⟨s,k,m,q,0,O,Q,R,S,ms,N,t,h⟩ w])++[(w,1,aY ms)])→K .normal U H2) →
   wpOps C xD (K .normal) W H':=by
  intro w ms a' W H' δ u hw Y ζ;obtain⟨wo,rfl⟩:=hw;obtain⟨f0,f1,f2,f6,f7,f11,f13,f14⟩:=δ;have c1:=Y.at 1 rfl;have c3:=Y.at 3 rfl;have γ:(1:Nat)*17≤16777216:=by decide
  simp only[go_sem,xD,f7,u,c1,c3,γ,a6V,a7G,or_false,forall_eq,forall_eq_or_imp];refine Y.append 4 (src:=[wF ⟨s,k,m,q,0,O,Q,R,S,ms,N,t,h⟩ (.osl wo 1 0 ms.length)]) rfl rfl (by unfold roomFor; simp only[a6X,maxLen]; omega) fun d H2 h5 κ=>?_;obtain⟨q5,rfl⟩:=κ (by simp);have c2:=h5.at 1 rfl;simp only[go_sem,c2,a6V,a7G,or_false,forall_eq];exact ζ _ _ _ ⟨by simp only[go_sem,f0],by simp only[go_sem,f1],by simp only[go_sem,f2],by simp only[go_sem,f6],by simp only[go_sem,f7],by simp only[go_sem,f11],by simp only[go_sem,f13],by simp only[go_sem,f14]⟩ (h5.set 1 rfl (flB ext y A B J _ .aB))
 simp only[go_sem,IZ,f11];by_cases c:1<mc
 ·have c':(mc:Int)>1:=Om;simp only[go_sem,c',f0];refine dJ Lb.toAS T (o:=E.o) (n:=2) (a:=f.2) (by decide) af rfl (h4.at 0 rfl) ?_;have h5:=h4.set 0 rfl (bN v b.2);rw[hb];by_cases c2:b.1=0
  ·have X:(b.1:Int)=0:=Om;rw[if_pos c,if_pos c2] at V;have e1:IntKind.i64.wrap (1-(f.1:Int))=1-(f.1:Int):=wrap_i64 Om Om;have c3:=h5.at 3 rfl;have β:(1:Nat)*1≤16777216:=by decide
   simp only[go_sem,bH X,JA,u,Z,e1,β];refine h5.append 5 (src:=[[.int .i64 (1-(f.1:Int))]]) rfl rfl (by unfold roomFor; simp only[aY,a6K,a6X,maxLen]; omega) fun w' H2 h6 hw=>?_;obtain⟨q2,rfl⟩:=hw (by simp);have c4:=h6.at 3 rfl;simp only[go_sem,c4,u,a6V,a7G,or_false,forall_eq];have h7:=h6.set 3 rfl (.rows 17 [wF ⟨s,k,m,q,0,O,Q,R,S,[(f.1:Int),1-(f.1:Int)],N,t,h⟩ (.osl q2 1 0 2)]);exact fin (.osl q2 1 0 2) [(f.1:Int),1-(f.1:Int)] b.2 _ _ ⟨by simp only[go_sem,f0],by simp only[go_sem,f1],by simp only[go_sem,f2],by simp only[go_sem,f6],by simp only[go_sem,f7],by simp only[go_sem,f11],by simp only[go_sem,f13],by simp only[go_sem,f14]⟩ (by simp only[go_sem,u]) ⟨q2,rfl⟩ h7 (fun d U H2 g1 g2=>V _ d U H2 _ g1 ⟨q2,rfl⟩ g2)
  ·have X:¬ (b.1:Int)=0:=Om;rw[if_pos c,if_neg c2] at V;simp only[go_sem,bF X];exact fin (.osl o 1 0 1) [(f.1:Int)] b.2 _ _ ⟨by simp only[go_sem,f0],by simp only[go_sem,f1],by simp only[go_sem,f2],by simp only[go_sem,f6],by simp only[go_sem,f7],by simp only[go_sem,f11],by simp only[go_sem,f13],by simp only[go_sem,f14]⟩ (by simp only[go_sem,u]) ⟨o,rfl⟩ h5 (fun d U H2 g1 g2=>V _ d U H2 _ g1 ⟨o,rfl⟩ g2)
 ·have c':¬ (mc:Int)>1:=Om;rw[if_neg c] at V;simp only[go_sem,c'];exact fin (.osl o 1 0 1) [(f.1:Int)] f.2 _ _ ⟨by simp only[go_sem,f0],by simp only[go_sem,f1],by simp only[go_sem,f2],by simp only[go_sem,f6],by simp only[go_sem,f7],by simp only[go_sem,f11],by simp only[go_sem,f13],by simp only[go_sem,f14]⟩ (by simp only[go_sem,u]) ⟨o,rfl⟩ h4 (fun d U H2 g1 g2=>V _ d U H2 _ g1 ⟨o,rfl⟩ g2)
abbrev lF (l:List bT):List (List PV):=l.map bT.cells
abbrev nU (l:List eO):List (List PV):=l.map eO.cells
theorem qD {rows:List (List PV)} (h:∀ r∈rows,∀ c∈r,c.oid=none):Flat rows:=Flat.of fun r e c d q s rs=>ja (h r e c d) q s rs
theorem Zz (l:List cG):Flat (gQ l):=qD fun r e c d=>by
 obtain⟨x,_,rfl⟩:=a7N.1 e;simp only[cG.cells,a6V,a7G,or_false] at d;rcases d with rfl | rfl | rfl | rfl<;>rfl
theorem Z1 (l:List cQ):Flat (jJ l):=qD fun r e c d=>by
 obtain⟨x,_,rfl⟩:=a7N.1 e;simp only[cQ.cells,a6V,a7G,or_false] at d;rcases d with rfl | rfl | rfl | rfl<;>rfl
theorem Xq (l:List cE):Flat (jQ l):=qD fun r e c d=>by
 obtain⟨x,_,rfl⟩:=a7N.1 e;simp only[cE.cells,a6V,a7G,or_false] at d;rcases d with rfl | rfl | rfl | rfl | rfl | rfl | rfl<;>rfl
theorem Xs (l:List dN):Flat (lY l):=qD fun r e c d=>by
 obtain⟨x,_,rfl⟩:=a7N.1 e;simp only[dN.cells,a6V,a7G,or_false] at d;rcases d with rfl | rfl | rfl<;>rfl
theorem aTB (l:List eO):Flat (nU l):=qD fun r e c d=>by
 obtain⟨x,_,rfl⟩:=a7N.1 e;simp only[eO.cells,a6V,a7G,or_false] at d;rcases d with rfl | rfl<;>rfl
theorem acW (l:List bT):Flat (lF l):=qD fun r e c d=>by
 obtain⟨x,_,rfl⟩:=a7N.1 e;simp only[bT.cells,a6V,a7G,or_false] at d;rcases d with rfl | rfl | rfl | rfl | rfl | rfl | rfl | rfl | rfl | rfl | rfl | rfl | rfl | rfl | rfl | rfl | rfl<;>rfl
theorem amE (l:List Nat) (mc i:Nat) {a:Nat} (h:a≤l.length):(uB l mc i a).2≤l.length:=by
 have d:=bR l 9 (FY l (bR l ((aK l 3 (aK l 2 a).2).1+1) (bR l 4 (bR l 3 (bR l 2 h)))) (max (aK l 3 (aK l 2 a).2).1 1));have c:=bR l mc (tE l (tE l (tE l (tE l d))));unfold uB;simp only;split
 ·split
  ·exact bR l 2 c
  ·exact bR l 2 c
 ·exact c
theorem zU (l:List Nat) (mc:Nat) {a:Nat} (h:a≤l.length):∀ k,(fU l mc a k).2≤l.length∧(fU l mc a k).1.length=k
 | 0=>⟨h,rfl⟩
 | k+1=>by obtain⟨c,d⟩:=zU l mc h k;exact⟨amE l mc k c,by simp only[fU,a6T,a6X,d]⟩
theorem YC (l:List Nat) (c:Nat) {a:Nat} (h:a≤l.length):∀ k,(gX l c a k).2≤l.length∧(gX l c a k).1.length=k
 | 0=>⟨h,rfl⟩
 | k+1=>by obtain⟨d,e⟩:=YC l c h k;exact⟨bR l c d,by simp only[gX,a6T,a6X,e]⟩
theorem Nz {C:Ctx} (Lb:lO C) {l:List Nat} {v:PV} (T:Tp l v) (E:FE) (mc n a:Nat) (hn:n≤10) (η:0<mc) (X:mc≤50) (ha:a≤l.length) (M:Int) (d e q u:PV) (Q:List cG) (R:List cQ) (N:List cE) (O:List dN) (K:bQ) (F:PF) (H:PH)
  (B:PAt E mc n 0 F) (U:aN H (E.boxes v (.int .i64 M) d e q u .aB .aB a) [(d,4,gQ Q),(e,4,jJ R),(q,7,jQ N),(u,3,lY O)])
  (hK:∀ S F' H',(fH E).le F'→aN H' (E.boxes v (.int .i64 M) d e q u S .aB (fU l mc a n).2) (FE.lists d e q u S Q R N O (lF (fU l mc a n).1))→K (.exit 4) F' H') :
  aC.wp C (.loop IS) K F H:=by
 refine wp_loop (α:=Nat × PV × PH) (fun t=>uk E mc n t.1) (fun t=>t.2.2) (fun t=>t.1≤n∧aN t.2.2 (E.boxes v (.int .i64 M) d e q u t.2.1 .aB (fU l mc a t.1).2) (FE.lists d e q u t.2.1 Q R N O (lF (fU l mc a t.1).1))) (fun t=>n-t.1) (0,.aB,H) ⟨a6Q _,U.mV 17⟩ ?_ b_ ?_
 ·unfold uk fH
  (repeat' (first|exact c_|refine d_ ?_ ?_))<;>first|(simp only[go_sem,B.f0,B.f1,B.f2,B.f6,B.f7,B.f11,B.f13,B.f14]<;>rfl)|rfl
 rintro⟨i,S,H0⟩ ⟨hi,U⟩;simp only at hi U ⊢;obtain⟨k1,k2⟩:=zU l mc ha i;have A:fU l mc a (i+1)=((fU l mc a i).1++[(uB l mc i (fU l mc a i).2).1],(uB l mc i (fU l mc a i).2).2):=rfl;simp only[go_sem,IS,j9,uk,fH];by_cases hlt:i<n
 ·have y:(i:Int)<(n:Nat):=Om;generalize hg:fU l mc a i=g at *
  simp only[go_sem,y];refine aFX (C:=C) Lb T E mc n i g.2 k1 Om (.int .i64 M) d e q u S .aB _ _ _ _ H0 ⟨by simp only[go_sem],by simp only[go_sem],by simp only[go_sem],by simp only[go_sem],by simp only[go_sem],by simp only[go_sem],by simp only[go_sem],by simp only[go_sem]⟩ U ?_;intro p F1 H1 β Z V;simp only at V;have θ:uB l mc i g.2=_:=rfl;have W:=bR l 9 (FY l (bR l ((aK l 3 (aK l 2 g.2).2).1+1) (bR l 4 (bR l 3 (bR l 2 k1)))) (max (aK l 3 (aK l 2 g.2).2).1 1));refine aFY (C:=C) Lb T E mc n i _ W η X (.int .i64 M) d e q u S Q R N O _ (by rw[a6K,k2]; omega) _ _ _ _ (mkT 0 1) _ _ _ p _ F1 H1 β Z V ?_;intro J f b ms w c F2 H2 B' γ hw δ;obtain⟨o,rfl⟩:=hw;have hP:uB l mc i g.2=(⟨[112]++cT i,(1+(aK l 2 g.2).1:Nat),((aK l 3 (aK l 2 g.2).2).1:Nat),(1+(aK l 2 g.2).1+(aK l ((aK l 3 (aK l 2 g.2).2).1+1) (aK l 4 (aK l 3 (aK l 2 g.2).2).2).2).1:Nat),0,J.1.getD 0 0,J.1.getD 1 0,J.1.getD 2 0,J.1.getD 3 0,ms.1,(mW l (aK l ((aK l 3 (aK l 2 g.2).2).1+1) (aK l 4 (aK l 3 (aK l 2 g.2).2).2).2).2 (max (aK l 3 (aK l 2 g.2).2).1 1)).1,mkT ((aK l 9 (mW l (aK l ((aK l 3 (aK l 2 g.2).2).1+1) (aK l 4 (aK l 3 (aK l 2 g.2).2).2).2).2 (max (aK l 3 (aK l 2 g.2).2).1 1)).2).1:Nat) 8,mkT ((1+(aK l 4 (aK l 3 (aK l 2 g.2).2).2).1:Nat):Int) 1⟩,ms.2):=rfl;rw[hP] at A;generalize ε:(⟨[112]++cT i,(1+(aK l 2 g.2).1:Nat),((aK l 3 (aK l 2 g.2).2).1:Nat),(1+(aK l 2 g.2).1+(aK l ((aK l 3 (aK l 2 g.2).2).1+1) (aK l 4 (aK l 3 (aK l 2 g.2).2).2).2).1:Nat),0,J.1.getD 0 0,J.1.getD 1 0,J.1.getD 2 0,J.1.getD 3 0,ms.1,(mW l (aK l ((aK l 3 (aK l 2 g.2).2).1+1) (aK l 4 (aK l 3 (aK l 2 g.2).2).2).2).2 (max (aK l 3 (aK l 2 g.2).2).1 1)).1,mkT ((aK l 9 (mW l (aK l ((aK l 3 (aK l 2 g.2).2).1+1) (aK l 4 (aK l 3 (aK l 2 g.2).2).2).2).2 (max (aK l 3 (aK l 2 g.2).2).1 1)).2).1:Nat) 8,mkT ((1+(aK l 4 (aK l 3 (aK l 2 g.2).2).2).1:Nat):Int) 1⟩:bT)=P at *
  have ζ:P.a5A=ms.1:=by rw[← ε]
  obtain⟨rs,z1,z2,z3,Y,z5⟩:=δ.frz 5 rfl;have y1:=Y 0 _ (by decide) rfl;have y2:=Y 1 _ (by decide) rfl;have y3:=Y 2 _ (by decide) rfl;have y4:=Y 3 _ (by decide) rfl;have y5:=Y 4 _ (by decide) rfl;simp only at y1 y2 y3 y4 y5;have y0:=T.frz o 1 rs;obtain⟨f0,f1,f2,f6,f7,f11,f13,f14⟩:=γ;simp only[go_sem,kd,f14,wZz i];refine zz (i+1,c,H2.frz o 1 rs) z1 ⟨hlt,?_⟩ (by simp only; omega) ?_ b_
  ·rw[A];have eB:(E.boxes v (.int .i64 M) d e q u c .aB ms.2).map (fun b=>(b.1,b.2.frz o 1 rs))=E.boxes v (.int .i64 M) d e q u c .aB ms.2:=by show [(E.o,cC.rows 2 [[PV.dA o 1 rs v,.int .i64 ms.2]]),(E.o7,cC.rows 7 [[.int .i64 M,PV.dA o 1 rs d,PV.dA o 1 rs e,PV.dA o 1 rs q,PV.dA o 1 rs u,PV.dA o 1 rs c,.aB]]),(E.o6,flZ)]=_;rw[y0,y1,y2,y3,y4,y5]
   have e5:(lF g.1++[wF P (.osl o 1 0 ms.1.length)]).map (fun r=>r.map (PV.dA o 1 rs))=lF (g.1++[P]):=by
    rw[a7L,acW];have:([wF P (.osl o 1 0 ms.1.length)]:List (List PV)).map (fun r=>r.map (PV.dA o 1 rs))=[P.cells]:=by show [[PV.str P.name,.int .i64 P.k,.int .i64 P.m,.int .i64 P.a5X,.int .i64 P.s0,.int .i64 P.s1,.int .i64 P.s2,.int .i64 P.s3,.int .i64 P.s4,PV.dA o 1 rs (.osl o 1 0 ms.1.length),frs P.repair,.bool P.target.neg,aI P.target.num,aI P.target.den,.bool P.a5J.neg,aI P.a5J.num,aI P.a5J.den]]=_;rw[z2,← ζ];rfl
    rw[this];simp[lF]
   have eL:(FE.lists d e q u c Q R N O (lF g.1++[wF P (.osl o 1 0 ms.1.length)])).map (fun x=>(x.1,x.2.1,x.2.2.map fun r=>r.map (PV.dA o 1 rs)))=FE.lists d e q u c Q R N O (lF (g.1++[P])):=by show [(d,4,(gQ Q).map _),(e,4,(jJ R).map _),(q,7,(jQ N).map _),(u,3,(lY O).map _),(c,17,(lF g.1++[wF P (.osl o 1 0 ms.1.length)]).map _)]=_;rw[Zz,Z1,Xq,Xs,e5]
   rw[← eB,← eL];exact z5.sub (by rw[a7L]; exact List.sublist_append_left ..) (a8L.refl _)
  ·(repeat' (first|exact c_|refine d_ ?_ ?_))<;>first|(simp only[go_sem,f0,f1,f2,f6,f7,f11,f13]<;>rfl)|rfl
 ·have y:¬ (i:Int)<(n:Nat):=Om;have:i=n:=Om;subst this;simp only[go_sem,y];exact hK S _ _ (UR Sq Sq Sq Sq Sq) U
end Go.PM
