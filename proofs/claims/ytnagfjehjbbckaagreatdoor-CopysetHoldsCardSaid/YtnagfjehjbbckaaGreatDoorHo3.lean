/-
  Texts of ours, joined: FlW2 FlW3 FlW4 FlW5 FlW6 FlW7 FlW8 FlW9 ToPlain ToCode ToW1 ToW2 Pm34 ToW3 ToW4 ToW5 ToW6 ToW7 ToW8 ToW9 ToW10 MkCode R1Code R1W1 R1W2 R1W3 R1W4 MkPlain MkW1 Pm35 Pm36 MkW2 MkW3 MkW4 MkW5 MkW6 MkW7. No condition.
-/
import Derived.Test.YtnagfjehjbbckaaGreatDoorHo1
import Derived.Test.YtnagfjehjbbckaaGreatDoorHo2
import Derived.Lib.ItoaNum
set_option linter.unusedSimpArgs false
set_option linter.unusedVariables false
open Nat renaming reduceEqDiff → γ, reduceAdd → δ, reduceSub → ε, reduceMul → ζ, reduceLT → η, reduceLeDiff → θ, reduceBEq → τ
open Int renaming reduceLT → ι, reduceLE → κ, reduceEq → μ, reduceToNat → ν, reduceAdd → ξ, reduceNeg → ο, reduceBEq → ρ, reduceBNe → σ
open List renaming reduceReplicate → υ
open List renaming length_map → aUN, range → aUO, getElem_mem → aUQ, replicate → aUR, length_append → aUS, length_singleton → aUX, getD_eq_getElem?_getD → aUY, getElem?_eq_getElem → aVB, mem_cons → aVC, all_eq_true → aVD, take_of_length_le → aVI, length_take → aVJ, not_mem_nil → aVK, mem_range → aVM, getElem?_map → aVN, take_length → aVP, mem_map → aVQ, append_assoc → aVS, map_append → aVT, getElem?_eq_some_iff → aVW, getElem_of_mem → aVX, drop_zero → aVY, map_cons → aVZ, getElem_map → aWD, append_nil → aWF, getElem?_eq_none → aWG, length_cons → aWH, mem_append → aWI, drop_eq_getElem_cons → aWM, take_succ_eq_append_getElem → aWN, range' → aWP, length_drop → aWR, map_nil → aWS, Sublist → aWT, length_set → aWU, mem_singleton → aWV, length_nil → aXD, ext_getElem → aXE, getElem?_append_right → aXF, take_append_drop → aXG, getElem?_append_left → aXI, nodup_append → aXJ, mem_of_getElem? → aXL, set_append_right → aXO, range_succ → aXV, take_zero → aXW, countP_cons → aXZ, getElem?_take → aYA, set_cons_zero → aYB, countP_append → aYH, drop_of_length_le → aYI, map_congr_left → aYJ, getElem_append_right → aYL, getElem_append_left → aYM
open Nat renaming gcd → aUP, zero_le → aUT, le_refl → aUU, mul_add → aVF, zero_add → aVH, lt_or_ge → aVL, mul_assoc → aVO, mul_comm → aVR, add_mul → aVU, mul_le_mul_right → aVV, mod_eq_of_lt → aWA, le_trans → aWE, mod_lt → aWJ, pow_succ → aWL, min_eq_left → aWW, add_assoc → aWX, add_zero → aWY, eq_zero_or_pos → aWZ, mul_le_mul_left → aXA, pos_of_ne_zero → aXB, pow_pos → aXK, div_le_self → aXM, div_lt_iff_lt_mul → aXP, sub_self → aXQ, succ_mul → aXR, mul_le_mul → aXX, div_add_mod → aYC, div_eq_of_lt → aYD, pow_le_pow_right → aYK
open Bool renaming false_and → aUV, not_true → aUW, true_and → aVA, and_eq_true → aVE, not_false → aVG, and_false → aWB, and_true → aWQ, and_assoc → aXN, false_eq_true → aXU
open Option renaming map_eq_some_iff → aUZ, map_some → aWC, some → aXC, getD_some → aXH, bind_eq_some_iff → aYE, bind_some → aYF
open Int renaming toNat_natCast → aWK
open Array renaming replicate → aWO, length_toList → aXS, getElem?_eq_some_iff → aXT, getElem?_eq_getElem → aXY, getD_eq_getD_getElem? → aYG
namespace Go.PM
open Go Go.Na
theorem bC {t:Nat} {b c:Bool} {F:PF} {H:PH} (h:F t=some (.bool b)) (e:b=c):aU [.tmp t] (bX (.bool c)) .ret F H:=by
 subst e;exact aX (.inr rfl) .nil (vs:=[.bool b]) (by rw[kV,nS,h,oZ]) a_ ⟨.refl _,rfl⟩
theorem aKF {C:Ctx} (n lo hi:Int):AP.wp C (aU gin.res (bX (.bool (within n lo hi)))) (PF.args [.int .i64 n,.int .i64 lo,.int .i64 hi]) .nil:=by
 by_cases a:lo≤n
 ·by_cases b:n≤hi
  ·simp only[go_sem,AP,j6,j7,gin,show n≥lo from a,b];exact bC Ev (by simp[within,a,b])
  ·simp only[go_sem,AP,j6,j7,gin,show n≥lo from a,b];exact bC Ev (by simp[within,a,b])
 ·have c:¬ n≥lo:=a;simp only[go_sem,AP,j6,j7,gin,c];exact bC Ev (by simp[within,a])
theorem apC {C:Ctx} (L:tH C) (x:RF) (c:x.Ok):EF.wp C (aU La.res (bX (.bool (bM x)))) (PF.args [.agg x.cells]) .nil:=by
 simp only[go_sem,EF,ze,zf,La];refine aA (L.bits x.num c.1 c.2.2.1) Ev ?_;simp only[go_sem];refine bC Ev ?_;have:=@kK (val x.num);rw[bM,decide_eq_decide];omega
structure G4 (C:Ctx):Prop extends IE C where
 frac:∀ n d:Int,dK n→dK d→aH C 115 [.int .i64 n,.int .i64 d] .nil (aI (kj n d))
 red:∀ x:RF,x.Ok→aH C 116 [.agg x.cells] .nil (aI (frV (pD x)))
 ord:∀ x y:RF,x.Ok→y.Ok→aH C 114 [.agg x.cells,.agg y.cells] .nil (aI (CB x.neg (val x.num) (val x.den) y.neg (val y.num) (val y.den)))
 plus:∀ x y:RF,x.Ok→y.Ok→aH C 113 [.agg x.cells,.agg y.cells] .nil (aI (frV (gY x.v y.v)))
 tot:∀ l:List RF,kB l→aH C 117 [frs l] .nil (aI (frV (nY (l.map RF.v))))
theorem KQ {neg:Bool} {a b:Nat} {e:Int} (h:jB neg a b=.error e):e=2:=by
 unfold jB at h;split at h
 ·injection h with h; exact h.symm
 ·cases h
theorem Rq {x:RF} {e:Int} (h:pD x=.error e):e≠0:=by
 unfold pD at h;split at h
 ·rw[KQ h]; decide
 ·injection h with h; subst h; decide
theorem aHS {x:RF} {r:FV} (h:pD x=.ok r):r.rf.Ok:=by
 unfold pD at h;split at h
 ·exact (tV h).2
 ·cases h
theorem aFM {C:Ctx} (L:G4 C) (x:RF) (p:x.Ok):SE.wp C (aU axL.res (bX (.bool (cT x)))) (PF.args [.agg x.cells]) .nil:=by
 simp only[go_sem,SE,Zj,Zk,axL];refine aA (L.red x p) Ev ?_;unfold cT;cases i:pD x with
 | error e =>have:=bG (Rq i);simp only[go_sem,frV];refine aO fun o l=>?_;simp only[go_sem,WH,this];exact bC Ev rfl
 | ok r =>
  obtain⟨n,a,b⟩:=r;obtain⟨u,w,y,A⟩:=aHS i;simp only[go_sem,frV];refine aO fun o l=>?_;cases n with
  | true =>simp only[go_sem,WH];exact bC Ev rfl
  | false =>
   simp only[go_sem,WH];refine aA (L.bits _ u y) Ev ?_;rw[show val (FV.rf (false,a,b)).num=a from aT a];by_cases d:cM a≤32
   ·have c:((cM a:Nat):Int)≤32:=Om;simp only[go_sem,c];refine aA (L.bits _ w A) Ev ?_;rw[show val (FV.rf (false,a,b)).den=b from aT b];simp only[go_sem];refine bC Ev ?_;rw[decide_eq_true d];simp;omega
   ·have c:¬ ((cM a:Nat):Int)≤32:=Om;simp only[go_sem,c];refine bC Ev ?_;rw[decide_eq_false d];rfl
theorem N6:jB false 1 1=.ok (false,1,1):=by
 have:cM 1=1:=by rw[pQ (by decide),jU]
 simp[jB,this]
theorem Oa:kj 1 1=frV (.ok (false,1,1)):=by
 rw[kj,if_neg (by decide),uo];show frV (jB false 1 1)=_;rw[N6]
theorem arE:(FV.rf (false,1,1)).Ok:=(tV N6).2
theorem E7:cX 1 1=true:=by
 have:cM 1=1:=by rw[pQ (by decide),jU]
 simp[cX,this]
theorem aFQ {C:Ctx} (L:G4 C) (x:RF) (c:x.Ok):SG.wp C (aU gone.res (bX (.bool (xP x)))) (PF.args [.agg x.cells]) .nil:=by
 simp only[go_sem,SG,Zo,Zp,gone];refine aA (L.frac 1 1 (by decide) (by decide)) Ev ?_;rw[Oa];simp only[go_sem,frV];refine aO fun o d=>?_;simp only[go_sem,Zq];refine aA (L.ord x (FV.rf (false,1,1)) c arE) Ev ?_;rw[show val (FV.rf (false,1,1)).num=1 from aT 1,show val (FV.rf (false,1,1)).den=1 from aT 1,show (FV.rf (false,1,1)).neg=false from rfl];unfold CB xP;rw[E7,aWQ];cases e:cX (val x.num) (val x.den) with
 | false =>simp only[go_sem,uc];exact bC Ev rfl
 | true =>simp only[go_sem,uc];exact bC Ev rfl
theorem axD {C:Ctx} (p:RF→Bool) (fn:Nat) (l:List RF) (u:Fits l) (h:∀ x∈l,aH C fn [.agg x.cells] .nil (aI (.bool (p x)))) :
  JQ.wp C (aU aiU.res (bX (.bool (l.all p)))) (PF.args [frs l,.fn fn []]) .nil:=by
 simp only[go_sem,JQ,Lm,Ln,aiU];refine wp_loop (α:=Nat) (fun k=>((((PF.nil.set 1 (.fn fn [])).set 7 (frs l)).set 8 (.int .i64 (l.length:Nat))).set 9 (.int .i64 k))) (fun _=>.nil) (fun k=>k≤l.length∧(l.take k).all p=true) (fun k=>l.length-k) 0 ⟨aUT _,rfl⟩ ?_ a_ ?_
 ·(repeat' (first|exact d_|refine c_ ?_ ?_))<;>first|(simp only[go_sem,aUN]<;>rfl)|rfl
 rintro k ⟨w,d⟩;simp only[go_sem,Ll,Lo];by_cases hlt:k<l.length
 ·have c:(k:Int)<(l.length:Nat):=Om;have i:(l.map RF.cells)[k]?=some (l[k]).cells:=by simp[hlt]
  simp only[go_sem,c,Lp,i];refine aO fun o y=>?_;simp only[go_sem,Lr];refine aA (h _ (aUQ hlt)) Ev ?_;cases e:p l[k] with
  | false =>simp only[go_sem,Ls];exact bC (b:=false) Ev (pP (p:=p) hlt e).symm
  | true =>simp only[go_sem,Lt,wZz k];refine aG (k+1) ⟨hlt,aVD.1 (pO hlt d e)⟩ Om ?_ a_;exact Lq
 ·have c:¬ (k:Int)<(l.length:Nat):=Om;simp only[go_sem,c,Lu];have:k=l.length:=Om;subst this;rw[aVI (aUU _)] at d;exact bC Ev d.symm
theorem axF {C:Ctx} (p:Int→Bool) (fn:Nat) (l:List Int) (u:Fits l) (h:∀ x∈l,aH C fn [.int .i64 x] .nil (aI (.bool (p x)))) :
  JR.wp C (aU aiV.res (bX (.bool (l.all p)))) (PF.args [ints l,.fn fn []]) .nil:=by
 simp only[go_sem,JR,Lx,Ly,aiV];refine wp_loop (α:=Nat) (fun k=>((((PF.nil.set 1 (.fn fn [])).set 7 (ints l)).set 8 (.int .i64 (l.length:Nat))).set 9 (.int .i64 k))) (fun _=>.nil) (fun k=>k≤l.length∧(l.take k).all p=true) (fun k=>l.length-k) 0 ⟨aUT _,rfl⟩ ?_ a_ ?_
 ·(repeat' (first|exact d_|refine c_ ?_ ?_))<;>first|(simp only[go_sem,aUN]<;>rfl)|rfl
 rintro k ⟨w,d⟩;simp only[go_sem,Lw,Lz];by_cases hlt:k<l.length
 ·have c:(k:Int)<(l.length:Nat):=Om;have i:(l.map fun n=>[PV.int .i64 n])[k]?=some [.int .i64 l[k]]:=by simp[hlt]
  simp only[go_sem,c,L0,i,L3];refine aA (h _ (aUQ hlt)) Ev ?_;cases e:p l[k] with
  | false =>simp only[go_sem,L4];exact bC (b:=false) Ev (pP (p:=p) hlt e).symm
  | true =>simp only[go_sem,L5,wZz k];refine aG (k+1) ⟨hlt,aVD.1 (pO hlt d e)⟩ Om ?_ a_;exact Lq
 ·have c:¬ (k:Int)<(l.length:Nat):=Om;simp only[go_sem,c,L6];have:k=l.length:=Om;subst this;rw[aVI (aUU _)] at d;exact bC Ev d.symm
abbrev ahH (l:List Bool):PV:=.sl 1 (l.map fun b=>[PV.bool b])
theorem axB {C:Ctx} (p:Bool→Bool) (fn:Nat) (l:List Bool) (u:Fits l) (h:∀ x∈l,aH C fn [.bool x] .nil (aI (.bool (p x)))) :
  JP.wp C (aU aiT.res (bX (.bool (l.all p)))) (PF.args [ahH l,.fn fn []]) .nil:=by
 simp only[go_sem,JP,Ld,Le,aiT];refine wp_loop (α:=Nat) (fun k=>((((PF.nil.set 1 (.fn fn [])).set 7 (ahH l)).set 8 (.int .i64 (l.length:Nat))).set 9 (.int .i64 k))) (fun _=>.nil) (fun k=>k≤l.length∧(l.take k).all p=true) (fun k=>l.length-k) 0 ⟨aUT _,rfl⟩ ?_ a_ ?_
 ·(repeat' (first|exact d_|refine c_ ?_ ?_))<;>first|(simp only[go_sem,aUN]<;>rfl)|rfl
 rintro k ⟨w,d⟩;simp only[go_sem,Lc,Lf];by_cases hlt:k<l.length
 ·have c:(k:Int)<(l.length:Nat):=Om;have i:(l.map fun b=>[PV.bool b])[k]?=some [.bool l[k]]:=by simp[hlt]
  simp only[go_sem,c,Lg,i,Lh];refine aA (h _ (aUQ hlt)) Ev ?_;cases e:p l[k] with
  | false =>simp only[go_sem,Li];exact bC (b:=false) Ev (pP (p:=p) hlt e).symm
  | true =>simp only[go_sem,Lj,wZz k];refine aG (k+1) ⟨hlt,aVD.1 (pO hlt d e)⟩ Om ?_ a_;exact Lq
 ·have c:¬ (k:Int)<(l.length:Nat):=Om;simp only[go_sem,c,Lk];have:k=l.length:=Om;subst this;rw[aVI (aUU _)] at d;exact bC Ev d.symm
theorem apE {C:Ctx} (b:Bool):EG.wp C (aU Ma.res (bX (.bool b))) (PF.args [.bool b]) .nil:=by
 simp only[go_sem,EG,zg,zh,Ma];exact bC Ev rfl
theorem axN {C:Ctx} (c:∀ n lo hi:Int,aH C 104 [.int .i64 n,.int .i64 lo,.int .i64 hi] .nil (aI (.bool (within n lo hi)))) (n:Int):JV.wp C (aU ajA.res (bX (.bool (within n 0 8)))) (PF.args [.int .i64 n]) .nil:=by
 simp only[go_sem,JV,Mj,Mk,ajA];refine aA (c n 0 8) Ev ?_;simp only[go_sem];exact bC Ev rfl
theorem apH {C:Ctx} (d:∀ x:RF,x.Ok→aH C 105 [.agg x.cells] .nil (aI (.bool (cT x)))) (e:∀ x:RF,x.Ok→aH C 97 [.agg x.cells] .nil (aI (.bool (bM x)))) (x:RF) (c:x.Ok) :
  EH.wp C (aU Mo.res (bX (.bool (cT x&&bM x)))) (PF.args [.agg x.cells]) .nil:=by
 simp only[go_sem,EH,zm,zn,Mo];refine aA (d x c) Ev ?_;cases i:cT x with
 | false =>simp only[go_sem];exact bC Ev rfl
 | true =>simp only[go_sem];refine aA (e x c) Ev ?_;simp only[go_sem];exact bC Ev rfl
structure tD (C:Ctx):Prop extends G4 C where
 inn:∀ n lo hi:Int,aH C 104 [.int .i64 n,.int .i64 lo,.int .i64 hi] .nil (aI (.bool (within n lo hi)))
 rR:∀ x:RF,x.Ok→aH C 97 [.agg x.cells] .nil (aI (.bool (bM x)))
 lim:∀ x:RF,x.Ok→aH C 105 [.agg x.cells] .nil (aI (.bool (cT x)))
 one:∀ x:RF,x.Ok→aH C 101 [.agg x.cells] .nil (aI (.bool (xP x)))
 allf:∀ (p:RF→Bool) (fn:Nat) (l:List RF),Fits l→(∀ x∈l,aH C fn [.agg x.cells] .nil (aI (.bool (p x))))→aH C 99 [frs l,.fn fn []] .nil (aI (.bool (l.all p)))
 alli:∀ (p:Int→Bool) (fn:Nat) (l:List Int),Fits l→(∀ x∈l,aH C fn [.int .i64 x] .nil (aI (.bool (p x))))→aH C 100 [ints l,.fn fn []] .nil (aI (.bool (l.all p)))
 allb:∀ (p:Bool→Bool) (fn:Nat) (l:List Bool),Fits l→(∀ x∈l,aH C fn [.bool x] .nil (aI (.bool (p x))))→aH C 98 [ahH l,.fn fn []] .nil (aI (.bool (l.all p)))
 ends1:∀ b:Bool,aH C 103 [.bool b] .nil (aI (.bool b))
 num1:∀ n:Int,aH C 107 [.int .i64 n] .nil (aI (.bool (within n 0 8)))
 rate1:∀ x:RF,x.Ok→aH C 109 [.agg x.cells] .nil (aI (.bool (cT x&&bM x)))
 name:∀ s:List UInt8,aH C 123 [.str s] .nil (aI (.bool (isName s)))
theorem tD.ayH {C:Ctx} (L:tD C) (l:List RF) (h:kB l):aH C 99 [frs l,.fn 105 []] .nil (aI (.bool (l.all cT))) :=
 L.allf cT 105 l h.fits fun x c=>L.lim x (h.all x c)
theorem within_iff {n lo hi:Int}:within n lo hi=true↔lo≤n∧n≤hi:=by simp[within]
theorem aFO {C:Ctx} (L:tD C) (p:bT) (B:p.Ok) :
  SF.wp C (aU axM.res (bX (.bool (MN p)))) (PF.args [.int .i64 p.k,.int .i64 p.m,.int .i64 p.aUA,.agg [.int .i64 p.s0,.int .i64 p.s1,.int .i64 p.s2,.int .i64 p.s3,.int .i64 p.s4]]) .nil:=by
 simp only[go_sem,SF,Zl,Zm,axM];refine aA (L.inn p.k 1 6) rfl ?_;unfold MN;cases u:within p.k 1 6 with
 | false =>simp only[go_sem,aVG,zN];exact bC rfl (by simp only[aUV])
 | true =>
  obtain⟨k1,k2⟩:=within_iff.1 u;simp only[go_sem,aUW];refine aA (L.inn p.m 0 4) rfl ?_;cases w:within p.m 0 4 with
  | false =>simp only[go_sem,aVG,zN];exact bC rfl (by simp only[aUV,aWB])
  | true =>
   obtain⟨E,F⟩:=within_iff.1 w;have l:IntKind.i64.wrap (p.k+p.m)=p.k+p.m:=wrap_i64 Om Om;by_cases i:p.k+p.m≤8
   ·have c:¬ p.k+p.m>8:=Om;simp only[go_sem,aUW,l,c];refine aA (L.inn p.aUA p.k (p.k+p.m)) rfl ?_;cases A:within p.aUA p.k (p.k+p.m) with
    | false =>simp only[go_sem,aVG,zN];exact bC rfl (by simp only[aUV,aWB])
    | true =>
     have d:(0:Int)<((5:Nat):Int):=by decide
     by_cases h5:p.s0=0
     ·have e:chunks 1 5 [PV.int .i64 p.s0,.int .i64 p.s1,.int .i64 p.s2,.int .i64 p.s3,.int .i64 p.s4]=([p.s0,p.s1,p.s2,p.s3,p.s4].map fun n=>[PV.int .i64 n]):=rfl;have y:5≤maxLen:=by decide
      simp only[go_sem,aUW,d,cA h5,Zn,e,y];refine aA (L.alli (fun n=>within n 0 8) 107 [p.s0,p.s1,p.s2,p.s3,p.s4] (show 5≤9223372036854775807 by decide) fun x _=>L.num1 x) rfl ?_;simp only[go_sem];exact bC rfl (by rw[decide_eq_true i,decide_eq_true h5]; simp only[aVA])
     ·simp only[go_sem,aUW,d,dO h5,zN];exact bC rfl (by rw[decide_eq_false h5]; simp only[aUV,aWB])
   ·have c:p.k+p.m>8:=Om;simp only[go_sem,aUW,l,c,zN];exact bC rfl (by rw[decide_eq_false i]; simp only[aUV,aWB])
theorem max_eq (a b:Int):(if a<b then b else a)=max a b:=by
 rw[Int.max_def];by_cases h:a<b
 ·rw[if_pos h,if_pos Om]
 ·by_cases c:a≤b
  ·rw[if_neg h,if_pos c]; omega
  ·rw[if_neg h,if_neg c]
theorem axQ {C:Ctx} (L:tD C) (p:bT) (c:p.Ok) :
  JW.wp C (aU ajB.res (bX (.bool (CR p)))) (PF.args [.int .i64 p.m,frs p.repair,.agg p.target.cells,.agg p.aTM.cells]) .nil:=by
 simp only[go_sem,JW,Mp,Mq,ajB,max_eq,aUN];unfold CR;by_cases d:(p.repair.length:Int)=max p.m 1
 ·simp only[go_sem,bP d];refine aA (L.allf (fun x=>cT x&&bM x) 109 p.repair c.repair.fits fun x e=>L.rate1 x (c.repair.all x e)) rfl ?_;rw[decide_eq_true d,aVA];cases i:p.repair.all fun x=>cT x&&bM x with
  | false =>simp only[go_sem];exact bC rfl rfl
  | true =>
   simp only[go_sem];refine aA (L.lim _ c.target) rfl ?_;cases l:cT p.target with
   | false =>simp only[go_sem];exact bC rfl rfl
   | true =>
    simp only[go_sem];refine aA (L.one _ c.target) rfl ?_;cases u:xP p.target with
    | false =>simp only[go_sem];exact bC rfl rfl
    | true =>simp only[go_sem];refine aA (L.lim _ c.aTM) rfl ?_;simp only[go_sem];exact bC rfl rfl
 ·simp only[go_sem,bG d];exact bC rfl (by rw[decide_eq_false d]; rfl)
def qZ (l:List (List UInt8)) (k:List KS):Option PV:=match k with
 | [.str s]=>if l.contains s then some (.bool true) else none
 | _=>none
theorem arY (l:List (List UInt8)) (s:List UInt8):(fun k=>if k=[KS.str s] then some (PV.bool true) else qZ l k)=qZ (l++[s]):=by
 funext k
 match k with
 | []=>rfl
 | [.int a b]=>simp[qZ]
 | [.bool a]=>simp[qZ]
 | [.str t] =>
  by_cases h:t=s
  ·subst h; simp[qZ]
  ·simp[qZ,h]
 | a::b::c=>simp[qZ]
abbrev texts (l:List (List UInt8)):PV:=.sl 1 (l.map fun s=>[PV.str s])
theorem arX:qZ []=(fun _=>none:jW):=by
 funext k
 match k with
 | []=>rfl
 | [.int a b]=>rfl
 | [.bool a]=>rfl
 | [.str t]=>rfl
 | a::b::c=>cases a<;>rfl
theorem arZ (l:List (List UInt8)) (s:List UInt8):jW.upd (qZ l) [KS.str s] (.bool true)=qZ (l++[s]):=arY l s
theorem Rz (l:List (List UInt8)) (s:List UInt8):(qZ l [KS.str s]).getD (.bool false)=.bool (l.contains s):=by
 show (if l.contains s then some (PV.bool true) else none).getD (.bool false)=_;cases l.contains s<;>rfl
theorem vt {p:Nat→Bool} {k:Nat} (h:(aUO k).all p=true) (c:p k=true):(aUO (k+1)).all p=true:=by
 rw[aXV,List.all_append,h]; simp[c]
theorem fC {p:Nat→Bool} {n k:Nat} (c:k<n) (d:p k=false):(aUO n).all p=false:=by
 rw[List.all_eq_false];exact⟨k,aVM.2 c,by simp[d]⟩
def rP (p:Nat→Bool) (k:Nat):Prop:=(aUO k).all p=true
theorem rP.zero {p:Nat→Bool}:rP p 0:=rfl
theorem rP.step {p:Nat→Bool} {k:Nat} (h:rP p k) (c:p k=true):rP p (k+1):=vt h c
def amD (l:List (List UInt8)) (o k:Nat):PF:=((((PF.nil.set 3 (.map o)).set 7 (texts l)).set 8 (.int .i64 (l.length:Nat))).set 9 (.int .i64 k))
theorem axT {C:Ctx} (L:tD C) (l:List (List UInt8)) (E:Fits l):JY.wp C (aU ajE.res (bX (.bool (distinct l)))) (PF.args [texts l]) .nil:=by
 simp only[go_sem,JY,Mw,Mx,ajE];refine aO fun o H=>?_;simp only[go_sem,My];have y:(PH.nil.set o (.map (false,[.str]) (fun _=>none)))=PH.nil.set o (.map (false,[.str]) (qZ (l.take 0))):=by rw[aXW,arX]
 unfold distinct;generalize A:(fun i=>isName (l.getD i [])&&!(l.take i).contains (l.getD i []))=p;have u:∀ k (h:k<l.length),p k=(isName l[k]&&!(l.take k).contains l[k]):=by intro k h;rw[← A];simp only[aUY,aVB h,aXH]
 refine wp_loop (α:=Nat) (fun k=>amD l o k) (fun k=>PH.nil.set o (.map (false,[.str]) (qZ (l.take k)))) (fun k=>k≤l.length∧rP p k) (fun k=>l.length-k) 0 ⟨aUT _,.zero⟩ ?_ ?_ ?_
 ·unfold amD
  (repeat' (first|exact d_|refine c_ ?_ ?_))<;>first|(simp only[go_sem,aUN]<;>rfl)|rfl
 ·rw[y]; exact b_
 rintro k ⟨F,x⟩;simp only[go_sem,Mv,Mz,amD];by_cases hlt:k<l.length
 ·have d:(k:Int)<(l.length:Nat):=Om;have B:(l.map fun s=>[PV.str s])[k]?=some [.str l[k]]:=by simp[hlt]
  simp only[go_sem,d,M0,B,M1];refine aA (L.name l[k]) rfl ?_;have c:=u k hlt;cases w:isName l[k] with
  | false =>rw[w,aUV] at c;simp only[go_sem,aVG,bf];exact bC (b:=false) rfl (fC hlt c).symm
  | true =>
   rw[w,aVA] at c;cases e:(l.take k).contains l[k] with
   | true =>rw[e] at c;simp only[go_sem,aUW,Rz,e,bf];exact bC (b:=false) rfl (fC hlt c).symm
   | false =>
    rw[e] at c;simp only[go_sem,aUW,Rz,e,M2,arZ,M3,wZz k];refine aG (k+1) ⟨hlt,x.step c⟩ Om ?_ ?_
    ·exact Lq
    ·rw[aWN hlt];exact e_ a_ Sq
 ·have d:¬ (k:Int)<(l.length:Nat):=Om;simp only[go_sem,d,zo];have:k=l.length:=Om;subst this;exact bC (b:=true) rfl (show rP p l.length from x).symm
def marks (n:Nat) (l:List Int):List Bool:=(aUO n).map fun (i:Nat)=>l.contains (i:Int)
theorem CN (n:Nat) (l:List Int):(marks n l).length=n:=by simp[marks]
theorem Ad (n:Nat):marks n []=aUR n false:=by
 refine aXE (by simp[marks]) fun i c d=>by simp[marks]
theorem sH {n:Nat} {l:List Int} {m:Int} (c:0≤m) (d:m<n):(marks n l)[m.toNat]?=some (l.contains m):=by
 have:m.toNat<n:=Om;simp only[marks,aVN,List.getElem?_range this,aWC];rw[Int.toNat_of_nonneg c]
theorem CO {n:Nat} {l:List Int} {m:Int} (d:0≤m) (e:m<n):(marks n l).set m.toNat true=marks n (l++[m]):=by
 refine aXE (by simp[marks]) fun i p u=>?_;simp only[marks,aWD,List.getElem_range,List.getElem_set,List.contains_append];by_cases h:m.toNat=i
 ·subst h;rw[if_pos rfl,Int.toNat_of_nonneg d]; simp
 ·have c:((i:Nat):Int)≠m:=Om;rw[if_neg h]; simp[c]
abbrev cY (l:List Bool):List (List PV):=l.map fun b=>[PV.bool b]
theorem jV (l:List Bool) (i:Nat) (b:Bool):(cY l).set i [.bool b]=cY (l.set i b):=by unfold cY; rw[List.map_set]
structure Hr (C:Ctx):Prop extends tD C where
 num:∀ p:bT,p.Ok→aH C 106 [.int .i64 p.k,.int .i64 p.m,.int .i64 p.aUA,.agg [.int .i64 p.s0,.int .i64 p.s1,.int .i64 p.s2,.int .i64 p.s3,.int .i64 p.s4]] .nil (aI (.bool (MN p)))
 rate:∀ p:bT,p.Ok→aH C 108 [.int .i64 p.m,frs p.repair,.agg p.target.cells,.agg p.aTM.cells] .nil (aI (.bool (CR p)))
 uniq:∀ l:List (List UInt8),Fits l→aH C 110 [texts l] .nil (aI (.bool (distinct l)))
def aAC (p:bT) (aTD:Nat) (o k:Nat):PF:=(((((PF.nil.set 1 (.int .i64 aTD)).set 5 (.osl o 1 0 aTD)).set 39 (ints p.aTD)).set 40 (.int .i64 (p.aTD.length:Nat))).set 41 (.int .i64 k))
theorem aFS {C:Ctx} (L:Hr C) (p:bT) (B:p.Ok) (aTD:Nat) (R:aTD≤4):SH.wp C (aU axP.res (bX (.bool (jQ aTD p)))) (PF.args [.agg p.cells,.int .i64 aTD]) .nil:=by
 simp only[go_sem,SH,Zr,Zs,axP];refine aA (L.num p B) rfl ?_;unfold jQ;cases l:MN p with
 | false =>simp only[go_sem,aVG,WI];exact bC rfl (by simp only[aUV])
 | true =>
  by_cases i:p.aTD.length=0
  ·simp only[go_sem,aUW,aUN,bP (Om:(p.aTD.length:Int)=0),WI];refine bC rfl ?_;have:decide (p.aTD.length≠0)=false:=by simp[i]
   rw[this]; simp only[aUV,aWB]
  ·have x:decide (p.aTD.length≠0)=true:=by simp[i]
   simp only[go_sem,aUW,aUN,bG (Om:(p.aTD.length:Int)≠0)];refine aA (L.rate p B) rfl ?_;rw[x];cases O:CR p with
   | false =>simp only[go_sem,aVG,WI];exact bC rfl (by simp only[aUV,aWB])
   | true =>
    have y:((aTD:Nat):Int)*((1:Nat):Int)≤140737488355328:=Om;have A:((aTD:Nat):Int)≤9223372036854775807:=Om;simp only[aVA];simp only[go_sem,aUW,Zt,y,A];refine aO fun o S=>?_;simp only[go_sem,Zu];have J:aUR aTD [PV.bool false]=cY (marks aTD (p.aTD.take 0)):=by rw[aXW,Ad]; simp[cY]
    rw[J];generalize K:(fun j=>within (p.aTD.getD j 0) 0 ((aTD:Int)-1)&&!(p.aTD.take j).contains (p.aTD.getD j 0))=q;have E:∀ k (h:k<p.aTD.length),q k=(within p.aTD[k] 0 ((aTD:Int)-1)&&!(p.aTD.take k).contains p.aTD[k]):=by intro k h;rw[← K];simp only[aUY,aVB h,aXH]
    refine wp_loop (α:=Nat) (fun k=>aAC p aTD o k) (fun k=>PH.nil.set o (.rows 1 (cY (marks aTD (p.aTD.take k))))) (fun k=>k≤p.aTD.length∧rP q k) (fun k=>p.aTD.length-k) 0 ⟨aUT _,.zero⟩ ?_ (b_) ?_
    ·unfold aAC
     (repeat' (first|exact d_|refine c_ ?_ ?_))<;>first|(simp only[go_sem,aUN]<;>rfl)|rfl
    rintro k ⟨Q,F⟩;simp only[go_sem,Ml,Zv,aAC];have H:=B.aTD;by_cases hlt:k<p.aTD.length
    ·have d:(k:Int)<(p.aTD.length:Nat):=Om;have M:(p.aTD.map fun n=>[PV.int .i64 n])[k]?=some [.int .i64 p.aTD[k]]:=by simp[hlt]
     have N:IntKind.i64.wrap ((aTD:Int)-1)=(aTD:Int)-1:=wrap_i64 Om Om;simp only[go_sem,d,Zw,M,Zx,N];refine aA (L.inn p.aTD[k] 0 ((aTD:Int)-1)) rfl ?_;have c:=E k hlt;cases l:within p.aTD[k] 0 ((aTD:Int)-1) with
     | false =>rw[l,aUV] at c;simp only[go_sem,aVG,ud];exact bC (b:=false) rfl (fC hlt c).symm
     | true =>
      rw[l,aVA] at c;obtain⟨u,U⟩:=within_iff.1 l;have w:p.aTD[k]<(aTD:Nat):=Om;have e:(cY (marks aTD (p.aTD.take k)))[p.aTD[k].toNat]?=some [.bool ((p.aTD.take k).contains p.aTD[k])]:=by unfold cY;rw[aVN,sH u w]; rfl
      cases i:(p.aTD.take k).contains p.aTD[k] with
      | true =>rw[i] at c e;simp only[go_sem,aUW,u,w,aVH,e,ud];exact bC (b:=false) rfl (fC hlt c).symm
      | false =>
       rw[i] at c e;simp only[go_sem,aUW,u,w,aVH,e,Zy,jV,CO u w,Mm,wZz k];refine aG (k+1) ⟨hlt,F.step c⟩ Om ?_ ?_
       ·exact Lq
       ·rw[aWN hlt];exact e_ a_ Sq
    ·have d:¬ (k:Int)<(p.aTD.length:Nat):=Om;simp only[go_sem,d,Mn];have:k=p.aTD.length:=Om;subst this;exact bC (b:=true) rfl (show rP q p.aTD.length from F).symm
def awB:PV→RF
 | .agg [.bool n,a,b]=>⟨n,jN a,jN b⟩
 | _=>⟨false,[],[]⟩
theorem ahZ (x:RF):awB (.agg x.cells)=x:=by
 show (⟨x.neg,jN (aK x.num),jN (aK x.den)⟩:RF)=x;rw[eJ,eJ]
def flS:Spec:=fun name vs=>match name,vs with
 | 104,[.int _ n,.int _ lo,.int _ hi]=>some ([],fun _=>aI (.bool (within n lo hi)))
 | 105,[x]=>some ([],fun _=>aI (.bool (cT (awB x))))
 | 97,[x]=>some ([],fun _=>aI (.bool (bM (awB x))))
 | _,_=>none
theorem Kt (n lo hi:Int):flS 104 [.int .i64 n,.int .i64 lo,.int .i64 hi]=some ([],fun _=>aI (.bool (within n lo hi))):=rfl
theorem aFD (x:RF):flS 105 [.agg x.cells]=some ([],fun _=>aI (.bool (cT x))):=by
 show some _=_; rw[ahZ]
def aiY (f:aD) (t:List cF) (k:Nat):PF:=((((PF.nil.set 1 (.bL f.cells)).set 45 (.sl 7 (t.map cF.cells))).set 46 (.int .i64 (t.length:Nat))).set 47 (.int .i64 k))
theorem aFI {C:Ctx} (L:tD C) (f:aD) (Y:f.Ok):CE.wp C (aU aiX.res (bX (.bool (oI f)))) (PF.args [.agg f.cells]) .nil:=by
 obtain⟨aUG,aTJ,aTD,aTF,aTC,aTG,aTE⟩:=f;cases aTF with
 | nil =>rw[show oI ⟨aUG,aTJ,aTD,[],aTC,aTG,aTE⟩=false from rfl];simp only[go_sem,CE,t7,t8,aiX,aWS,aXD];have:(((0:Nat):Int)==0)=true:=rfl;simp only[go_sem,this,Y5];exact bC rfl rfl
 | cons r t =>
  generalize hF:(⟨aUG,aTJ,aTD,r::t,aTC,aTG,aTE⟩:aD)=f at *
  have A:f.aTF=r::t:=by rw[← hF]
  have hP:oI f=BZ f r t:=by unfold oI; rw[A]
  rw[hP];unfold BZ;have e:f.aTF.length=t.length+1:=by rw[A]; rfl
  have Z:=Y.aTF;have H:(f.aTF.map cF.cells)[0]?=some r.cells:=by rw[A]; rfl
  have β:(f.aTF.map cF.cells)[Int.toNat 0]?=some r.cells:=H;have E:=Y.dom;have u:=E r (by rw[A]; exact List.mem_cons_self ..);simp only[go_sem,CE,t7,t8,aiX,aUN,e,bG (Om:((t.length+1:Nat):Int)≠0),Y6,H];refine aO fun o ho=>?_;by_cases w:r.name=[]
  ·rw[decide_eq_true w];by_cases y:r.level=0
   ·rw[decide_eq_true y];by_cases B:r.parent=-1
    ·rw[decide_eq_true B];by_cases J:r.aTW=0
     ·rw[decide_eq_true J];simp only[go_sem,zL,qG w,aUW,cA y,cA B,cA J];refine aA (L.lim r.aTR u.1) rfl ?_;cases c5:cT r.aTR with
      | false =>simp only[go_sem,aVG,vF];exact bC rfl (by simp only[aWB,aUV])
      | true =>
       simp only[go_sem,aUW];refine aA (L.rR r.aTR u.1) rfl ?_;cases c6:bM r.aTR with
       | true =>simp only[go_sem,vF];exact bC rfl (by simp only[aUW,aWB,aUV])
       | false =>
        have S:(0:Int)≤1∧(1:Int)≤((t.length+1:Nat):Int):=Om;have x:((f.aTF.map cF.cells).take (t.length+1)).drop (Int.toNat 1)=t.map cF.cells:=by rw[aVI (by simp[e]),A]; rfl
        have p:((f.aTF.map cF.cells).take (t.length+1)).drop 1=t.map cF.cells:=x;simp only[go_sem,Y7,aUN,e,S,p,aWK];generalize hq:(fun i=>match t[i]? with | some d=>JC f i d | none=>false)=q;have Q:∀ k (h:k<t.length),q k=JC f k t[k]:=by intro k h;rw[← hq];simp only[aVB h]
        refine wp_loop (α:=Nat) (fun k=>aiY f t k) (fun k=>.nil) (fun k=>k≤t.length∧rP q k) (fun k=>t.length-k) 0 ⟨aUT _,.zero⟩ ?_ a_ ?_
        ·unfold aiY
         (repeat' (first|exact d_|refine c_ ?_ ?_))<;>first|(simp only[go_sem,aUN]<;>rfl)|rfl
        rintro k ⟨hk,X⟩;simp only[go_sem,L7,Y8,aiY];by_cases hlt:k<t.length
        ·have l:(k:Int)<(t.length:Nat):=Om;have R:(t.map cF.cells)[k]?=some (t[k]).cells:=by simp[hlt]
         have N:=E t[k] (by rw[A]; exact List.mem_cons_of_mem _ (aUQ hlt));have c:=Q k hlt;unfold JC at c;simp only[go_sem,l,Y9,R];refine aO fun o2 γ=>?_;simp only[go_sem];refine bS .nil flS a_ ?_;simp only[go_sem,Za];refine bY (Kt _ 0 k) (L.inn (t[k]).parent 0 k) rfl a_ ?_;cases M:within (t[k]).parent 0 k with
         | false =>simp only[M,aUV] at c;simp only[go_sem,aVG,vE];exact bC (b:=false) rfl (fC hlt c).symm
         | true =>
          obtain⟨i1,i2⟩:=within_iff.1 M;have i3:(t[k]).parent.toNat<f.aTF.length:=Om;have F:(f.aTF.map cF.cells)[(t[k]).parent.toNat]?=some (f.aTF[(t[k]).parent.toNat]).cells:=by simp[i3]
          have O:(f.aTF.map cF.level).getD (t[k]).parent.toNat 0=(f.aTF[(t[k]).parent.toNat]).level:=by simp[i3]
          rw[O,M,aVA] at c;by_cases K:(f.aTF[(t[k]).parent.toNat]).level=IntKind.i64.wrap ((t[k]).level-1)
          ·rw[decide_eq_true K,aVA] at c;simp only[go_sem,aUW,i1,F,cA K];refine bY (Kt _ 1 4) (L.inn (t[k]).level 1 4) rfl a_ ?_;cases U:within (t[k]).level 1 4 with
           | false =>simp only[U,aUV] at c;simp only[go_sem,aVG,vE];exact bC (b:=false) rfl (fC hlt c).symm
           | true =>
            rw[U,aVA] at c;simp only[go_sem,aUW];refine bY (Kt _ 1 64) (L.inn (t[k]).aTW 1 64) rfl a_ ?_;cases V:within (t[k]).aTW 1 64 with
            | false =>simp only[V,aUV] at c;simp only[go_sem,aVG,vE];exact bC (b:=false) rfl (fC hlt c).symm
            | true =>
             rw[V,aVA] at c;simp only[go_sem,aUW];refine bY (aFD (t[k]).aTR) (L.lim _ N.1) rfl a_ ?_;cases W:cT (t[k]).aTR with
             | false =>rw[W] at c;simp only[go_sem,aVG,vE];exact bC (b:=false) rfl (fC hlt c).symm
             | true =>rw[W] at c;simp only[go_sem,aUW,L8,wZz k];refine aG (k+1) ⟨hlt,X.step c⟩ Om ?_ a_;exact Lq
          ·simp only[decide_eq_false K,aUV] at c;simp only[go_sem,aUW,i1,F,dO K,vE];exact bC (b:=false) rfl (fC hlt c).symm
        ·have l:¬ (k:Int)<(t.length:Nat):=Om;simp only[go_sem,l,L9];have:k=t.length:=Om;subst this;exact bC (b:=true) rfl (show rP q t.length from X).symm
     ·simp only[go_sem,zL,qG w,aUW,cA y,cA B,dO J,vF];exact bC rfl (by rw[decide_eq_false J]; simp only[aWB,aUV])
    ·simp only[go_sem,zL,qG w,aUW,cA y,dO B,vF];exact bC rfl (by rw[decide_eq_false B]; simp only[aWB,aUV])
   ·simp only[go_sem,zL,qG w,aUW,dO y,vF];exact bC rfl (by rw[decide_eq_false y]; simp only[aWB,aUV])
  ·simp only[go_sem,zL,gs w,aVG,vF];exact bC rfl (by rw[decide_eq_false w]; simp only[aWB,aUV])
theorem uE (R:List Bool) (i:Nat) (row:List RF):∀ k,(cK R i row k).length=R.length
 | 0=>rfl
 | k+1=>by simp only[cK,aWU,uE R i row k]
theorem Rp (l:cG) (R:List Bool) (i:Nat):(kU l R i).length=R.length:=by
 unfold kU; rw[uE,aWU]
theorem qW (l:cG) (R:List Bool):∀ i,(cZ l R i).length=R.length
 | 0=>rfl
 | i+1=>by simp only[cZ,Rp,qW l R i]
theorem qV (l:cG):∀ r,(dB l r).length=l.exit.length
 | 0=>by simp[dB]
 | r+1=>by simp only[dB,qW,qV l r]
theorem sC {R:List Bool} {i:Nat} (h:i<R.length):(cY R)[i]?=some [.bool (R.getD i false)]:=by
 unfold cY;rw[aVN,aVB h,aUY,aVB h]; rfl
theorem wR (R:List Bool):(cY R).length=R.length:=by simp[cY]
def WC (l:cG) (o r:Nat):PF:=(((PF.nil.set 1 (.bL l.cells)).set 3 (.osl o 1 0 l.exit.length)).set 4 (.int .i64 r))
def JE (l:cG) (o r i:Nat):PF:=(((((PF.nil.set 1 (.bL l.cells)).set 3 (.osl o 1 0 l.exit.length)).set 4 (.int .i64 r)).set 19 (.int .i64 (l.exit.length:Nat))).set 20 (.int .i64 i))
def tP (l:cG) (o r i:Nat) (row:List RF) (k:Nat):PF:=(((((((((PF.nil.set 1 (.bL l.cells)).set 3 (.osl o 1 0 l.exit.length)).set 4 (.int .i64 r)).set 19 (.int .i64 (l.exit.length:Nat))).set 20 (.int .i64 i)).set 5 (.int .i64 i)).set 42 (frs row)).set 43 (.int .i64 (row.length:Nat))).set 44 (.int .i64 k))
def iH (o:Nat) (R:List Bool):PH:=PH.nil.set o (.rows 1 (cY R))
theorem Wm {C:Ctx} (L:tD C) (l:cG) (o r i:Nat) (row:List RF) (E:kB row) (W:row.length=l.exit.length) (hi:i<l.exit.length) (hn:l.exit.length≤4) (d:List Bool) (X:d.length=l.exit.length) (K:bR) (F:PF) (H:PH)
  (N:(tP l o r i row 0).le F) (J:(iH o d).le H)
  (U:∀ F H,(tP l o r i row row.length).le F→(iH o (cK d i row row.length)).le H→K .normal F H) :
  aC.wp C (.block 4 (.loop CF)) K F H:=by
 simp only[go_sem];refine wp_loop (α:=Nat) (fun k=>tP l o r i row k) (fun k=>iH o (cK d i row k)) (fun k=>k≤row.length) (fun k=>row.length-k) 0 (aUT _) N J ?_;intro k Z;simp only[go_sem,CF,Mh,tP,iH];have Q:=uE d i row k;by_cases hlt:k<row.length
 ·have e:(k:Int)<(row.length:Nat):=Om;have V:(row.map RF.cells)[k]?=some (row[k]).cells:=by simp[hlt]
  simp only[go_sem,e,zj,V];refine aO fun o7 B=>?_;have M:o≠o7:=by rintro rfl; simp only[aN,if_true] at B; cases B
  have u:(i:Int)<(l.exit.length:Nat):=Om;have y:(k:Int)<(l.exit.length:Nat):=Om;have p:=sC (R:=cK d i row k) (i:=i) Om;have w:=sC (R:=cK d i row k) (i:=k) Om;have x:cK d i row (k+1)=(cK d i row k).set i ((cK d i row k).getD i false||bM row[k]&&(cK d i row k).getD k false):=by simp only[cK,aUY,aVN,aVB hlt,aWC,aXH]
  have fin:∀ (b:Bool) (F:PF) (H:PH),b=((cK d i row k).getD i false||bM row[k]&&(cK d i row k).getD k false)→(tP l o r i row (k+1)).le F→H o=some (.rows 1 ((cY (cK d i row k)).set i [.bool b])) →
    eY (fun k=>tP l o r i row k) (fun k=>iH o (cK d i row k)) (fun k=>k≤row.length) (fun k=>row.length-k) (row.length-k) (eQ 4 K) .normal F H:=by
   intro b F H O N J;refine aG (k+1) hlt Om N ?_;rw[jV,O,← x] at J;exact e_ a_ J
  unfold tP iH at fin;generalize O:(cK d i row k).getD i false=b at *
  generalize Y:(cK d i row k).getD k false=c at *
  generalize S:bM row[k]=A at *
  cases b with
  | true =>simp only[go_sem,SB,M,u,aVH,p,CH,wZz k];exact fin true _ _ (by simp) Lq Sq
  | false =>
   simp only[go_sem,SB,M,u,aVH,p];refine aA (L.rR _ (E.all _ (aUQ hlt))) rfl ?_;rw[S];cases A with
   | false =>simp only[go_sem,u,y,M,aVH,p,w,CH,wZz k];exact fin false _ _ (by simp) Lq Sq
   | true =>simp only[go_sem,u,y,M,aVH,p,w,CH,wZz k];exact fin c _ _ (by simp) Lq Sq
 ·have e:¬ (k:Int)<(row.length:Nat):=Om;simp only[go_sem,e];have:k=row.length:=Om;subst this;exact U _ _ (by unfold tP; exact Lq) (b_)
structure BQ (l:cG):Prop where
 n:l.exit.length≤4
 aTH:l.aTH.length=l.exit.length
 row:∀ r∈l.aTH,r.length=l.exit.length
theorem Wn {C:Ctx} (L:tD C) (l:cG) (Q:l.Ok) (N:BQ l) (o r:Nat) (R:List Bool) (hR:R.length=l.exit.length) (K:bR) (F:PF) (H:PH)
  (p:(JE l o r 0).le F) (J:(iH o R).le H)
  (hK:∀ F H,(WC l o r).le F→(iH o (cZ l R l.exit.length)).le H→K .normal F H) :
  aC.wp C (.block 2 (.loop CG)) K F H:=by
 simp only[go_sem];refine wp_loop (α:=Nat) (fun i=>JE l o r i) (fun i=>iH o (cZ l R i)) (fun i=>i≤l.exit.length) (fun i=>l.exit.length-i) 0 (aUT _) p J ?_;intro i hi;have S:=qW l R i;have hn:=N.n;by_cases hlt:i<l.exit.length
 ·have c:(i:Int)<(l.exit.length:Nat):=Om;have e:i<l.aTH.length:=by rw[N.aTH]; exact hlt
  have u:=sC (R:=cZ l R i) (i:=i) Om;have hx:(l.exit.map RF.cells)[i]?=some (l.exit[i]).cells:=by simp[hlt]
  have A:(l.aTH.map fun r=>[frs r])[i]?=some [frs l.aTH[i]]:=by simp[e]
  have O:(l.aTH[i]).length=l.exit.length:=N.row _ (aUQ e);generalize d:(cZ l R i).set i ((cZ l R i).getD i false||bM l.exit[i])=B;have y:B.length=l.exit.length:=by rw[← d,aWU]; omega
  have w:cZ l R (i+1)=cK B i l.aTH[i] (l.aTH[i]).length:=by
   simp only[cZ,kU];have V:(l.exit.map bM).getD i false=bM l.exit[i]:=by simp[aUY,hlt]
   have W:l.aTH.getD i []=l.aTH[i]:=by simp[aUY,e]
   rw[V,W,d]
  have rest:∀ (F:PF) (H:PH),(((((((PF.nil.set 1 (.bL l.cells)).set 3 (.osl o 1 0 l.exit.length)).set 4 (.int .i64 r)).set 19 (.int .i64 (l.exit.length:Nat))).set 20 (.int .i64 i)).set 5 (.int .i64 i)):PF).le F→H o=some (.rows 1 (cY B)) →
    aC.wp C (.seq (.region bb) (.block 4 (.loop CF))) (eQ 3 (gD C (aC.wp C (.region SC)) (eY (fun i=>JE l o r i) (fun i=>iH o (cZ l R i)) (fun i=>i≤l.exit.length) (fun i=>l.exit.length-i) (l.exit.length-i) (eQ 2 K)))) F H:=by
   intro F H p J;have f1:F 1=some (.bL l.cells):=p 1 _ rfl;have f3:F 3=some (.osl o 1 0 l.exit.length):=p 3 _ rfl;have f4:F 4=some (.int .i64 r):=p 4 _ rfl;have X:F 19=some (.int .i64 (l.exit.length:Nat)):=p 19 _ rfl;have Y:F 20=some (.int .i64 i):=p 20 _ rfl;have Z:F 5=some (.int .i64 i):=p 5 _ rfl;rw[wx];simp only[go_sem,bb,f1,Z,A,aUN];have inner:=Wm L l o r i l.aTH[i] (Q.row _ (aUQ e)) O hlt hn B y;simp only[aC.wp,go_sem] at inner;refine inner _ _ _ ?_ (e_ a_ J) ?_
   ·unfold tP;exact Lq
   ·intro U H' x M;have E:U 20=some (.int .i64 i):=x 20 _ (by unfold tP; simp only[go_sem]);simp only[go_sem,SC,E,wZz i];refine aG (i+1) hlt Om ?_ (by rw[w]; exact M);have g:=fun (q:Nat) v h=>x q v h;unfold JE;unfold tP at g;refine c_ (c_ (c_ (c_ (c_ d_ ?_) ?_) ?_) ?_) ?_
    ·simp only[go_sem]; exact g 1 _ rfl
    ·simp only[go_sem]; exact g 3 _ rfl
    ·simp only[go_sem]; exact g 4 _ rfl
    ·simp only[go_sem]; exact g 19 _ rfl
    ·simp only[go_sem]
  simp only[aC.wp,go_sem] at rest;simp only[go_sem,CG,ay,JE,iH,c,Mg];generalize hb:(cZ l R i).getD i false=b at *
  cases b with
  | true =>simp only[go_sem,ba,c,aVH,u];refine rest _ _ Lq ?_;rw[← d];simp only[go_sem,jV,Bool.true_or]
  | false =>simp only[go_sem,ba,c,aVH,u,hx];refine aA (L.rR _ (Q.exit.all _ (aUQ hlt))) rfl ?_;simp only[go_sem,c,aVH,u];refine rest _ _ Lq ?_;rw[← d];simp only[go_sem,jV,Bool.false_or]
 ·have c:¬ (i:Int)<(l.exit.length:Nat):=Om;simp only[go_sem,CG,ay,JE,iH,c];have:i=l.exit.length:=Om;subst this;exact hK _ _ (by unfold WC; exact Lq) b_
theorem axI {C:Ctx} (L:tD C) (l:cG) (E:l.Ok) (y:BQ l):JS.wp C (aU aiZ.res (bX (.bool (pE l)))) (PF.args [.agg l.cells]) .nil:=by
 have F:=y.n;have u:(l.exit.length:Int)*((1:Nat):Int)≤140737488355328:=Om;have w:(l.exit.length:Int)≤9223372036854775807:=Om;simp only[go_sem,JS,Mb,Mc,aiZ,aUN,u,w];refine aO fun o H=>?_;simp only[go_sem,Md];refine wp_loop (α:=Nat) (fun r=>WC l o r) (fun r=>iH o (dB l r)) (fun r=>r≤l.exit.length+1) (fun r=>l.exit.length+1-r) 0 (aUT _) ?_ ?_ ?_
 ·unfold WC;exact Lq
 ·refine e_ a_ ?_;simp only[go_sem,dB];simp[cY]
 intro r J;have d:=qV l r;simp only[go_sem,zi,Me,WC,iH];by_cases hlt:r≤l.exit.length
 ·have c:(r:Int)≤(l.exit.length:Nat):=Om;simp only[go_sem,c,Mf];have inner:=Wn L l E y o r (dB l r) d;simp only[aC.wp,go_sem] at inner;refine inner _ _ _ ?_ b_ ?_
  ·unfold JE;exact Lq
  ·intro A H' i p;have g:=fun (q:Nat) v h=>i q v h;unfold WC at g;have g4:A 4=some (.int .i64 r):=g 4 _ rfl;simp only[go_sem,zk,g4,wZz r];refine aG (r+1) Om Om ?_ p;refine c_ (c_ (c_ d_ ?_) ?_) ?_
   ·simp only[go_sem]; exact g 1 _ rfl
   ·simp only[go_sem]; exact g 3 _ rfl
   ·simp only[go_sem]
 ·have c:¬ (r:Int)≤(l.exit.length:Nat):=Om;have:r=l.exit.length+1:=Om;subst this;simp only[go_sem,c,zl];have e:=L.allb id 103 (dB l (l.exit.length+1)) (Om:(dB l (l.exit.length+1)).length≤_) fun x _=>L.ends1 x;have B:(cY (dB l (l.exit.length+1))).length=l.exit.length:=by rw[wR,d]
  refine rO e (rs:=cY (dB l (l.exit.length+1))) (o:=o) (s:=1) Sq ?_ ?_
  ·simp only[go_sem,vD (show l.exit.length≤(cY (dB l (l.exit.length+1))).length by omega),aVI (show (cY (dB l (l.exit.length+1))).length≤l.exit.length by omega)]
  ·simp only[go_sem];exact bC rfl rfl
structure gf (C:Ctx):Prop extends Hr C where
 ends:∀ l:cG,l.Ok→BQ l→aH C 102 [.agg l.cells] .nil (aI (.bool (pE l)))
def sJ (l:cG) (i:Nat):Bool:=decide ((l.aTH.getD i []).length=l.start.length)&&(l.aTH.getD i []).all cT&&!((l.aTH.getD i []).map bM).getD i false
def vT (l:cG):Bool:=match nY (l.start.map RF.v) with
 | .ok (n,a,b)=>decide (pV n a b false 1 1=0)
 | .error _=>false
theorem Z8 (l:cG):kM l=(within l.start.length 1 4&&decide (l.exit.length=l.start.length)&&decide (l.aTH.length=l.start.length)&&l.start.all cT&&l.exit.all cT&&(aUO l.aTH.length).all (sJ l)&&vT l&&pE l):=rfl
theorem Sf {l:List FV} {e:Int} (h:nY l=.error e):e≠0:=by
 have:∀ (l:List FV) (b:FV) (e:Int),l.foldlM gY b=.error e→e≠0:=by
  intro l
  induction l with
  | nil=>intro b e h; cases h
  | cons x t i =>
   intro b e h;rw[List.foldlM_cons] at h;cases c:gY b x with
   | error d =>
    rw[c] at h;have:d=e:=by injection h
    subst this;obtain⟨p,a1,b1⟩:=b;obtain⟨u,a2,b2⟩:=x;simp only[gY] at c;split at c
    ·split at c
     ·rw[KQ c]; decide
     ·split at c
      ·rw[KQ c]; decide
      ·rw[KQ c]; decide
    ·injection c with c; subst c; decide
   | ok y=>rw[c] at h; exact i y e h
 exact this l _ e h
theorem adA {l:List FV} {r:FV} (h:nY l=.ok r):r.rf.Ok:=by
 have:∀ (l:List FV) (b r:FV),b.rf.Ok→l.foldlM gY b=.ok r→r.rf.Ok:=by
  intro l
  induction l with
  | nil=>intro b r d h; injection h with h; subst h; exact d
  | cons x t e =>
   intro b r d h;rw[List.foldlM_cons] at h;cases c:gY b x with
   | error i=>rw[c] at h; cases h
   | ok y=>rw[c] at h; exact e y r (ta c) h
 refine this l _ r ⟨aV _,aV _,?_,?_⟩ h
 ·show (aJ 0).length≤_;rw[fR]; simp
 ·show (aJ 1).length≤_;rw[oW (by decide) (by decide)]; simp
theorem KR {neg:Bool} {a b:Nat} {r:FV} (c:b≠0) (h:jB neg a b=.ok r):cX r.2.1 r.2.2=true:=by
 unfold jB at h;split at h
 ·cases h
 ·rename_i l;injection h with h
  subst h;have d:aUP a b ∣ b:=Nat.gcd_dvd_right _ _;have e:b/aUP a b≠0:=by have:=Nat.div_pos (Nat.le_of_dvd (aXB c) d) (aXB fun h=>c (Nat.gcd_eq_zero_iff.1 h).2);omega
  have i:=@kK (b/aUP a b);simp only[cX,aVE,decide_eq_true_eq];omega
theorem agX {x y r:FV} (h:gY x y=.ok r):cX r.2.1 r.2.2=true:=by
 obtain⟨e,a1,b1⟩:=x;obtain⟨i,a2,b2⟩:=y;simp only[gY] at h;split at h
 ·rename_i d;rw[aVE] at d;have c:b1*b2≠0:=Nat.mul_ne_zero (fU.1 d.1).1 (fU.1 d.2).1;split at h
  ·exact KR c h
  ·split at h
   ·exact KR c h
   ·exact KR c h
 ·cases h
theorem amL:cX 0 1=true:=by
 have:cM 1=1:=by rw[pQ (by decide),jU]
 simp[cX,this,jU]
theorem oj {l:List FV} {r:FV} (h:nY l=.ok r):cX r.2.1 r.2.2=true:=by
 have:∀ (l:List FV) (b r:FV),cX b.2.1 b.2.2=true→l.foldlM gY b=.ok r→cX r.2.1 r.2.2=true:=by
  intro l
  induction l with
  | nil=>intro b r d h; injection h with h; subst h; exact d
  | cons x t e =>
   intro b r d h;rw[List.foldlM_cons] at h;cases c:gY b x with
   | error i=>rw[c] at h; cases h
   | ok y=>rw[c] at h; exact e y r (agX c) h
 exact this l _ r amL h
theorem awL:(⟨false,[],[]⟩:RF).Ok:=⟨fun _ h=>absurd h (aVK),fun _ h=>absurd h (aVK),show 0≤35184372087808 by decide,show 0≤35184372087808 by decide⟩
def ayD (l:cG) (k:Nat):PF:=(((((PF.nil.set 1 (.bL l.cells)).set 3 (.int .i64 (l.start.length:Nat))).set 45 (alK l.aTH)).set 46 (.int .i64 (l.aTH.length:Nat))).set 47 (.int .i64 k))
theorem apG {C:Ctx} (L:gf C) (l:cG) (B:l.Ok) (K:BQ l) (F:PF) (A:F 1=some (.bL l.cells)) :
  aC.wp C (.seq (.region bc) (.seq (.region JT) (.seq (.region JU) (.seq (.region vG) .ret)))) (aU [.tmp 2] (bX (.bool (vT l&&pE l)))) F .nil:=by
 simp only[go_sem,bc,A];refine aA (L.tot l.start B.start) rfl ?_;obtain⟨E,x,y,e,R⟩:=uZ (nY (l.start.map RF.v));have go:∀ (z:RF) (e:Int),z.Ok→(e=0→(CB z.neg (val z.num) (val z.den) false 1 1=.tup [.int .i64 (pV z.neg (val z.num) (val z.den) false 1 1),.int .i64 0])∧vT l=decide (pV z.neg (val z.num) (val z.den) false 1 1=0))→(e≠0→vT l=false) →
   frV (nY (l.start.map RF.v))=.tup [.agg z.cells,.int .i64 e] →
   wpOps C [⟨(some 69),.mv (.tmp 72),none⟩,⟨(some 73),.extract (.tmp 69) 0,none⟩,⟨(some 74),.extract (.tmp 69) 1,none⟩,⟨(some 6),.alloc [(.bool false),.aB,.aB],none⟩,⟨none,.store 3 (.tmp 6) (.tmp 73),none⟩,⟨(some 7),.mv (.tmp 74),none⟩]
    (aC.wp C (.seq (.region JT) (.seq (.region JU) (.seq (.region vG) .ret))) (aU [.tmp 2] (bX (.bool (vT l&&pE l))))) ((((F.set 70 (.bL [frs l.start,alK l.aTH,frs l.exit])).set 71 (frs l.start))).set 72 (.tup [.agg z.cells,.int .i64 e])) .nil:=by
  intro z e O H J _;simp only[go_sem];refine aO fun o6 M=>?_;simp only[go_sem,JT];refine aA (L.frac 1 1 (by decide) (by decide)) rfl ?_;rw[Oa];simp only[go_sem,frV];refine aO fun o8 p=>?_;have Q:o6≠o8:=by rintro rfl; simp only[aN,if_true] at p; cases p
  simp only[go_sem,JU,Q];refine aA (L.ord z (FV.rf (false,1,1)) O arE) rfl ?_;rw[show val (FV.rf (false,1,1)).num=1 from aT 1,show val (FV.rf (false,1,1)).den=1 from aT 1,show (FV.rf (false,1,1)).neg=false from rfl];by_cases c:e=0
  ·obtain⟨g1,g2⟩:=H c;rw[g1,g2];by_cases d:pV z.neg (val z.num) (val z.den) false 1 1=0
   ·simp only[go_sem,vG,bP c,bP d,A];refine aA (L.ends l B K) rfl ?_;simp only[go_sem];exact bC rfl (by rw[decide_eq_true d,aVA])
   ·simp only[go_sem,vG,bP c,bG d];exact bC rfl (by rw[decide_eq_false d,aUV])
  ·rw[J c];have:∃ v w,CB z.neg (val z.num) (val z.den) false 1 1=.tup [.int .i64 v,.int .i64 w]:=by
    unfold CB;split
    ·exact⟨_,_,rfl⟩
    ·exact⟨_,_,rfl⟩
   obtain⟨v,w,u⟩:=this;rw[u];simp only[go_sem,vG,bG c];exact bC rfl rfl
 cases i:nY (l.start.map RF.v) with
 | error e =>rw[i] at go;exact go ⟨false,[],[]⟩ e awL (fun h=>absurd h (Sf i)) (fun _=>by rw[vT,i]) rfl
 | ok r =>obtain⟨n,a,b⟩:=r;rw[i] at go;have N:=adA i;refine go (FV.rf (n,a,b)) 0 N (fun _=>?_) (fun h=>absurd rfl h) rfl;rw[show val (FV.rf (n,a,b)).num=a from aT a,show val (FV.rf (n,a,b)).den=b from aT b,show (FV.rf (n,a,b)).neg=n from rfl];refine⟨?_,by rw[vT,i]⟩;have u:cX a b=true:=oj i;rw[CB,u,E7];rfl
theorem aFK {C:Ctx} (L:gf C) (l:cG) (x:l.Ok):SD.wp C (aU axK.res (bX (.bool (kM l)))) (PF.args [.agg l.cells]) .nil:=by
 rw[Z8];simp only[go_sem,SD,Zb,Zc,axK,Zd,aUN];refine aA (L.inn l.start.length 1 4) rfl ?_;cases M:within l.start.length 1 4 with
 | false =>simp only[go_sem,aVG,zM];exact bC rfl (by simp only[aUV])
 | true =>
  obtain⟨U,V⟩:=within_iff.1 M;by_cases B:l.exit.length=l.start.length
  ·rw[decide_eq_true B];by_cases E:l.aTH.length=l.start.length
   ·rw[decide_eq_true E];simp only[go_sem,aUW,aUN,cA (Om:(l.exit.length:Int)=(l.start.length:Nat)),cA (Om:(l.aTH.length:Int)=(l.start.length:Nat))];refine aA (L.ayH l.start x.start) rfl ?_;cases Q:l.start.all cT with
    | false =>simp only[go_sem,aVG,zM];exact bC rfl (by simp only[aUV])
    | true =>
     simp only[go_sem,aUW];refine aA (L.ayH l.exit x.exit) rfl ?_;cases R:l.exit.all cT with
     | false =>simp only[go_sem,aVG,zM];exact bC rfl (by simp only[aUV])
     | true =>
      simp only[go_sem,aUW,Ze,aUN];have w:∀ k (h:k<l.aTH.length),sJ l k=(decide ((l.aTH[k]).length=l.start.length)&&(l.aTH[k]).all cT&&!((l.aTH[k]).map bM).getD k false):=by
       intro k h;have:l.aTH.getD k []=l.aTH[k]:=by simp[aUY,h]
       rw[sJ,this]
      refine wp_loop (α:=Nat) (fun k=>ayD l k) (fun _=>.nil) (fun k=>k≤l.aTH.length∧rP (sJ l) k) (fun k=>l.aTH.length-k) 0 ⟨aUT _,.zero⟩ ?_ a_ ?_
      ·unfold ayD
       (repeat' (first|exact d_|refine c_ ?_ ?_))<;>first|(simp only[go_sem,aUN]<;>rfl)|rfl
      rintro k ⟨S,K⟩;simp only[go_sem,Mi,Zf,ayD];by_cases hlt:k<l.aTH.length
      ·have d:(k:Int)<(l.aTH.length:Nat):=Om;have A:(l.aTH.map fun r=>[frs r])[k]?=some [frs l.aTH[k]]:=by simp[hlt]
       have c:=w k hlt;have p:=x.row l.aTH[k] (aUQ hlt);simp only[go_sem,d,Zg,A,Zh,aUN];by_cases F:(l.aTH[k]).length=l.start.length
       ·rw[decide_eq_true F,aVA] at c;simp only[go_sem,cA (show (((l.aTH[k]).length:Nat):Int)=(l.start.length:Nat) by omega)];refine aA (L.ayH _ p) rfl ?_;cases H:(l.aTH[k]).all cT with
        | false =>rw[H,aUV] at c;simp only[go_sem,aVG,WG];refine bC (b:=false) rfl ?_;have:(aUO l.aTH.length).all (sJ l)=false:=fC hlt c;rw[this]; simp only[aUV,aWB]
        | true =>
         have u:k<(l.aTH[k]).length:=Om;have O:((l.aTH[k]).map RF.cells)[k]?=some ((l.aTH[k])[k]).cells:=by simp[u]
         have y:((l.aTH[k]).map bM).getD k false=bM (l.aTH[k])[k]:=by simp[aUY,u]
         rw[H,aVA,y] at c;simp only[go_sem,aUW,O];refine aA (L.rR _ (p.all _ (aUQ u))) rfl ?_;cases J:bM (l.aTH[k])[k] with
         | true =>rw[J] at c;simp only[go_sem,WG];refine bC (b:=false) rfl ?_;have:(aUO l.aTH.length).all (sJ l)=false:=fC hlt c;rw[this]; simp only[aUV,aWB]
         | false =>rw[J] at c;simp only[go_sem,Zi,wZz k];refine aG (k+1) ⟨hlt,K.step c⟩ Om ?_ a_;exact Lq
       ·simp only[decide_eq_false F,aUV] at c;simp only[go_sem,dO (show (((l.aTH[k]).length:Nat):Int)≠(l.start.length:Nat) by omega),WG];refine bC (b:=false) rfl ?_;have:(aUO l.aTH.length).all (sJ l)=false:=fC hlt c;rw[this]; simp only[aUV,aWB]
      ·have d:¬ (k:Int)<(l.aTH.length:Nat):=Om;have:k=l.aTH.length:=Om;subst this;have e:(aUO l.aTH.length).all (sJ l)=true:=K;have N:BQ l:=⟨by omega,by omega,fun r A=>by obtain⟨i,hi,rfl⟩:=aVX A;have:=aVD.1 e i (aVM.2 hi);rw[w i hi] at this;simp only[aVE,decide_eq_true_eq] at this;omega⟩
       have tail:=apG L l x N;simp only[aC.wp,go_sem] at tail;rw[e];simp only[go_sem,d,aVA,aWQ];exact tail _ rfl
   ·simp only[go_sem,aUW,aUN,cA (Om:(l.exit.length:Int)=(l.start.length:Nat)),dO (Om:(l.aTH.length:Int)≠(l.start.length:Nat)),zM];exact bC rfl (by rw[decide_eq_false E]; simp only[aUV,aWB])
  ·simp only[go_sem,aUW,aUN,dO (Om:(l.exit.length:Int)≠(l.start.length:Nat)),zM];exact bC rfl (by rw[decide_eq_false B]; simp only[aUV,aWB])
structure kX (C:Ctx):Prop extends gf C where
 law:∀ l:cG,l.Ok→aH C 95 [.agg l.cells] .nil (aI (.bool (kM l)))
 pol:∀ (p:bT) (n:Nat),p.Ok→n≤4→aH C 112 [.agg p.cells,.int .i64 n] .nil (aI (.bool (jQ n p)))
 aTL:∀ f:aD,f.Ok→aH C 111 [.agg f.cells] .nil (aI (.bool (oI f)))
abbrev fF (l:List (List UInt8)):List (List PV):=l.map fun s=>[PV.str s]
theorem xF (l:List (List UInt8)) {k:Nat} (h:k<l.length):fF (l.take k)++[[.str l[k]]]=fF (l.take (k+1)):=by
 unfold fF;rw[aWN h,aVT]; rfl
theorem sY {l:List (List UInt8)} (h:l.length≤1000):roomFor (fF l).length 1 16:=by
 unfold roomFor fF;simp only[aUN,maxLen]; omega
def jG {α:Type} (l:List α) (p:α→Bool) (k:Nat):Bool:=(l.take k).all p
theorem tJ {α:Type} (l:List α) (p:α→Bool):jG l p 0=true:=rfl
theorem tI {α:Type} (l:List α) (p:α→Bool) {k:Nat} (h:k<l.length):jG l p (k+1)=(jG l p k&&p l[k]):=by
 unfold jG;rw[aWN h,List.all_append]; simp
theorem wQ {α:Type} (l:List α) (p:α→Bool):jG l p l.length=l.all p:=by unfold jG; rw[aVP]
def jL (f:aD) (c d e i l:PV) (ok:Bool):PF:=(((((((PF.nil.set 1 (.bL f.cells)).set 3 (c)).set 4 (d)).set 5 (e)).set 6 (i)).set 7 (l)).set 8 (.bool ok))
structure lD (F:PF) (f:aD) (w3 w4 w5 w6 w7:PV) (ok:Bool):Prop where
 a1:F 1=some (.bL f.cells)
 a3:F 3=some w3
 a4:F 4=some w4
 a5:F 5=some w5
 a6:F 6=some w6
 a7:F 7=some w7
 a8:F 8=some (.bool ok)
theorem ajF {C:Ctx} (L:kX C) (f:aD) (Q:f.Ok) (W:f.aTJ.length≤4) (A B E J:PV) (K:bR) (F:PF) (H:PH) (i:lD F f .aB A B E J true)
  (w:F 67=some (.sl 4 (f.aTJ.map cG.cells))) (x:F 68=some (.int .i64 (f.aTJ.length:Nat))) (y:F 69=some (.int .i64 0))
  (O:∀ v M H',lD M f v A B E J (f.aTJ.all kM)→bE H' 1 v (fF (f.aTJ.map cG.name))→K (.exit 0) M H') :
  aC.wp C (.loop JZ) K F H:=by
 refine wp_loop (α:=Nat × PV × PH) (fun t=>(((jL f t.2.1 A B E J (jG f.aTJ kM t.1)).set 67 (.sl 4 (f.aTJ.map cG.cells))).set 68 (.int .i64 (f.aTJ.length:Nat))).set 69 (.int .i64 t.1)) (fun t=>t.2.2)
  (fun t=>t.1≤f.aTJ.length∧bE t.2.2 1 t.2.1 (fF ((f.aTJ.map cG.name).take t.1))) (fun t=>f.aTJ.length-t.1) (0,.aB,.nil) ⟨aUT _,.nil⟩ ?_ a_ ?_
 ·unfold jL
  (repeat' (first|exact d_|refine c_ ?_ ?_))<;>first|(simp only[go_sem,i.a1,i.a3,i.a4,i.a5,i.a6,i.a7,i.a8,w,x,y,tJ]<;>rfl)|rfl
 rintro⟨k,v,V⟩ ⟨R,u⟩;simp only at R u ⊢;simp only[go_sem,JZ,Z4,jL];by_cases hlt:k<f.aTJ.length
 ·have d:(k:Int)<(f.aTJ.length:Nat):=Om;have U:(f.aTJ.map cG.cells)[k]?=some (f.aTJ[k]).cells:=by simp[hlt]
  have p:=xF (f.aTJ.map cG.name) (k:=k) (by simpa using hlt);rw[aWD] at p;simp only[go_sem,d,Z5,U];refine aO fun o S=>?_;simp only[go_sem,Z6];refine nL u S (sY (by simp; omega)) fun v' H' e l=>?_;rw[p] at e;have c:=tI f.aTJ kM hlt;cases N:jG f.aTJ kM k with
  | false =>rw[N,aUV] at c;simp only[go_sem,ug,l,bg,wZz k];refine aG (k+1,v',H') ⟨hlt,e⟩ (by simp only; omega) ?_ b_;simp only[c];exact Lq
  | true =>rw[N,aVA] at c;simp only[go_sem,ug,l];refine aA (L.law _ (Q.law _ (aUQ hlt))) Ev ?_;simp only[go_sem,bg,wZz k];refine aG (k+1,v',H') ⟨hlt,e⟩ (by simp only; omega) ?_ b_;simp only[c];exact Lq
 ·have d:¬ (k:Int)<(f.aTJ.length:Nat):=Om;have:k=f.aTJ.length:=Om;subst this;rw[aVI (by simp)] at u;rw[wQ];simp only[go_sem,d];exact O v _ _ ⟨by simp only[go_sem],by simp only[go_sem],by simp only[go_sem],by simp only[go_sem],by simp only[go_sem],by simp only[go_sem],by simp only[go_sem]⟩ u
theorem DP {n:Nat} (h:n≤1000):IntKind.i64.wrap ((n:Int)-1)=(n:Int)-1:=wrap_i64 Om Om
theorem ajG {C:Ctx} (L:kX C) (f:aD) (hs:f.aTD.length≤4) (hl:f.aTJ.length≤4) (u:Bool) (A B E J:PV) (K:bR) (F:PF) (H:PH) (l:lD F f A .aB B E J u)
  (O:F 85=some (.sl 4 (f.aTD.map cS.cells))) (Q:F 86=some (.int .i64 (f.aTD.length:Nat))) (R:F 87=some (.int .i64 0))
  (W:∀ v p H',lD p f A v B E J (u&&f.aTD.all (kO f))→bE H' 1 v (fF (f.aTD.map cS.name))→K (.exit 2) p H') :
  aC.wp C (.loop KB) K F H:=by
 refine wp_loop (α:=Nat × PV × PH) (fun t=>(((jL f A t.2.1 B E J (u&&jG f.aTD (kO f) t.1)).set 85 (.sl 4 (f.aTD.map cS.cells))).set 86 (.int .i64 (f.aTD.length:Nat))).set 87 (.int .i64 t.1)) (fun t=>t.2.2)
  (fun t=>t.1≤f.aTD.length∧bE t.2.2 1 t.2.1 (fF ((f.aTD.map cS.name).take t.1))) (fun t=>f.aTD.length-t.1) (0,.aB,.nil) ⟨aUT _,.nil⟩ ?_ a_ ?_
 ·unfold jL
  (repeat' (first|exact d_|refine c_ ?_ ?_))<;>first|(simp only[go_sem,l.a1,l.a3,l.a4,l.a5,l.a6,l.a7,l.a8,O,Q,R,tJ,aWQ]<;>rfl)|rfl
 rintro⟨k,v,H0⟩ ⟨Y,M⟩;simp only at Y M ⊢;simp only[go_sem,KB,M4,jL];by_cases hlt:k<f.aTD.length
 ·have d:(k:Int)<(f.aTD.length:Nat):=Om;have hr:(f.aTD.map cS.cells)[k]?=some (f.aTD[k]).cells:=by simp[hlt]
  have y:=xF (f.aTD.map cS.name) (k:=k) (by simpa using hlt);rw[aWD] at y;simp only[go_sem,d,M5,hr];refine aO fun o Z=>?_;simp only[go_sem,M6];refine nL M Z (sY (by simp; omega)) fun v' H' w e=>?_;rw[y] at w;have i:=tI f.aTD (kO f) hlt;have fin:∀ (c:Bool) (p:PF),c=(u&&jG f.aTD (kO f) (k+1))→((((jL f A v' B E J c).set 85 (.sl 4 (f.aTD.map cS.cells))).set 86 (.int .i64 (f.aTD.length:Nat))).set 87 (.int .i64 (k+1:Nat))).le p →
    eY (fun (t:Nat × PV × PH)=>(((jL f A t.2.1 B E J (u&&jG f.aTD (kO f) t.1)).set 85 (.sl 4 (f.aTD.map cS.cells))).set 86 (.int .i64 (f.aTD.length:Nat))).set 87 (.int .i64 t.1)) (fun (t:Nat × PV × PH)=>t.2.2)  (fun (t:Nat × PV × PH)=>t.1≤f.aTD.length∧bE t.2.2 1 t.2.1 (fF ((f.aTD.map cS.name).take t.1))) (fun (t:Nat × PV × PH)=>f.aTD.length-t.1) (f.aTD.length-k) K .normal p H':=by
   intro c p X x;refine aG (α:=Nat × PV × PH) (k+1,v',H') ⟨hlt,w⟩ (by simp only; omega) ?_ b_;rw[X] at x;exact x
  unfold jL at fin;rw[i,← aXN] at fin;have S:kO f f.aTD[k]=(within (f.aTD[k]).aTS 1 16&&within (f.aTD[k]).port 1 64&&within (f.aTD[k]).law 0 ((f.aTJ.length:Int)-1)):=rfl;cases V:(u&&jG f.aTD (kO f) k) with
  | false =>rw[V,aUV] at fin;simp only[go_sem,bj,e,AS,wZz k];refine fin false _ rfl ?_;exact Lq
  | true =>
   rw[V,aVA] at fin;simp only[go_sem,bj,e];refine aA (L.inn _ 1 16) Ev ?_;cases N:within (f.aTD[k]).aTS 1 16 with
   | false =>simp only[go_sem,AS,wZz k];refine fin false _ (by rw[S,N]; simp only[aUV]) ?_;exact Lq
   | true =>
    simp only[go_sem,e];refine aA (L.inn _ 1 64) Ev ?_;cases U:within (f.aTD[k]).port 1 64 with
    | false =>simp only[go_sem,AS,wZz k];refine fin false _ (by rw[S,N,U]; simp only[aUV,aWB]) ?_;exact Lq
    | true =>simp only[go_sem,e,aUN,DP (Om:f.aTJ.length≤1000)];refine aA (L.inn _ 0 _) Ev ?_;simp only[go_sem,AS,wZz k];refine fin (within (f.aTD[k]).law 0 ((f.aTJ.length:Int)-1)) _ (by rw[S,N,U]; simp only[aVA]) ?_;exact Lq
 ·have d:¬ (k:Int)<(f.aTD.length:Nat):=Om;have:k=f.aTD.length:=Om;subst this;rw[aVI (by simp)] at M;rw[wQ];simp only[go_sem,d];exact W v _ _ ⟨by simp only[go_sem],by simp only[go_sem],by simp only[go_sem],by simp only[go_sem],by simp only[go_sem],by simp only[go_sem],by simp only[go_sem]⟩ M
theorem ajH {C:Ctx} (L:kX C) (f:aD) (t:List cF) (U:t.length≤40) (p:Bool) (y A B E:PV) (K:bR) (F:PF) (H:PH) (d:lD F f y A .aB B E p)
  (u:F 119=some (.sl 7 (t.map cF.cells))) (w:F 120=some (.int .i64 (t.length:Nat))) (x:F 121=some (.int .i64 0))
  (M:∀ v J H',lD J f y A v B E p→bE H' 1 v (fF (t.map cF.name))→K (.exit 4) J H') :
  aC.wp C (.loop KC) K F H:=by
 refine wp_loop (α:=Nat × PV × PH) (fun a=>(((jL f y A a.2.1 B E p).set 119 (.sl 7 (t.map cF.cells))).set 120 (.int .i64 (t.length:Nat))).set 121 (.int .i64 a.1)) (fun a=>a.2.2)
  (fun a=>a.1≤t.length∧bE a.2.2 1 a.2.1 (fF ((t.map cF.name).take a.1))) (fun a=>t.length-a.1) (0,.aB,.nil) ⟨aUT _,.nil⟩ ?_ a_ ?_
 ·unfold jL
  (repeat' (first|exact d_|refine c_ ?_ ?_))<;>first|(simp only[go_sem,d.a1,d.a3,d.a4,d.a5,d.a6,d.a7,d.a8,u,w,x]<;>rfl)|rfl
 rintro⟨k,v,S⟩ ⟨N,l⟩;simp only at N l ⊢;simp only[go_sem,KC,M7,jL];by_cases hlt:k<t.length
 ·have c:(k:Int)<(t.length:Nat):=Om;have R:(t.map cF.cells)[k]?=some (t[k]).cells:=by simp[hlt]
  have i:=xF (t.map cF.name) (k:=k) (by simpa using hlt);rw[aWD] at i;simp only[go_sem,c,M8,R];refine aO fun o O=>?_;simp only[go_sem,M9];refine nL l O (sY (by simp; omega)) fun v' H' e Q=>?_;rw[i] at e;simp only[go_sem,Nb,wZz k];refine aG (k+1,v',H') ⟨hlt,e⟩ (by simp only; omega) ?_ b_;exact Lq
 ·have c:¬ (k:Int)<(t.length:Nat):=Om;have:k=t.length:=Om;subst this;rw[aVI (by simp)] at l;simp only[go_sem,c];exact M v _ _ ⟨by simp only[go_sem],by simp only[go_sem],by simp only[go_sem],by simp only[go_sem],by simp only[go_sem],by simp only[go_sem],by simp only[go_sem]⟩ l
theorem ajI {C:Ctx} (L:kX C) (f:aD) (d:List (List UInt8)) (hn:d.length≤40) (hs:f.aTC.length≤24) (hm:f.aTD.length≤4) (hd:f.aTF.length≤40) (x:Bool) (E J Z M N:PV) (K:bR) (F:PF) (H:PH) (u:lD F f E J Z M N x)
  (h0:bE H 1 Z (fF d))
  (U:F 132=some (.sl 3 (f.aTC.map dL.cells))) (V:F 133=some (.int .i64 (f.aTC.length:Nat))) (W:F 134=some (.int .i64 0))
  (hK:∀ v w H',lD w f E J v M N (x&&f.aTC.all (jD f))→bE H' 1 v (fF (d++f.aTC.map dL.name))→K (.exit 6) w H') :
  aC.wp C (.loop KD) K F H:=by
 refine wp_loop (α:=Nat × PV × PH) (fun t=>(((jL f E J t.2.1 M N (x&&jG f.aTC (jD f) t.1)).set 132 (.sl 3 (f.aTC.map dL.cells))).set 133 (.int .i64 (f.aTC.length:Nat))).set 134 (.int .i64 t.1)) (fun t=>t.2.2)
  (fun t=>t.1≤f.aTC.length∧bE t.2.2 1 t.2.1 (fF (d++(f.aTC.map dL.name).take t.1))) (fun t=>f.aTC.length-t.1) (0,Z,H) ⟨aUT _,by rw[aXW,aWF]; exact h0⟩ ?_ b_ ?_
 ·unfold jL
  (repeat' (first|exact d_|refine c_ ?_ ?_))<;>first|(simp only[go_sem,u.a1,u.a3,u.a4,u.a5,u.a6,u.a7,u.a8,U,V,W,tJ,aWQ]<;>rfl)|rfl
 rintro⟨k,v,H0⟩ ⟨hk,S⟩;simp only at hk S ⊢;simp only[go_sem,KD,Nc,jL];by_cases hlt:k<f.aTC.length
 ·have e:(k:Int)<(f.aTC.length:Nat):=Om;have hr:(f.aTC.map dL.cells)[k]?=some (f.aTC[k]).cells:=by simp[hlt]
  have Y:fF (d++(f.aTC.map dL.name).take k)++[[.str (f.aTC[k]).name]]=fF (d++(f.aTC.map dL.name).take (k+1)):=by rw[aWN (by simpa using hlt),← aVS,aWD];unfold fF;simp only[aVT,aVZ,aWS]
  simp only[go_sem,e,Nd,hr];refine aO fun o ho=>?_;simp only[go_sem,Nf];refine nL S ho (sY (by simp; omega)) fun v' H' y l=>?_;rw[Y] at y;have p:=tI f.aTC (jD f) hlt;have fin:∀ (c:Bool) (w:PF),c=(x&&jG f.aTC (jD f) (k+1))→((((jL f E J v' M N c).set 132 (.sl 3 (f.aTC.map dL.cells))).set 133 (.int .i64 (f.aTC.length:Nat))).set 134 (.int .i64 (k+1:Nat))).le w →
    eY (fun (t:Nat × PV × PH)=>(((jL f E J t.2.1 M N (x&&jG f.aTC (jD f) t.1)).set 132 (.sl 3 (f.aTC.map dL.cells))).set 133 (.int .i64 (f.aTC.length:Nat))).set 134 (.int .i64 t.1)) (fun (t:Nat × PV × PH)=>t.2.2)  (fun (t:Nat × PV × PH)=>t.1≤f.aTC.length∧bE t.2.2 1 t.2.1 (fF (d++(f.aTC.map dL.name).take t.1))) (fun (t:Nat × PV × PH)=>f.aTC.length-t.1) (f.aTC.length-k) K .normal w H':=by
   intro c w hc A;refine aG (α:=Nat × PV × PH) (k+1,v',H') ⟨hlt,y⟩ (by simp only; omega) ?_ b_;rw[hc] at A;exact A
  unfold jL at fin;rw[p,← aXN] at fin;have i:jD f f.aTC[k]=(within (f.aTC[k]).model 0 ((f.aTD.length:Int)-1)&&within (f.aTC[k]).machine 0 ((f.aTF.length:Int)-1)&&decide ((f.aTF.map cF.level).getD (f.aTC[k]).machine.toNat 0=4)):=rfl;cases hb:(x&&jG f.aTC (jD f) k) with
  | false =>rw[hb,aUV] at fin;simp only[go_sem,bo,l,vH,wZz k];refine fin false _ rfl ?_;exact Lq
  | true =>
   rw[hb,aVA] at fin;simp only[go_sem,bo,l,aUN,DP (Om:f.aTD.length≤1000)];refine aA (L.inn _ 0 _) Ev ?_;cases O:within (f.aTC[k]).model 0 ((f.aTD.length:Int)-1) with
   | false =>simp only[go_sem,vH,wZz k];refine fin false _ (by rw[i,O]; simp only[aUV]) ?_;exact Lq
   | true =>
    simp only[go_sem,l,aUN,DP (Om:f.aTF.length≤1000)];refine aA (L.inn _ 0 _) Ev ?_;cases Q:within (f.aTC[k]).machine 0 ((f.aTF.length:Int)-1) with
    | false =>simp only[go_sem,vH,wZz k];refine fin false _ (by rw[i,O,Q]; simp only[aUV,aWB]) ?_;exact Lq
    | true =>
     obtain⟨i1,i2⟩:=within_iff.1 Q;have i3:(f.aTC[k]).machine.toNat<f.aTF.length:=Om;have B:(f.aTF.map cF.cells)[(f.aTC[k]).machine.toNat]?=some (f.aTF[(f.aTC[k]).machine.toNat]).cells:=by simp[i3]
     have X:(f.aTF.map cF.level).getD (f.aTC[k]).machine.toNat 0=(f.aTF[(f.aTC[k]).machine.toNat]).level:=by simp[i3]
     rw[X] at i;by_cases R:(f.aTF[(f.aTC[k]).machine.toNat]).level=4
     ·simp only[go_sem,l,i1,B,bP R,vH,wZz k];refine fin true _ (by rw[i,O,Q,decide_eq_true R]; rfl) ?_;exact Lq
     ·simp only[go_sem,l,i1,B,bG R,vH,wZz k];refine fin false _ (by rw[i,O,Q,decide_eq_false R]; rfl) ?_;exact Lq
 ·have e:¬ (k:Int)<(f.aTC.length:Nat):=Om;have:k=f.aTC.length:=Om;subst this;rw[aVI (by simp)] at S;rw[wQ];simp only[go_sem,e];exact hK v _ _ ⟨by simp only[go_sem],by simp only[go_sem],by simp only[go_sem],by simp only[go_sem],by simp only[go_sem],by simp only[go_sem],by simp only[go_sem]⟩ S
theorem ajJ {C:Ctx} (L:kX C) (f:aD) (V:f.Ok) (hs:f.aTG.length≤4) (X:f.aTD.length≤4) (p:Bool) (A B E J:PV) (K:bR) (F:PF) (H:PH) (i:lD F f A B E .aB J p)
  (N:F 174=some (.sl 17 (f.aTG.map bT.cells))) (O:F 175=some (.int .i64 (f.aTG.length:Nat))) (Q:F 176=some (.int .i64 0))
  (S:∀ v l H',lD l f A B E v J (p&&f.aTG.all (jQ f.aTD.length))→bE H' 1 v (fF (f.aTG.map bT.name))→K (.exit 8) l H') :
  aC.wp C (.loop KE) K F H:=by
 refine wp_loop (α:=Nat × PV × PH) (fun t=>(((jL f A B E t.2.1 J (p&&jG f.aTG (jQ f.aTD.length) t.1)).set 174 (.sl 17 (f.aTG.map bT.cells))).set 175 (.int .i64 (f.aTG.length:Nat))).set 176 (.int .i64 t.1)) (fun t=>t.2.2)
  (fun t=>t.1≤f.aTG.length∧bE t.2.2 1 t.2.1 (fF ((f.aTG.map bT.name).take t.1))) (fun t=>f.aTG.length-t.1) (0,.aB,.nil) ⟨aUT _,.nil⟩ ?_ a_ ?_
 ·unfold jL
  (repeat' (first|exact d_|refine c_ ?_ ?_))<;>first|(simp only[go_sem,i.a1,i.a3,i.a4,i.a5,i.a6,i.a7,i.a8,N,O,Q,tJ,aWQ]<;>rfl)|rfl
 rintro⟨k,v,H0⟩ ⟨W,M⟩;simp only at W M ⊢;simp only[go_sem,KE,Ng,jL];by_cases hlt:k<f.aTG.length
 ·have d:(k:Int)<(f.aTG.length:Nat):=Om;have Z:(f.aTG.map bT.cells)[k]?=some (f.aTG[k]).cells:=by simp[hlt]
  have y:=xF (f.aTG.map bT.name) (k:=k) (by simpa using hlt);rw[aWD] at y;simp only[go_sem,d,Nh,Z];refine aO fun o Y=>?_;simp only[go_sem,Ni];refine nL M Y (sY (by simp; omega)) fun v' H' u x=>?_;rw[y] at u;have e:=tI f.aTG (jQ f.aTD.length) hlt;have fin:∀ (c:Bool) (l:PF),c=(p&&jG f.aTG (jQ f.aTD.length) (k+1))→((((jL f A B E v' J c).set 174 (.sl 17 (f.aTG.map bT.cells))).set 175 (.int .i64 (f.aTG.length:Nat))).set 176 (.int .i64 (k+1:Nat))).le l →
    eY (fun (t:Nat × PV × PH)=>(((jL f A B E t.2.1 J (p&&jG f.aTG (jQ f.aTD.length) t.1)).set 174 (.sl 17 (f.aTG.map bT.cells))).set 175 (.int .i64 (f.aTG.length:Nat))).set 176 (.int .i64 t.1)) (fun (t:Nat × PV × PH)=>t.2.2)  (fun (t:Nat × PV × PH)=>t.1≤f.aTG.length∧bE t.2.2 1 t.2.1 (fF ((f.aTG.map bT.name).take t.1))) (fun (t:Nat × PV × PH)=>f.aTG.length-t.1) (f.aTG.length-k) K .normal l H':=by
   intro c l U w;refine aG (α:=Nat × PV × PH) (k+1,v',H') ⟨hlt,u⟩ (by simp only; omega) ?_ b_;rw[U] at w;exact w
  unfold jL at fin;rw[e,← aXN] at fin;cases R:(p&&jG f.aTG (jQ f.aTD.length) k) with
  | false =>rw[R,aUV] at fin;simp only[go_sem,bs,x,bu,wZz k];refine fin false _ rfl ?_;exact Lq
  | true =>rw[R,aVA] at fin;simp only[go_sem,bs,x,aUN];refine aA (L.pol _ _ (V.aTO _ (aUQ hlt)) X) Ev ?_;simp only[go_sem,bu,wZz k];refine fin _ _ rfl ?_;exact Lq
 ·have d:¬ (k:Int)<(f.aTG.length:Nat):=Om;have:k=f.aTG.length:=Om;subst this;rw[aVI (by simp)] at M;rw[wQ];simp only[go_sem,d];exact S v _ _ ⟨by simp only[go_sem],by simp only[go_sem],by simp only[go_sem],by simp only[go_sem],by simp only[go_sem],by simp only[go_sem],by simp only[go_sem]⟩ M
theorem ajK {C:Ctx} (L:kX C) (f:aD) (hs:f.aTE.length≤12) (hl:f.aTG.length≤4) (p:Bool) (A B E J:PV) (K:bR) (F:PF) (H:PH) (i:lD F f A B E J .aB p)
  (N:F 195=some (.sl 2 (f.aTE.map eT.cells))) (O:F 196=some (.int .i64 (f.aTE.length:Nat))) (Q:F 197=some (.int .i64 0))
  (S:∀ v l H',lD l f A B E J v (p&&f.aTE.all (oP f))→bE H' 1 v (fF (f.aTE.map eT.name))→K (.exit 10) l H') :
  aC.wp C (.loop KF) K F H:=by
 refine wp_loop (α:=Nat × PV × PH) (fun t=>(((jL f A B E J t.2.1 (p&&jG f.aTE (oP f) t.1)).set 195 (.sl 2 (f.aTE.map eT.cells))).set 196 (.int .i64 (f.aTE.length:Nat))).set 197 (.int .i64 t.1)) (fun t=>t.2.2)
  (fun t=>t.1≤f.aTE.length∧bE t.2.2 1 t.2.1 (fF ((f.aTE.map eT.name).take t.1))) (fun t=>f.aTE.length-t.1) (0,.aB,.nil) ⟨aUT _,.nil⟩ ?_ a_ ?_
 ·unfold jL
  (repeat' (first|exact d_|refine c_ ?_ ?_))<;>first|(simp only[go_sem,i.a1,i.a3,i.a4,i.a5,i.a6,i.a7,i.a8,N,O,Q,tJ,aWQ]<;>rfl)|rfl
 rintro⟨k,v,Z⟩ ⟨V,M⟩;simp only at V M ⊢;simp only[go_sem,KF,Nj,jL];by_cases hlt:k<f.aTE.length
 ·have d:(k:Int)<(f.aTE.length:Nat):=Om;have Y:(f.aTE.map eT.cells)[k]?=some (f.aTE[k]).cells:=by simp[hlt]
  have y:=xF (f.aTE.map eT.name) (k:=k) (by simpa using hlt);rw[aWD] at y;simp only[go_sem,d,Nk,Y];refine aO fun o X=>?_;simp only[go_sem,Nl];refine nL M X (sY (by simp; omega)) fun v' H' u x=>?_;rw[y] at u;have e:=tI f.aTE (oP f) hlt;have fin:∀ (c:Bool) (l:PF),c=(p&&jG f.aTE (oP f) (k+1))→((((jL f A B E J v' c).set 195 (.sl 2 (f.aTE.map eT.cells))).set 196 (.int .i64 (f.aTE.length:Nat))).set 197 (.int .i64 (k+1:Nat))).le l →
    eY (fun (t:Nat × PV × PH)=>(((jL f A B E J t.2.1 (p&&jG f.aTE (oP f) t.1)).set 195 (.sl 2 (f.aTE.map eT.cells))).set 196 (.int .i64 (f.aTE.length:Nat))).set 197 (.int .i64 t.1)) (fun (t:Nat × PV × PH)=>t.2.2)  (fun (t:Nat × PV × PH)=>t.1≤f.aTE.length∧bE t.2.2 1 t.2.1 (fF ((f.aTE.map eT.name).take t.1))) (fun (t:Nat × PV × PH)=>f.aTE.length-t.1) (f.aTE.length-k) K .normal l H':=by
   intro c l U w;refine aG (α:=Nat × PV × PH) (k+1,v',H') ⟨hlt,u⟩ (by simp only; omega) ?_ b_;rw[U] at w;exact w
  unfold jL at fin;rw[e,← aXN] at fin;have W:oP f f.aTE[k]=within (f.aTE[k]).aTO 0 ((f.aTG.length:Int)-1):=rfl;cases R:(p&&jG f.aTE (oP f) k) with
  | false =>rw[R,aUV] at fin;simp only[go_sem,bw,x,bx,wZz k];refine fin false _ rfl ?_;exact Lq
  | true =>rw[R,aVA,W] at fin;simp only[go_sem,bw,x,aUN,DP (Om:f.aTG.length≤1000)];refine aA (L.inn _ 0 _) Ev ?_;simp only[go_sem,bx,wZz k];refine fin _ _ rfl ?_;exact Lq
 ·have d:¬ (k:Int)<(f.aTE.length:Nat):=Om;have:k=f.aTE.length:=Om;subst this;rw[aVI (by simp)] at M;rw[wQ];simp only[go_sem,d];exact S v _ _ ⟨by simp only[go_sem],by simp only[go_sem],by simp only[go_sem],by simp only[go_sem],by simp only[go_sem],by simp only[go_sem],by simp only[go_sem]⟩ M
theorem nU {f:aD} (h:¬ (f.aTJ.length≤4∧f.aTD.length≤4∧f.aTF.length≤40∧f.aTC.length≤24∧f.aTG.length≤4∧f.aTE.length≤12)):nT f=false:=by
 rw[← Bool.not_eq_true];intro c;simp only[nT,aVE,decide_eq_true_eq] at c;omega
theorem W7 {f:aD} (h:f.aTJ.length≤4∧f.aTD.length≤4∧f.aTF.length≤40∧f.aTC.length≤24∧f.aTG.length≤4∧f.aTE.length≤12):nT f=within f.aUG 1 4:=by
 obtain⟨c,d,e,i,h5,l⟩:=h;simp[nT,c,d,e,i,h5,l]
theorem nF {t:Nat} {n m:Int} {F:PF} {H:PH} (h:F t=some (.int .i64 n)) (e:n=m):aU [.tmp t] (bX (.int .i64 m)) .ret F H:=by
 subst e;exact aX (.inr rfl) .nil (vs:=[.int .i64 n]) (by rw[kV,nS,h,oZ]) a_ ⟨.refl _,rfl⟩
def vW (f:aD):Int:=if dJ f then 0 else 1
theorem amK {f:aD} (h:dJ f=false):vW f=1:=by rw[vW,h]; rfl
theorem uQ {C:Ctx} {F:PF} {H:PH} {name t s:Nat} {v r:PV} {rows:List (List PV)} {d:Option Nat} {K:PF→PH→Prop} (h:aH C name [.sl s rows] .nil (aI r)) (w:bE H s v rows) (l:F t=some v)
  (e:∀ (c:PF) (p:PH),(∀ i u,F i=some u→Pure u→c i=some u)→K (c.put d r) p):iU C name [.tmp t] [] d K F H:=by
 rcases w with ⟨rfl,rfl⟩ | ⟨q,rs,rfl,h1,h2,h3⟩
 ·refine aA (h.alM (.inl ⟨rfl,rfl⟩)) (by rw[AM,jl,l,WD]) ?_;exact e F H fun i u hi _=>hi
 ·rw[← h3] at h;refine rB (k:=rows.length) h l h1 h2 (e _ _ fun i u hi x=>?_);rw[rL,hi,aWC,x q s rs]
theorem Seen.pure {s:Nat} {v:PV} {rows:List (List PV)} (h:Seen s v rows):Pure v:=by
 rcases h with ⟨_,rfl⟩ | rfl
 ·exact fun _ _ _=>rfl
 ·exact fun _ _ _=>rfl
def bI (b:Bool):Int:=if b then 0 else 1
abbrev WQ (f:aD):List (List UInt8):=(f.aTF.drop 1).map cF.name++f.aTC.map dL.name
def wN (f:aD):Bool:=distinct (f.aTJ.map cG.name)&&distinct (f.aTD.map cS.name)&&distinct (WQ f)&&distinct (f.aTG.map bT.name)&&distinct (f.aTE.map eT.name)
structure Small (f:aD):Prop where
 aTJ:f.aTJ.length≤4
 aTD:f.aTD.length≤4
 aTF:f.aTF.length≤40
 aTC:f.aTC.length≤24
 aTG:f.aTG.length≤4
 aTE:f.aTE.length≤12
theorem CW {C:Ctx} (L:kX C) {v:PV} {l:List (List UInt8)} (h:Seen 1 v (fF l)) (c:l.length≤1000):aH C 110 [v] .nil (aI (.bool (distinct l))) :=
 (L.uniq l (Om:l.length≤9223372036854775807)).alM h
theorem axW {C:Ctx} (L:kX C) (f:aD) (B:Small f) (d e i l p:PV) (ok:Bool) (F:PF) (H:PH) (c:lD F f d e i l p ok)
  (w:Seen 1 d (fF (f.aTJ.map cG.name))) (x:Seen 1 e (fF (f.aTD.map cS.name))) (h5:Seen 1 i (fF (WQ f))) (y:Seen 1 l (fF (f.aTG.map bT.name))) (h7:bE H 1 p (fF (f.aTE.map eT.name))) :
  aC.wp C (.seq (.seq (.region AU) (.cond (.tmp 243) (.seq (.region oK) .ret) .skip)) (.seq (.region KG) .ret)) (aU [.tmp 2] (bX (.int .i64 (bI (ok&&wN f))))) F H:=by
 obtain⟨s1,s2,s3,s4,W,X⟩:=B;have E:(f.aTJ.map cG.name).length≤1000:=by simp; omega
 have J:(f.aTD.map cS.name).length≤1000:=by simp; omega
 have K:(WQ f).length≤1000:=by simp; omega
 have M:(f.aTG.map bT.name).length≤1000:=by simp; omega
 have N:(f.aTE.map eT.name).length≤9223372036854775807:=by simp; omega
 cases ok with
 | false =>simp only[go_sem,AU,c.a8,oK];exact nF rfl rfl
 | true =>
  simp only[go_sem,AU,c.a8,c.a3];refine aA (CW L w E) rfl ?_;unfold wN;cases Q:distinct (f.aTJ.map cG.name) with
  | false =>simp only[go_sem,oK,aVG];exact nF rfl rfl
  | true =>
   simp only[go_sem,c.a4,aUW];refine aA (CW L x J) rfl ?_;cases R:distinct (f.aTD.map cS.name) with
   | false =>simp only[go_sem,oK,aVG];exact nF rfl rfl
   | true =>
    simp only[go_sem,c.a5,aUW];refine aA (CW L h5 K) rfl ?_;cases S:distinct (WQ f) with
    | false =>simp only[go_sem,oK,aVG];exact nF rfl rfl
    | true =>
     simp only[go_sem,c.a6,aUW];refine aA (CW L y M) rfl ?_;cases U:distinct (f.aTG.map bT.name) with
     | false =>simp only[go_sem,oK,aVG];exact nF rfl rfl
     | true =>
      simp only[go_sem,c.a7,aUW];refine uQ (L.uniq _ N) h7 rfl fun u O A=>?_;have g:u 239=some (.bool false):=A 239 _ rfl fun _ _ _=>rfl;cases V:distinct (f.aTE.map eT.name) with
      | false =>simp only[go_sem,oK,aVG,g];exact nF rfl rfl
      | true =>simp only[go_sem,KG,aUW,g];exact nF rfl rfl
abbrev wk (b:Bool):bR:=aU [.tmp 2] (bX (.int .i64 (bI b)))
def Hj:aC:=.seq (.seq (.region bv) (.block 10 (.loop KF))) (.seq (.seq (.region AU) (.cond (.tmp 243) (.seq (.region oK) .ret) .skip)) (.seq (.region KG) .ret))
def Hi:aC:=.seq (.seq (.region br) (.block 8 (.loop KE))) Hj
def Hh:aC:=.seq (.seq (.region bn) (.block 6 (.loop KD))) Hi
def Hg:aC:=.seq (.seq (.region bk) (.block 4 (.loop KC))) Hh
def Hf:aC:=.seq (.seq (.region bi) (.block 2 (.loop KB))) Hg
def amJ:aC:=.seq (.seq (.region ue) (.block 0 (.loop JZ))) Hf
theorem aGC {C:Ctx} (L:kX C) (f:aD) (u:Small f) (i l p E:PV) (ok:Bool) (F:PF) (H:PH) (d:lD F f i l p E .aB ok)
  (y:Seen 1 i (fF (f.aTJ.map cG.name))) (A:Seen 1 l (fF (f.aTD.map cS.name))) (h5:Seen 1 p (fF (WQ f))) (N:bE H 1 E (fF (f.aTG.map bT.name))) :
  aC.wp C Hj (wk (ok&&f.aTE.all (oP f)&&wN f)) F H:=by
 unfold Hj;simp only[go_sem,bv,d.a1,aUN];refine rC N fun B x K M Q c=>?_;refine ajK L f u.aTE u.aTG ok i l p B _ K M ⟨c 1 _ (by simp only[go_sem,d.a1]) fun _ _ _=>rfl,c 3 _ (by simp only[go_sem,d.a3]) y.pure,c 4 _ (by simp only[go_sem,d.a4]) A.pure,c 5 _ (by simp only[go_sem,d.a5]) h5.pure,Q 6 (by simp only[go_sem,d.a6]),c 7 _ (by simp only[go_sem,d.a7]) fun _ _ _=>rfl,c 8 _ (by simp only[go_sem,d.a8]) fun _ _ _=>rfl⟩
  (c 195 _ rfl fun _ _ _=>rfl) (c 196 _ rfl fun _ _ _=>rfl) (c 197 _ rfl fun _ _ _=>rfl) fun v J H' w O=>?_
 have e:=axW L f u i l p B v _ J H' w y A h5 x O;simp only[aC.wp,go_sem] at e;simp only[go_sem];exact e
theorem aGB {C:Ctx} (L:kX C) (f:aD) (M:f.Ok) (l:Small f) (e i A:PV) (ok:Bool) (F:PF) (H:PH) (d:lD F f e i A .aB .aB ok)
  (w:Seen 1 e (fF (f.aTJ.map cG.name))) (x:Seen 1 i (fF (f.aTD.map cS.name))) (h5:bE H 1 A (fF (WQ f))) :
  aC.wp C Hi (wk (ok&&f.aTG.all (jQ f.aTD.length)&&f.aTE.all (oP f)&&wN f)) F H:=by
 unfold Hi;simp only[go_sem,br,d.a1,aUN];refine rC h5 fun y u E J N c=>?_;refine ajJ L f M l.aTG l.aTD ok e i y .aB _ E J ⟨c 1 _ (by simp only[go_sem,d.a1]) fun _ _ _=>rfl,c 3 _ (by simp only[go_sem,d.a3]) w.pure,c 4 _ (by simp only[go_sem,d.a4]) x.pure,N 5 (by simp only[go_sem,d.a5]),c 6 _ (by simp only[go_sem,d.a6]) fun _ _ _=>rfl,c 7 _ (by simp only[go_sem,d.a7]) fun _ _ _=>rfl,c 8 _ (by simp only[go_sem,d.a8]) fun _ _ _=>rfl⟩
  (c 174 _ rfl fun _ _ _=>rfl) (c 175 _ rfl fun _ _ _=>rfl) (c 176 _ rfl fun _ _ _=>rfl) fun v B H' p K=>?_
 simp only[go_sem];exact aGC L f l e i y v _ B H' p w x u K
theorem aGA {C:Ctx} (L:kX C) (f:aD) (A:f.Ok) (d:Small f) (e i p:PV) (ok:Bool) (F:PF) (H:PH) (c:lD F f e i p .aB .aB ok)
  (w:Seen 1 e (fF (f.aTJ.map cG.name))) (x:Seen 1 i (fF (f.aTD.map cS.name))) (h5:bE H 1 p (fF ((f.aTF.drop 1).map cF.name))) :
  aC.wp C Hh (wk (ok&&f.aTC.all (jD f)&&f.aTG.all (jQ f.aTD.length)&&f.aTE.all (oP f)&&wN f)) F H:=by
 unfold Hh;simp only[go_sem,bn,c.a1,aUN];refine ajI L f ((f.aTF.drop 1).map cF.name) (by have:=d.aTF; simp; omega) d.aTC d.aTD d.aTF ok e i p .aB .aB _ _ H ⟨by simp only[go_sem,c.a1],by simp only[go_sem,c.a3],by simp only[go_sem,c.a4],by simp only[go_sem,c.a5],by simp only[go_sem,c.a6],by simp only[go_sem,c.a7],by simp only[go_sem,c.a8]⟩ h5
  rfl rfl rfl fun v u H' l y=>?_
 simp only[go_sem];exact aGB L f A d e i v _ u H' l w x y
theorem aFZ {C:Ctx} (L:kX C) (f:aD) (N:f.Ok) (x:Small f) (R:0<f.aTF.length) (i A:PV) (ok:Bool) (F:PF) (H:PH) (d:lD F f i A .aB .aB .aB ok)
  (w:Seen 1 i (fF (f.aTJ.map cG.name))) (K:bE H 1 A (fF (f.aTD.map cS.name))) :
  aC.wp C Hg (wk (ok&&f.aTC.all (jD f)&&f.aTG.all (jQ f.aTD.length)&&f.aTE.all (oP f)&&wN f)) F H:=by
 unfold Hg;have l:(1:Int)≤(f.aTF.length:Nat):=Om;have O:=x.aTF;have e:((f.aTF.map cF.cells).take f.aTF.length).drop 1=(f.aTF.drop 1).map cF.cells:=by rw[aVI (by simp),List.map_drop]
 simp only[go_sem,bk,d.a1,aUN,l,aWK,e];refine rC K fun y u E J Q c=>?_;refine ajH L f (f.aTF.drop 1) (by simp; omega) ok i y .aB .aB _ E J ⟨c 1 _ (by simp only[go_sem,d.a1]) fun _ _ _=>rfl,c 3 _ (by simp only[go_sem,d.a3]) w.pure,Q 4 (by simp only[go_sem,d.a4]),c 5 _ (by simp only[go_sem,d.a5]) fun _ _ _=>rfl,c 6 _ (by simp only[go_sem,d.a6]) fun _ _ _=>rfl,c 7 _ (by simp only[go_sem,d.a7]) fun _ _ _=>rfl,c 8 _ (by simp only[go_sem,d.a8]) fun _ _ _=>rfl⟩
  (c 119 _ rfl fun _ _ _=>rfl) (c 120 _ rfl fun _ _ _=>rfl) (c 121 _ rfl fun _ _ _=>rfl) fun v B H' p M=>?_
 simp only[go_sem];exact aGA L f N x i y v _ B H' p w u M
theorem aFY {C:Ctx} (L:kX C) (f:aD) (J:f.Ok) (e:Small f) (E:0<f.aTF.length) (u:PV) (ok:Bool) (F:PF) (H:PH) (d:lD F f u .aB .aB .aB .aB ok)
  (A:bE H 1 u (fF (f.aTJ.map cG.name))) :
  aC.wp C Hf (wk (ok&&f.aTD.all (kO f)&&f.aTC.all (jD f)&&f.aTG.all (jQ f.aTD.length)&&f.aTE.all (oP f)&&wN f)) F H:=by
 unfold Hf;simp only[go_sem,bi,d.a1,aUN];refine rC A fun p l x y K c=>?_;refine ajG L f e.aTD e.aTJ ok p .aB .aB .aB _ x y ⟨c 1 _ (by simp only[go_sem,d.a1]) fun _ _ _=>rfl,K 3 (by simp only[go_sem,d.a3]),c 4 _ (by simp only[go_sem,d.a4]) fun _ _ _=>rfl,c 5 _ (by simp only[go_sem,d.a5]) fun _ _ _=>rfl,c 6 _ (by simp only[go_sem,d.a6]) fun _ _ _=>rfl,c 7 _ (by simp only[go_sem,d.a7]) fun _ _ _=>rfl,c 8 _ (by simp only[go_sem,d.a8]) fun _ _ _=>rfl⟩
  (c 85 _ rfl fun _ _ _=>rfl) (c 86 _ rfl fun _ _ _=>rfl) (c 87 _ rfl fun _ _ _=>rfl) fun v w H' i B=>?_
 simp only[go_sem];exact aFZ L f J e E p v _ w H' i l B
theorem aFX {C:Ctx} (L:kX C) (f:aD) (e:f.Ok) (i:Small f) (u:0<f.aTF.length) (F:PF) (H:PH) (c:lD F f .aB .aB .aB .aB .aB true) :
  aC.wp C amJ (wk (f.aTJ.all kM&&f.aTD.all (kO f)&&f.aTC.all (jD f)&&f.aTG.all (jQ f.aTD.length)&&f.aTE.all (oP f)&&wN f)) F H:=by
 unfold amJ;simp only[go_sem,ue,c.a1,aUN];refine ajF L f e i.aTJ .aB .aB .aB .aB _ _ H ⟨by simp only[go_sem,c.a1],by simp only[go_sem,c.a3],by simp only[go_sem,c.a4],by simp only[go_sem,c.a5],by simp only[go_sem,c.a6],by simp only[go_sem,c.a7],by simp only[go_sem,c.a8]⟩ rfl rfl rfl fun v l H' d p=>?_;simp only[go_sem];exact aFY L f e i u v _ l H' d p
theorem aFV {C:Ctx} (L:kX C) (f:aD) (B:f.Ok):SI.wp C (aU axV.res (bX (.int .i64 (vW f)))) (PF.args [.agg f.cells]) .nil:=by
 have p:dJ f=(nT f&&oI f&&(f.aTJ.all kM&&f.aTD.all (kO f)&&f.aTC.all (jD f)&&f.aTG.all (jQ f.aTD.length)&&f.aTE.all (oP f))&&wN f):=rfl;simp only[go_sem,SI,Zz,Z1,axV];refine aA (L.inn f.aUG 1 4) rfl ?_;have bad:∀ (F:PF) (H:PH),dJ f=false→F 2=some (.int .i64 1)→aU [.tmp 2] (bX (.int .i64 (vW f))) .ret F H:=fun F H K M=>nF M (amK K).symm;cases A:within f.aUG 1 4 with
 | false =>
  have:nT f=false:=by simp[nT,A]
  simp only[go_sem,aVG,qN];exact bad _ _ (by rw[p,this]; simp only[aUV]) rfl
 | true =>
  by_cases s1:f.aTJ.length≤4
  ·have c:¬ (f.aTJ.length:Int)>4:=Om;by_cases s2:f.aTD.length≤4
   ·have d:¬ (f.aTD.length:Int)>4:=Om;by_cases s3:f.aTF.length≤40
    ·have i:¬ (f.aTF.length:Int)>40:=Om;by_cases s4:f.aTC.length≤24
     ·have l:¬ (f.aTC.length:Int)>24:=Om;by_cases E:f.aTG.length≤4
      ·have u:¬ (f.aTG.length:Int)>4:=Om;by_cases J:f.aTE.length≤12
       ·have w:¬ (f.aTE.length:Int)>12:=Om;have x:=W7 ⟨s1,s2,s3,s4,E,J⟩;rw[A] at x;simp only[go_sem,aUW,aUN,c,d,i,l,u,w];refine aA (L.aTL f B) rfl ?_;cases y:oI f with
        | false =>simp only[go_sem,aVG,qN];exact bad _ _ (by rw[p,y]; simp only[aWB,aUV]) rfl
        | true =>
         have N:0<f.aTF.length:=by
          rcases aWZ f.aTF.length with h | h
          ·have:f.aTF=[]:=List.eq_nil_of_length_eq_zero h;rw[oI,this] at y;cases y
          ·exact h
         have Q:vW f=bI (f.aTJ.all kM&&f.aTD.all (kO f)&&f.aTC.all (jD f)&&f.aTG.all (jQ f.aTD.length)&&f.aTE.all (oP f)&&wN f):=by rw[vW,p,x,y]; rfl
         rw[Q];simp only[go_sem,aUW,Z2,Z3];have e:=fun F H O=>aFX L f B ⟨s1,s2,s3,s4,E,J⟩ N F H O;simp only[amJ,Hf,Hg,Hh,Hi,Hj,aC.wp,go_sem] at e;exact e _ _ ⟨by simp only[go_sem],by simp only[go_sem],by simp only[go_sem],by simp only[go_sem],by simp only[go_sem],by simp only[go_sem],by simp only[go_sem]⟩
       ·have w:(f.aTE.length:Int)>12:=Om;simp only[go_sem,aUW,aUN,c,d,i,l,u,w,qN];exact bad _ _ (by rw[p,nU Om]; simp only[aUV]) rfl
      ·have u:(f.aTG.length:Int)>4:=Om;simp only[go_sem,aUW,aUN,c,d,i,l,u,qN];exact bad _ _ (by rw[p,nU Om]; simp only[aUV]) rfl
     ·have l:(f.aTC.length:Int)>24:=Om;simp only[go_sem,aUW,aUN,c,d,i,l,qN];exact bad _ _ (by rw[p,nU Om]; simp only[aUV]) rfl
    ·have i:(f.aTF.length:Int)>40:=Om;simp only[go_sem,aUW,aUN,c,d,i,qN];exact bad _ _ (by rw[p,nU Om]; simp only[aUV]) rfl
   ·have d:(f.aTD.length:Int)>4:=Om;simp only[go_sem,aUW,aUN,c,d,qN];exact bad _ _ (by rw[p,nU Om]; simp only[aUV]) rfl
  ·have c:(f.aTJ.length:Int)>4:=Om;simp only[go_sem,aUW,aUN,c,qN];exact bad _ _ (by rw[p,nU Om]; simp only[aUV]) rfl
def lvl (f:aD) (i:Nat):Int:=(f.aTF.map cF.level).getD i 0
def par (f:aD) (i:Nat):Int:=(f.aTF.map cF.parent).getD i 0
def MS (f:aD) (i:Nat):Nat:=(par f i).toNat
def cQ (f:aD) (d:Nat):Nat:=((f.aTC.map dL.machine).getD d 0).toNat
def mdl (f:aD) (d:Nat):Nat:=((f.aTC.map dL.model).getD d 0).toNat
def ext (f:aD) (d:Nat):Int:=(f.aTD.map cS.aTS).getD (mdl f d) 0
def vL (f:aD) (v:Nat):Nat:=((f.aTE.map eT.aTO).getD v 0).toNat
def aDQ:bT:=⟨[],0,0,0,0,0,0,0,0,[],[],⟨false,[],[]⟩,⟨false,[],[]⟩⟩
def eZ (f:aD) (v:Nat):bT:=f.aTG.getD (vL f v) aDQ
def upN (f:aD):Nat→Nat→Nat
 | 0,i=>i
 | k+1,i=>MS f (upN f k i)
theorem getD_at {α β:Type} {l:List α} {g:α→β} {i:Nat} {b:β} (h:i<l.length):(l.map g).getD i b=g l[i]:=by
 simp[aUY,h]
structure VF (f:aD):Prop where
 small:Small f
 root:0<f.aTF.length∧lvl f 0=0∧par f 0=-1
 dom:∀ i,0<i→i<f.aTF.length→0≤par f i∧MS f i<i∧lvl f (MS f i)=lvl f i-1∧1≤lvl f i∧lvl f i≤4
 drive:∀ d (h:d<f.aTC.length),0≤(f.aTC[d]).model∧mdl f d<f.aTD.length∧0≤(f.aTC[d]).machine∧cQ f d<f.aTF.length∧lvl f (cQ f d)=4
 aTO:∀ p∈f.aTG,1≤p.k∧p.k≤6∧0≤p.m∧p.m≤4∧p.k+p.m≤8∧p.s0=0∧(∀ l,0≤p.spread l∧p.spread l≤8)∧∀ m∈p.aTD,0≤m∧m<f.aTD.length
 volume:∀ v (h:v<f.aTE.length),0≤(f.aTE[v]).aTO∧vL f v<f.aTG.length
 model:∀ m∈f.aTD,1≤m.aTS∧m.aTS≤16
theorem aHQ {p:bT} {n:Nat} (h:jQ n p=true):∀ m∈p.aTD,0≤m∧m<n:=by
 intro m d;simp only[jQ,aVE] at h;obtain⟨i,hi,rfl⟩:=aVX d;have:=aVD.1 h.2 i (aVM.2 hi);rw[aVE] at this;have c:=within_iff.1 this.1;simp only[aUY,aVB hi,aXH] at c;omega
theorem qz {x:Int} (c:1≤x) (d:x≤4):IntKind.i64.wrap (x-1)=x-1:=wrap_i64 Om Om
theorem VF.of {f:aD} (h:dJ f=true):VF f:=by
 simp only[dJ,aVE] at h;obtain⟨⟨⟨Q,e⟩,⟨⟨⟨N,A⟩,y⟩,B⟩,E⟩,-⟩:=h;simp only[nT,aVE,decide_eq_true_eq] at Q;obtain⟨⟨⟨⟨⟨⟨s0,s1⟩,s2⟩,s3⟩,s4⟩,s5⟩,s6⟩:=Q;cases c:f.aTF with
 | nil=>rw[oI,c] at e; cases e
 | cons r t =>
  rw[oI,c] at e;simp only[BZ,aVE,decide_eq_true_eq] at e;obtain⟨⟨⟨⟨⟨⟨r1,r2⟩,r3⟩,r4⟩,r5⟩,r6⟩,x⟩:=e;have O:f.aTF.length=t.length+1:=by rw[c]; rfl
  refine⟨⟨s1,s2,s3,s4,s5,s6⟩,⟨by omega,by rw[lvl,c]; exact r2,by rw[par,c]; exact r3⟩,?_,?_,?_,?_,?_⟩
  ·intro i h0 hi;obtain⟨k,rfl⟩:∃ k,i=k+1:=⟨i-1,by omega⟩;have H:k<t.length:=Om;have:=aVD.1 x k (aVM.2 H);rw[aVB H] at this;simp only[JC,aVE,decide_eq_true_eq] at this;obtain⟨⟨⟨⟨J,F⟩,K⟩,d4⟩,d5⟩:=this;obtain⟨p0,p1⟩:=within_iff.1 J;obtain⟨S,U⟩:=within_iff.1 K;have u:par f (k+1)=(t[k]).parent:=by rw[par,c]; simp[aUY,H]
   have w:lvl f (k+1)=(t[k]).level:=by rw[lvl,c]; simp[aUY,H]
   rw[qz S U] at F;have V:lvl f (t[k]).parent.toNat=(t[k]).level-1:=F;refine⟨by rw[u]; exact p0,?_,?_,by rw[w]; exact S,by rw[w]; exact U⟩
   ·rw[MS,u]; omega
   ·rw[MS,u,w]; exact V
  ·intro d e;have:=aVD.1 y _ (aUQ e);simp only[jD,aVE,decide_eq_true_eq] at this;obtain⟨⟨J,F⟩,K⟩:=this;have a1:=within_iff.1 J;have a2:=within_iff.1 F;have u:mdl f d=(f.aTC[d]).model.toNat:=by rw[mdl,getD_at e]
   have w:cQ f d=(f.aTC[d]).machine.toNat:=by rw[cQ,getD_at e]
   refine⟨a1.1,by rw[u]; omega,a2.1,by rw[w]; omega,by rw[w]; exact K⟩
  ·intro p Y;have M:=aVD.1 B p Y;have W:=aHQ M;simp only[jQ,MN,aVE,decide_eq_true_eq,List.all_cons,List.all_nil,aWQ] at M;obtain⟨⟨⟨⟨⟨⟨⟨⟨k1,Z⟩,km⟩,q1⟩,z0⟩,sp⟩,-⟩,-⟩,-⟩:=M;obtain⟨g0,g1,g2,g3,g4⟩:=sp;have b1:=within_iff.1 k1;have b2:=within_iff.1 Z;have b3:=within_iff.1 g0;have b4:=within_iff.1 g1;have b5:=within_iff.1 g2;have b6:=within_iff.1 g3;have b7:=within_iff.1 g4;refine⟨b1.1,b1.2,b2.1,b2.2,km,z0,fun l=>?_,W⟩;unfold bT.spread;split<;>omega
  ·intro v R;have:=aVD.1 E _ (aUQ R);have a1:=within_iff.1 this;have u:vL f v=(f.aTE[v]).aTO.toNat:=by rw[vL,getD_at R]
   exact⟨a1.1,by rw[u]; omega⟩
  ·intro m X;have:=aVD.1 A m X;simp only[kO,aVE] at this;exact within_iff.1 this.1.1
theorem xH {f:aD} (h:VF f) {d:Nat} (c:d<f.aTC.length):∀ {k:Nat},k≤4→upN f k (cQ f d)<f.aTF.length∧lvl f (upN f k (cQ f d))=4-(k:Int)
 | 0,_=>⟨(h.drive d c).2.2.2.1,by rw[upN,(h.drive d c).2.2.2.2]; rfl⟩
 | k+1,w=>by
  obtain⟨p,l⟩:=xH h c (k:=k) Om;have i:0<upN f k (cQ f d):=by
   rcases aWZ (upN f k (cQ f d)) with e | e
   ·rw[e,h.root.2.1] at l; omega
   ·exact e
  obtain⟨g1,g2,g3,g4,u⟩:=h.dom _ i p;refine⟨by rw[upN]; omega,?_⟩;rw[upN,g3,l]; omega
def cU (f:aD) (d:Nat) (level:Int):Nat:=upN f (4-level.toNat) (cQ f d)
def fQ (f:aD) (v:Nat):Int:=(eZ f v).k+(eZ f v).m
def Dh:Rg:=[iA 1 (.box true (Tm 0)),iT 2 false]
def Di:Rg:=[iO 3 7 1,iK 4 96 3,iC 5 .eql 4 0,iM 2 5]
def FT:aC:=(sq Dh (sq Di .ret))
def asR:List Nat:=[1]
def S1:aZ:=⟨1,6,FT,[.tmp 2]⟩
def Si:Rg:=[iA 2 (.box true (Tm 0)),iI 4 0]
def Sj:Rd:=[(iF 6 5 2,false),(iL 7 6,false),(iF 8 6 2,false),(iL 9 8,false),(iM 10 1,false),(iX 11 2 9 10,false),(iF 12 1 11,false),(iL 13 12,false),(iX 14 17 7 13,false),(iO 15 17 14,false),(iA 5 (.alloc [(.str []),zI,zI,zI,zI,zI,zI,zI,zI,.aB,.aB,zB,.aB,.aB,zB,.aB,.aB]),true),(iS 17 5 15,true)]
def Sk:Rg:=[iF 16 1 5,iL 17 16,iF 18 2 5,iL 19 18,iB 20 .add 17 19,iM 4 20]
def NQ:aC:=(sq Si (dq Sj (sq Sk .ret)))
def aAZ:List Nat:=[2]
def alT:aZ:=⟨2,21,NQ,[.tmp 4]⟩
def Sr:Rg:=[iA 2 (.box true (Tm 0)),iZ 4]
def Ss:Rg:=[iO 7 7 2,iK 8 161 7,iA 9 (.un .not (Tm 8))]
def St:Rg:=[iZ 4]
def Su:Rg:=[iF 10 4 2,iL 11 10,iN 12 11,iA 13 (.aTK 1 8 [zI] (Tm 12) (Tm 12)),iM 5 13]
def Sv:Rg:=[iM 14 5,iN 15 14,iI 16 0]
def Sw:Rg:=[iB 17 .lss 16 15]
def Sx:Rg:=[iM 18 16,iM 6 18]
def Sy:Rd:=[(iM 19 5,false),(iM 20 6,false),(iF 21 2 2,false),(iL 22 21,false),(iF 23 4 2,false),(iL 24 23,false),(iM 25 6,false),(iX 26 3 24 25,false),(iF 27 1 26,false),(iL 28 27,false),(iX 29 4 22 28,false),(iF 30 1 29,false),(iL 31 30,false),(iX 32 1 19 20,false),(iS 1 32 31,true)]
def Sz:Rg:=[iM 33 1,iN 34 33,iM 35 5,iN 36 35,iB 37 .eql 34 36]
def S0:Rd:=[(iM 38 5,false),(iM 39 6,false),(iM 40 1,false),(iM 41 6,false),(iX 42 1 40 41,false),(iL 43 42,false),(iA 44 (.aTX true (Tm 43) (Ci 0)),false),(iM 45 5,false),(iM 46 6,false),(iX 47 1 45 46,false),(iL 48 47,false),(iA 49 (.aTX false (Tm 44) (Tm 48)),false),(iX 50 1 38 39,false),(iS 1 50 49,true)]
def UI:Rg:=[iC 51 .add 16 1,iM 16 51]
def C8:aC:=(sq Sw (.seq (.cond (Tm 17) .skip (.exit 0)) (.seq (.block 1 (sq Sx (dq Sy (sq Sz (.cond (Tm 37) (.draw S0) .skip))))) (.region UI))))
def C9:Rg:=[iM 52 5,iM 4 52]
def NT:aC:=(sq Sr (.seq (sq Ss (.cond (Tm 9) (sq St .ret) .skip)) (sq Su (.seq (sq Sv (.block 0 (.loop C8))) (sq C9 .ret)))))
def aBE:List Nat:=[2]
def WX:aZ:=⟨2,53,NT,[.tmp 4]⟩
def C0:Rg:=[iA 2 (.box true (Tm 0)),iZ 4]
def C1:Rg:=[iF 10 4 2,iL 11 10,iN 12 11,iA 13 (.aTK 1 8 [zI] (Tm 12) (Tm 12)),iM 5 13]
def C2:Rg:=[iM 14 1,iN 15 14,iI 16 0]
def C3:Rg:=[iB 17 .lss 16 15]
def C4:Rg:=[iX 18 1 14 16,iL 19 18,iM 7 19]
def C5:Rg:=[iM 20 7,iN 21 20,iI 22 0]
def C6:Rg:=[iB 23 .lss 22 21]
def CZ:Rg:=[iX 24 1 20 22,iL 25 24,iM 9 25]
def DA:Rg:=[iM 26 9,iC 27 .geq 26 0,iM 28 27,gM 29 9 28 true,gM 30 5 28 true,gN 31 30 28 true,gB 32 .lss 29 31 28 true,iP 33 28 32]
def C7:Rg:=[iM 34 5,iM 35 9,iX 36 1 34 35,iL 37 36,iC 38 .add 37 1,iX 39 1 34 35,iS 1 39 38]
def yS:Rg:=[iC 40 .add 22 1,iM 22 40]
def oq:aC:=(sq C6 (.seq (.cond (Tm 23) .skip (.exit 2)) (.seq (.block 3 (sq CZ (sq DA (.cond (Tm 33) (.region C7) .skip)))) (.region yS))))
def NR:Rg:=[iC 41 .add 16 1,iM 16 41]
def ot:aC:=(sq C3 (.seq (.cond (Tm 17) .skip (.exit 0)) (.seq (.block 1 (sq C4 (sq C5 (.block 2 (.loop oq))))) (.region NR))))
def NS:Rg:=[iM 42 5,iM 4 42]
def FQ:aC:=(sq C0 (sq C1 (.seq (sq C2 (.block 0 (.loop ot))) (sq NS .ret))))
def asM:List Nat:=[2]
def Sm:aZ:=⟨2,43,FQ,[.tmp 4]⟩
def Db:Rg:=[iA 3 (.box true (Tm 0)),iA 6 (.alloc [zI,zI,zI]),iT 7 false]
def Dc:Rd:=[(iM 10 1,true),(iM 11 2,true),(iX 12 1 10 11,true),(iL 13 12,true),(iN 14 13,true),(iO 15 7 3,false),(iM 16 2,false),(iK2 17 156 15 16,true),(iB 18 .neq 14 17,false)]
def Dd:Rg:=[iM 19 2,iM 20 1,iM 21 2,iX 22 1 20 21,iL 23 22,iN 24 23,iA 25 (.build [zI,zI,zI] [(0,1,(Ci 1)),(1,1,(Tm 19)),(2,1,(Tm 24))]),iS 3 6 25,iT 7 true]
def De:Rg:=[iM 26 1,iM 27 2,iX 28 1 26 27,iL 29 28,iN 30 29,iI 31 0]
def Df:Rg:=[iB 32 .lss 31 30]
def DB:Rg:=[iM 33 31,iX 34 1 29 31,iL 35 34,iM 8 33,iM 9 35]
def DC:Rg:=[iM 36 9,iC 37 .lss 36 (-1),iM 38 37,gM 39 9 38 false,gF 40 4 3 38 false,gL 41 40 38 false,gN 42 41 38 false,gB 43 .geq 39 42 38 false,iQ 44 38 43]
def UK:Rg:=[iM 45 2,iM 46 8,iA 47 (.build [zI,zI,zI] [(0,1,(Ci 1)),(1,1,(Tm 45)),(2,1,(Tm 46))]),iS 3 6 47,iT 7 true]
def Dg:Rg:=[iC 48 .add 31 1,iM 31 48]
def Da:aC:=(sq Df (.seq (.cond (Tm 32) .skip (.exit 0)) (.seq (.block 1 (sq DB (sq DC (.cond (Tm 44) (sq UK .ret) .skip)))) (.region Dg))))
def ov:Rg:=[iA 49 (.build [zI,zI,zI] []),iS 3 6 49,iT 7 false]
def FS:aC:=(sq Db (.seq (dq Dc (.cond (Tm 18) (sq Dd .ret) .skip)) (.seq (sq De (.block 0 (.loop Da))) (sq ov .ret))))
def asP:List Nat:=[3]
def UJ:aZ:=⟨3,50,FS,[.cell 6 (some 3),.tmp 7]⟩
def Dt:Rg:=[iA 5 (.alloc [zI,zI,zI])]
def Du:Rg:=[iM 6 0,iL 7 2,iM 8 1,iA 9 (.build [zI,zI,zI] [(0,1,(Tm 6)),(1,1,(Tm 7)),(2,1,(Tm 8))]),iS 3 5 9]
def FU:aC:=(sq Dt (sq Du .ret))
def asT:List Nat:=[]
def Tc:aZ:=⟨2,10,FU,[.cell 5 (some 3)]⟩
def Te:Rg:=[iA 3 (.box true (Tm 0)),iA 5 (.box false (Tm 2)),iZ 6]
def Tf:Rd:=[(iF 25 5 3,false),(iL 26 25,false),(iF 27 6 3,false),(iL 28 27,false),(iL 29 5,false),(iX 30 2 28 29,false),(iF 31 1 30,false),(iL 32 31,false),(iX 33 17 26 32,false),(iO 34 17 33,false),(iA 7 (.alloc [(.str []),zI,zI,zI,zI,zI,zI,zI,zI,.aB,.aB,zB,.aB,.aB,zB,.aB,.aB]),true),(iS 17 7 34,true)]
def Tg:Rg:=[iF 35 2 3,iL 36 35,iN 37 36,iA 38 (.aTK 1 1 [zB] (Tm 37) (Tm 37)),iM 8 38]
def Th:Rg:=[iF 39 9 7,iL 40 39,iN 41 40,iI 42 0]
def Ti:Rg:=[iB 43 .lss 42 41]
def Tj:Rg:=[iX 44 1 40 42,iL 45 44,iM 10 45]
def Tk:Rg:=[iM 46 8,iM 47 10,iX 48 1 46 47,⟨none,.store 1 (Tm 48) (.const (.bool true)),none⟩]
def Tl:Rg:=[iC 49 .add 42 1,iM 42 49]
def Td:aC:=(sq Ti (.seq (.cond (Tm 43) .skip (.exit 0)) (.seq (.block 1 (sq Tj (.region Tk))) (.region Tl))))
def Tn:Rg:=[iA 50 (.mkfn 159 [(Tm 5)]),iM 11 50]
def Dv:Rg:=[iZ 12,iZ 13]
def Dw:Rd:=[(iF 51 4 3,false),(iL 52 51,false),(iN 53 52,false),(iA 54 (.aTK 1 8 [zI] (Tm 53) (Tm 53)),true),(iF 55 3 3,false),(iL 56 55,false),(iN 57 56,false),(iA 58 (.aTK 1 8 [zI] (Tm 57) (Tm 57)),true),(iM 14 54,false),(iM 15 58,false)]
def Dx:Rg:=[iM 59 1,iL 60 5,iX 61 1 59 60,iL 62 61,iN 63 62,iI 64 0]
def xG:Rg:=[iB 65 .lss 64 63]
def DE:Rg:=[iM 66 64,iX 67 1 62 64,iL 68 67,iM 16 66,iM 17 68]
def DF:Rg:=[iM 69 17,iC 70 .lss 69 0]
def Dy:Rg:=[iM 71 12,iM 72 11,iM 73 16,iA 74 (.aUE (Tm 72) [(Ci 2),(Tm 73)]),iA 75 (.aTI true 3 1 [zI,zI,zI] [(0,(Tm 74))]),iA 76 (.append 3 24 (Tm 71) (Tm 75)),iM 12 76]
def UR:Rg:=[iM 77 8,iF 78 4 3,iL 79 78,iM 80 17,iX 81 3 79 80,iF 82 1 81,iL 83 82,iX 84 1 77 83,iL 85 84,iA 86 (.un .not (Tm 85))]
def Dz:Rg:=[iM 87 13,iM 88 11,iM 89 16,iA 90 (.aUE (Tm 88) [(Ci 4),(Tm 89)]),iA 91 (.aTI true 3 1 [zI,zI,zI] [(0,(Tm 90))]),iA 92 (.append 3 24 (Tm 87) (Tm 91)),iM 13 92]
def US:Rg:=[iM 93 14,iM 94 17,iX 95 1 93 94,iL 96 95,iC 97 .add 96 1,iX 98 1 93 94,iS 1 98 97]
def UT:Rg:=[iF 99 4 3,iL 100 99,iM 101 17,iX 102 3 100 101,iF 103 2 102,iL 104 103,iM 18 104]
def D0:Rg:=[iM 105 18,iC 106 .gtr 105 0]
def D1:Rg:=[iM 113 15,iM 114 18,iX 115 1 113 114,iL 116 115,iC 117 .add 116 1,iX 118 1 113 114,iS 1 118 117]
def D2:Rg:=[iF 107 3 3,iL 108 107,iM 109 18,iX 110 7 108 109,iF 111 2 110,iL 112 111,iM 18 112]
def DD:aC:=(.seq (sq D0 (.cond (Tm 106) .skip (.exit 4))) (.seq (.block 5 (.region D1)) (.region D2)))
def DG:Rg:=[iC 119 .add 64 1,iM 64 119]
def sZ:aC:=(sq xG (.seq (.cond (Tm 65) .skip (.exit 2)) (.seq (.block 3 (sq DE (.seq (sq DF (.cond (Tm 70) (sq Dy (.exit 3)) .skip)) (.seq (sq UR (.cond (Tm 86) (.region Dz) .skip)) (sq US (sq UT (.block 4 (.loop DD)))))))) (.region DG))))
def D3:Rg:=[iM 120 12,iM 19 120]
def D4:Rg:=[iM 121 14,iN 122 121,iI 123 0]
def D5:Rg:=[iB 124 .lss 123 122]
def D6:Rg:=[iM 125 123,iX 126 1 121 123,iL 127 126,iM 20 125,iM 21 127]
def D7:Rg:=[iM 128 21,iC 129 .gtr 128 1]
def D8:Rg:=[iM 130 19,iM 131 11,iM 132 20,iA 133 (.aUE (Tm 131) [(Ci 3),(Tm 132)]),iA 134 (.aTI true 3 1 [zI,zI,zI] [(0,(Tm 133))]),iA 135 (.append 3 24 (Tm 130) (Tm 134)),iM 19 135]
def UU:Rg:=[iC 136 .add 123 1,iM 123 136]
def UP:aC:=(sq D5 (.seq (.cond (Tm 124) .skip (.exit 6)) (.seq (.block 7 (sq D6 (sq D7 (.cond (Tm 129) (.region D8) .skip)))) (.region UU))))
def D9:Rg:=[iM 137 19,iM 138 13,iA 139 (.append 3 24 (Tm 137) (Tm 138)),iM 19 139]
def Ea:Rg:=[iM 140 15,iN 141 140,iI 142 0]
def Eb:Rg:=[iB 143 .lss 142 141]
def Ec:Rg:=[iM 144 142,iX 145 1 140 142,iL 146 145,iM 22 144,iM 23 146]
def UV:Rg:=[iF 147 3 3,iL 148 147,iM 149 22,iX 150 7 148 149,iF 151 1 150,iL 152 151,iF 153 4 7,iA 154 (.idxA 5 1 (Tm 153) (Tm 152)),iL 155 154,iM 24 155]
def DH:Rg:=[iM 156 24,iC 157 .gtr 156 0,iM 158 157,gM 159 23 158 true,gM 160 24 158 true,gB 161 .gtr 159 160 158 true,iP 162 158 161]
def Ed:Rg:=[iM 163 19,iM 164 11,iM 165 22,iA 166 (.aUE (Tm 164) [(Ci 5),(Tm 165)]),iA 167 (.aTI true 3 1 [zI,zI,zI] [(0,(Tm 166))]),iA 168 (.append 3 24 (Tm 163) (Tm 167)),iM 19 168]
def DI:Rg:=[iC 169 .add 142 1,iM 142 169]
def UQ:aC:=(sq Eb (.seq (.cond (Tm 143) .skip (.exit 8)) (.seq (.block 9 (sq Ec (sq UV (sq DH (.cond (Tm 162) (.region Ed) .skip))))) (.region DI))))
def Ee:Rg:=[iM 170 19,iM 6 170]
def NW:aC:=(sq Te (dq Tf (sq Tg (.seq (sq Th (.block 0 (.loop Td))) (sq Tn (sq Dv (dq Dw (.seq (sq Dx (.block 2 (.loop sZ))) (sq D3 (.seq (sq D4 (.block 6 (.loop UP))) (sq D9 (.seq (sq Ea (.block 8 (.loop UQ))) (sq Ee .ret)))))))))))))
def aBK:List Nat:=[3,75,91,134,167]
def aDW:aZ:=⟨3,171,NW,[.tmp 6]⟩
def S3:Rg:=[iA 3 (.box true (Tm 0)),iZ 6]
def S4:Rg:=[iO 15 7 3,iK 16 161 15,iA 17 (.un .not (Tm 16)),iM 14 17]
def S5:Rg:=[iZ 6]
def fc:Rg:=[iM 19 1,iN 20 19,iF 21 6 3,iL 22 21,iN 23 22,iB 24 .neq 20 23,iM 18 24]
def S6:Rg:=[iM 25 1,iN 26 25,iA 27 (.build [zI,zI,zI] [(0,1,(Ci 1)),(1,1,(Ci (-1))),(2,1,(Tm 26))]),iA 28 (.aTI true 3 1 [zI,zI,zI] [(0,(Tm 27))]),iM 6 28]
def S7:Rg:=[iZ 7]
def S8:Rg:=[iM 29 1,iN 30 29,iI 31 0]
def S9:Rg:=[iB 32 .lss 31 30]
def Ta:Rg:=[iM 33 31,iM 8 33]
def Tb:Rg:=[iO 35 7 3,iM 36 1,iM 37 8,iA 38 (.call 160 [(Tm 35),(Tm 36),(Tm 37)]),iM 34 38,iE 39 34 0,iE 40 34 1,iA 9 (.alloc [zI,zI,zI]),iS 3 9 39,iM 10 40]
def UM:Rg:=[iM 41 10]
def Dk:Rg:=[iM 42 7,iO 43 3 9,iA 44 (.aTI true 3 1 [zI,zI,zI] [(0,(Tm 43))]),iA 45 (.append 3 24 (Tm 42) (Tm 44)),iM 7 45]
def Dl:Rg:=[iM 46 7,iO 47 7 3,iM 48 1,iM 49 8,iA 50 (.call 158 [(Tm 47),(Tm 48),(Tm 49)]),iA 51 (.append 3 24 (Tm 46) (Tm 50)),iM 7 51]
def UN:Rg:=[iC 52 .add 31 1,iM 31 52]
def Dj:aC:=(sq S9 (.seq (.cond (Tm 32) .skip (.exit 1)) (.seq (.block 2 (sq Ta (.seq (sq Tb (sq UM (.cond (Tm 41) (sq Dk (.exit 2)) .skip))) (.region Dl)))) (.region UN))))
def Dm:Rg:=[iO 53 7 3,iM 54 2,iK2 55 152 53 54,iM 11 55]
def Dn:Rg:=[iO 56 7 3,iM 57 1,iK2 58 157 56 57,iN 59 58,iI 60 0]
def Do:Rg:=[iB 61 .lss 60 59]
def Dp:Rg:=[iM 62 60,iX 63 1 58 60,iL 64 63,iM 12 62,iM 13 64]
def Dq:Rg:=[iM 65 13,iM 66 11,iM 67 12,iX 68 1 66 67,iL 69 68,iB 70 .gtr 65 69]
def Dr:Rg:=[iM 71 7,iM 72 12,iA 73 (.build [zI,zI,zI] [(0,1,(Ci 6)),(1,1,(Ci (-1))),(2,1,(Tm 72))]),iA 74 (.aTI true 3 1 [zI,zI,zI] [(0,(Tm 73))]),iA 75 (.append 3 24 (Tm 71) (Tm 74)),iM 7 75]
def UO:Rg:=[iC 76 .add 60 1,iM 60 76]
def UL:aC:=(sq Do (.seq (.cond (Tm 61) .skip (.exit 3)) (.seq (.block 4 (sq Dp (sq Dq (.cond (Tm 70) (.region Dr) .skip)))) (.region UO))))
def Ds:Rg:=[iM 77 7,iM 6 77]
def NV:aC:=(sq S3 (.seq (.block 0 (sq S4 (.cond (Tm 14) (sq S5 .ret) (sq fc (.cond (Tm 18) (sq S6 .ret) .skip))))) (sq S7 (.seq (sq S8 (.block 1 (.loop Dj))) (sq Dm (.seq (sq Dn (.block 3 (.loop UL))) (sq Ds .ret)))))))
def aBI:List Nat:=[3,28,44,74]
def alU:aZ:=⟨3,78,NV,[.tmp 6]⟩
def Cw:Rg:=[iA 3 (.box true (Tm 0)),iT 6 false]
def Cx:Rg:=[iO 7 7 3,iK 8 161 7,iM 9 8,gO 10 7 3 9 true,gM 11 1 9 true,gM 12 2 9 true,iG 13 (.call 154 [(Tm 10),(Tm 11),(Tm 12)]) 9 true,gN 14 13 9 true,gC 15 .eql 14 0 9 true,iP 16 9 15,iM 6 16]
def FP:aC:=(sq Cw (sq Cx .ret))
def asK:List Nat:=[3]
def Sl:aZ:=⟨3,17,FP,[.tmp 6]⟩
theorem asQ {C:Ctx} (h:∀ f:aD,f.Ok→aH C 96 [.agg f.cells] .nil (aI (.int .i64 (vW f)))) (f:aD) (c:f.Ok) :
  FT.wp C (aU S1.res (bX (.bool (dJ f)))) (PF.args [.agg f.cells]) .nil:=by
 simp only[go_sem,FT,Dh,Di,S1];refine aA (h f c) Ev ?_;simp only[go_sem];refine bC Ev ?_;unfold vW;cases dJ f<;>rfl
theorem mR {f:aD} {d:Nat} (h:d<f.aTC.length):(f.aTC.map dL.cells)[d]?=some (f.aTC[d]).cells:=by simp[h]
theorem gE {f:aD} {d:Nat} (h:d<f.aTF.length):(f.aTF.map cF.cells)[d]?=some (f.aTF[d]).cells:=by simp[h]
theorem OR {f:aD} {d:Nat} (h:d<f.aTE.length):(f.aTE.map eT.cells)[d]?=some (f.aTE[d]).cells:=by simp[h]
theorem wJ {f:aD} {d:Nat} (h:d<f.aTG.length):(f.aTG.map bT.cells)[d]?=some (f.aTG[d]).cells:=by simp[h]
theorem apZ {f:aD} {d:Nat} (h:d<f.aTD.length):(f.aTD.map cS.cells)[d]?=some (f.aTD[d]).cells:=by simp[h]
theorem HN {f:aD} {d:Nat} (h:d<f.aTF.length):(f.aTF[d]).level=lvl f d:=by rw[lvl,getD_at h]
theorem TV {f:aD} {d:Nat} (h:d<f.aTF.length):(f.aTF[d]).parent=par f d:=by rw[par,getD_at h]
theorem VF.WN {f:aD} (h:VF f) {d:Nat} (c:d<f.aTC.length):(f.aTC[d]).machine=((cQ f d:Nat):Int):=by
 have:=(h.drive d c).2.2.1;rw[cQ,getD_at c]; omega
theorem VF.SP {f:aD} (h:VF f) {d:Nat} (c:d<f.aTC.length):(f.aTC[d]).model=((mdl f d:Nat):Int):=by
 have:=(h.drive d c).1;rw[mdl,getD_at c]; omega
theorem VF.Rj {f:aD} (h:VF f) {v:Nat} (c:v<f.aTE.length):(f.aTE[v]).aTO=((vL f v:Nat):Int):=by
 have:=(h.volume v c).1;rw[vL,getD_at c]; omega
theorem VF.WS {f:aD} (h:VF f) {i:Nat} (c:0<i) (hi:i<f.aTF.length):par f i=((MS f i:Nat):Int):=by
 have:=(h.dom i c hi).1;rw[MS]; omega
theorem oN {f:aD} (h:VF f) {v:Nat} (d:v<f.aTE.length):∃ c:vL f v<f.aTG.length,f.aTG[vL f v]=eZ f v:=by
 have c:=(h.volume v d).2;exact⟨c,by simp[eZ,aUY,c]⟩
theorem aAY {C:Ctx} (f:aD) (d:VF f) (v:Nat) (h:v<f.aTE.length) :
  NQ.wp C (aU alT.res (bX (.int .i64 (fQ f v)))) (PF.args [.agg f.cells,.int .i64 v]) .nil:=by
 obtain⟨i,e⟩:=oN d h;have c:=d.aTO _ (aUQ i);rw[e] at c;have l:IntKind.i64.wrap ((eZ f v).k+(eZ f v).m)=(eZ f v).k+(eZ f v).m:=wrap_i64 Om Om;simp only[go_sem,NQ,Si,alT];refine bS .nil dT a_ ?_;simp only[go_sem,Sj,OR h,d.Rj h,wJ i,e];refine aO fun o p=>?_;simp only[go_sem,Sk,l];refine⟨a_,?_⟩;exact nF (n:=(eZ f v).k+(eZ f v).m) Ev rfl
structure agV (C:Ctx):Prop where
 valid:∀ f:aD,f.Ok→aH C 161 [.agg f.cells] .nil (aI (.bool (dJ f)))
 K0:∀ (f:aD) (v:Nat),VF f→v<f.aTE.length→aH C 156 [.agg f.cells,.int .i64 v] .nil (aI (.int .i64 (fQ f v)))
def atP (f:aD) (d level:Int):Int:=if dJ f∧0≤d∧d<f.aTC.length∧0≤level∧level<5 then (cU f d.toNat level:Nat) else -1
def pick (n:Nat) (p:Nat→Bool):List Int:=((aUO n).filter p).map fun (i:Nat)=>(i:Int)
theorem cV (l:List Int):(aW l).length=l.length:=by unfold aW; rw[aUN]
theorem Rs {t:Nat} {H:PH} {F:PF} (c:F t=some .aB):aU [.tmp t] (bX (ints [])) .ret F H:=qX (rows:=[]) (.inr rfl) .nil c
def toS (f:aD):Spec:=fun name vs=>match name,vs with
 | 155,[_,.int _ d,.int _ l]=>some ([],fun _=>aI (.int .i64 (cU f d.toNat l:Nat)))
 | 156,[_,.int _ v]=>some ([],fun _=>aI (.int .i64 (fQ f v.toNat)))
 | _,_=>none
theorem aBB (f:aD) (v:Nat):toS f 156 [.agg f.cells,.int .i64 v]=some ([],fun _=>aI (.int .i64 (fQ f v))):=rfl
section
variable (o s:Nat) (rs:List (List PV))
@[go_sem] theorem aQH (k:IntKind) (n:Int):PV.frz o s rs (.int k n)=.int k n:=(rfl)
@[go_sem] theorem aOQ (b:Bool):PV.frz o s rs (.bool b)=.bool b:=(rfl)
@[go_sem] theorem aQL (l:List UInt8):PV.frz o s rs (.str l)=.str l:=(rfl)
@[go_sem] theorem aOR:PV.frz o s rs .aB=.aB:=(rfl)
@[go_sem] theorem aRM (n:Nat) (r:List (List PV)):PV.frz o s rs (.sl n r)=.sl n r:=(rfl)
@[go_sem] theorem aOS (c:List PV):PV.frz o s rs (.bL c)=.bL c:=(rfl)
@[go_sem] theorem aQK (q z i c:Nat):PV.frz o s rs (.ptr q z i c)=.ptr q z i c:=(rfl)
@[go_sem] theorem aRL (n:Nat) (c:List PV):PV.frz o s rs (.fn n c)=.fn n c:=(rfl)
@[go_sem] theorem aQI (q:Nat):PV.frz o s rs (.map q)=.map q:=(rfl)
@[go_sem] theorem aQJ (q z c len:Nat):PV.frz o s rs (.osl q z c len)=if q=o then (if z=s∧c+len≤rs.length then .sl s ((rs.drop c).take len) else .junk) else .osl q z c len:=(rfl)
end
def oF (s:Nat) (rows:List (List PV)) (r:PV) (H:PH):Prop :=
 (rows=[]∧r=.aB∧H=PH.nil)∨∃ q rs,r=.osl q s 0 rows.length∧H=PH.nil.set q (.rows s rs)∧rows.length≤rs.length∧rs.take rows.length=rows
theorem Yv (q s:Nat) (rs:List (List PV)):(PH.nil.set q (.rows s rs)).frz q s rs=PH.nil:=PH.ext fun o=>by
 rw[zO];by_cases e:o=q
 ·rw[if_pos e]; rfl
 ·rw[if_neg e,aN,if_neg e]; rfl
section
variable {C:Ctx} {K:bR} {F:PF} {H:PH} {s:Nat} {v:PV} {rows:List (List PV)}
theorem oF.over {r:PV} {H':PH} (h:oF s rows r H') (i:mM H .nil H'):bE (H.over .nil H') s r rows∧∀ o x,H o=some x→(H.over .nil H') o=some x:=by
 rcases h with ⟨c,e,rfl⟩ | ⟨q,rs,c,rfl,h3,h4⟩
 ·rw[PH.BC]; exact⟨.inl ⟨c,e⟩,fun o x h=>h⟩
 ·rw[PH.nP];have l:H q=none:=i q (.rows s rs) (by simp only[aN,if_true]) rfl;refine⟨.inr ⟨q,rs,c,by simp only[aN,if_true],h3,h4⟩,fun o x d=>?_⟩;have:o≠q:=by rintro rfl; rw[l] at d; cases d
  simp only[aN,if_neg this,d]
theorem MZ {t:Nat} {e:mC} (c:e=.normal∨e=.ret) (h:bE H s v rows) (d:F t=some v):aU [.tmp t] (oF s rows) e F H:=by
 rcases h with ⟨rfl,rfl⟩ | ⟨q,rs,rfl,h1,h2,h3⟩
 ·exact aX (vs:=[.aB]) c .nil (by rw[kV,nS,d,oZ]) a_ (.inl ⟨rfl,rfl,rfl⟩)
 ·exact aX (vs:=[.osl q s 0 rows.length]) c (PH.nil.set q (.rows s rs)) (by rw[kV,nS,d,oZ]) (e_ a_ h1) (.inr ⟨q,rs,rfl,rfl,h2,h3⟩)
theorem HV {t:Nat} {e:mC} (c:e=.normal∨e=.ret) (d:F t=some .aB):aU [.tmp t] (oF s []) e F H:=MZ c .nil d
theorem arO {t:Nat} {e:mC} {r:PV} {H':PH} (c:e=.normal∨e=.ret) (h:oF s rows r H') (i:F t=some r):aU [.tmp t] (oF s rows) e F (H.over .nil H'):=by
 refine aX (vs:=[r]) c H' (by rw[kV,nS,i,oZ]) (fun o x d=>?_) h;rw[hM,d]
theorem aH.freeze {name:Nat} {args:List PV} (h:aH C name args H (oF s rows)):aH C name args H (aI (.sl s rows)) :=
 ⟨h.1,fun E w vs J hW l=>(h.2 E w vs J hW l).mono fun e R M=>by
  obtain⟨u,pv,A,H',rfl,c,y,x,N⟩:=M;rcases N with ⟨rfl,rfl,rfl⟩ | ⟨q,rs,rfl,rfl,h3,h4⟩
  ·exact⟨u,_,A,_,rfl,c,(Co.nil s).sound y,x,rfl,rfl⟩
  ·have O:jM (PF.nil.set 0 (.osl q s 0 rows.length)) (PH.nil.set q (.rows s rs)) _ _:=.step q (s:=s) (rs:=rs) (by simp only[aN,if_true]) (.refl _ _);obtain⟨B,k1,k2,Q⟩:=O.sound c;have d:=Q (fun _=>u) (fun i p hi=>by
    rw[kY] at hi;split at hi
    ·cases hi; exact y
    ·cases hi) 0 (.sl s rows) (by rw[rL,kY,if_pos rfl,aWC,vD h3,h4])
   rw[Yv] at k1 k2;exact⟨u,_,B,_,rfl,k1,d,x.trans k2,rfl,rfl⟩⟩
theorem eO.of:∀ {E:Env} (ps:List PV) (vs:List Value),vs.length=ps.length→(∀ (i:Nat) p v,ps[i]?=some p→vs[i]?=some v→aY E p v)→eO E ps vs
 | _,[],[],_,_=>.nil
 | _,[],_::_,h,_=>by simp at h
 | _,_::_,[],h,_=>by simp at h
 | _,p::ps,v::vs,h,k=>.cons (k 0 p v rfl rfl) (eO.of ps vs (by simpa using h) fun i q u a b=>k (i+1) q u (by simpa using a) (by simpa using b))
theorem bO.same {E:Env} {w l:World} (hW:bO E H w) (B:w.heap.size≤l.heap.size) (A:∀ b,b<w.heap.size→H b=none→l.heap[b]?=w.heap[b]?) (y:∀ o x,H o=some x→l.heap[o]?=w.heap[o]?):bO E H l:=by
 have d:∀ b,b<w.heap.size→l.heap[b]?=w.heap[b]?:=fun b hlt=>by
  cases e:H b with
  | none=>exact A b hlt e
  | some x=>exact y b x e
 refine⟨fun b cs h=>?_,fun o x h=>?_,fun o n h=>?_⟩
 ·obtain⟨c,ty,u,i⟩:=hW.g b cs h;exact⟨c,ty,u,(d b (aXT.1 i).1).trans i⟩
 ·obtain⟨c,i⟩:=hW.h o x h;exact⟨Nat.lt_of_lt_of_le c B,i.mono (.refl E) (d o c)⟩
 ·obtain⟨p,ty,u,c,i⟩:=hW.s o n h;exact⟨p,ty,u,(d o (aXT.1 c).1).trans c,i⟩
inductive Plain:PV→Prop
 | int (k:IntKind) (n:Int):Plain (.int k n)
 | bool (b:Bool):Plain (.bool b)
 | str (l:List UInt8):Plain (.str l)
theorem Plain.rep {v:PV} (h:Plain v) {E c:Env} {u:Value} (r:aY E v u):aY c v u:=by
 cases h<;>cases r
 ·exact .int _ _
 ·exact .bool _
 ·exact .str _
theorem aH.ayF {name o:Nat} {rs:List (List PV)} {args:List PV} (Y:Plain v) (h:aH C name (args.map (PV.frz o s rs)) .nil (aI v)) :
  aH C name args (PH.nil.set o (.rows s rs)) (fun r H'=>r=v∧H'=PH.nil.set o (.rows s rs)):=by
 refine⟨h.1,fun E w vs Q hW B=>?_⟩;have Z:jM (PF.args args) (PH.nil.set o (.rows s rs)) _ _:=.step o (s:=s) (rs:=rs) (by simp only[aN,if_true]) (.refl _ _);obtain⟨N,k1,k2,k3⟩:=Z.sound hW;rw[Yv] at k1 k2;have A:=B.len;have J:eO N (args.map (PV.frz o s rs)) vs.toList:=by
  refine eO.of _ _ (by rw[aUN]; exact A) fun i p u V X=>?_;have:=k3 (fun i=>(vs.toList[i]?).getD undef) (fun j q O=>by have U:=(aVW.1 O).1;have y:j<vs.toList.length:=Om;simp only[aVB y,aXH];exact B.at_ j q _ O (aVB y)) i p (by rw[rL,args_at,← aVN]; exact V)
  simp only[X,aXH] at this;exact this
 refine (h.2 N w vs (k2.env.num.trans Q) k1 J).mono fun e w' S=>?_;obtain⟨u,pv,E2,H2,rfl,R,W,l,rfl,rfl⟩:=S;have c:∀ b,b<w.heap.size→w'.heap[b]?=w.heap[b]?:=fun b d=>l.block b d rfl;refine⟨u,pv,E,_,rfl,hW.same l.size (fun b d _=>c b d) (fun q x M=>c q (hW.h q x M).1),Y.rep W,⟨.refl E,l.os,l.tape,l.output,l.size,fun b d _=>c b d,fun q x M=>.inl ⟨x,M⟩,fun b cs d=>.inl d⟩,rfl,rfl⟩
theorem Xe {name o:Nat} {rs:List (List PV)} {args:List aQ} {vs:List PV} {d:Option Nat} {K:PF→PH→Prop} (l:Plain v) (h:aH C name (vs.map (PV.frz o s rs)) .nil (aI v)) (c:H o=some (.rows s rs)) (e:aQ.evs F args=some vs)
  (i:K (F.put d v) H):iU C name args [] d K F H:=by
 refine kI (h.ayF l) e (e_ a_ c) ?_;rintro r H' ⟨rfl,rfl⟩ -;rw[PH.over_self _ (e_ a_ c)];exact i
theorem avZ {Hs:PH} {S:Spec} {name o:Nat} {rs:List (List PV)} {vs:List PV} {R:PH→PV→PH→Prop} {args:List aQ} {st:Bool} {d:Option Nat} {K:PF→PH→Prop} (l:S name vs=some ([o],R)) (x:Plain v) (w:H o=some (.rows s rs))
  (h:aH C name (vs.map (PV.frz o s rs)) .nil (aI v)) (c:R (PH.nil.set o (.rows s rs)) v (PH.nil.set o (.rows s rs))) (e:∀ r H',R (PH.nil.set o (.rows s rs)) r H'→r=v∧H'=PH.nil.set o (.rows s rs)) (p:aQ.evs F args=some vs) (i:Hs.le H) (u:K (F.put d v) H) :
  dOp C Hs S st (.call name args) d K F H:=al l w (h.ayF x) c e p i u
theorem G2 {name t:Nat} {R:PV→PH→Prop} {d:Option Nat} {K:PF→PH→Prop} (h:aH C name [.sl s rows] .nil R) (w:bE H s v rows) (p:F t=some v)
  (l:∀ (c:PF) (e:PH),(∀ i u,F i=some u→Pure u→c i=some u)→∀ r H',R r H'→mM e .nil H'→K (c.put d r) (e.over .nil H')):iU C name [.tmp t] [] d K F H:=by
 rcases w with ⟨rfl,rfl⟩ | ⟨q,rs,rfl,h1,h2,h3⟩
 ·exact .inl ⟨[.aB],.nil,R,by rw[AM,jl,p,WD]; rfl,a_,h.alM (.inl ⟨rfl,rfl⟩),l F H fun i u hi _=>hi⟩
 ·refine .inr ⟨_,_,.step q h1 (.refl _ _),[.sl s rows],.nil,R,?_,a_,h,l _ _ fun i u hi x=>?_⟩
  ·simp only[AM,WD,jl,rL,p,aWC,vD h2,h3,aWF]
  ·rw[rL,hi,aWC,x q s rs]
end
def nO (A:List Int) (k:Nat):List Int:=A.take k++aUR (A.length-k) 0
theorem Wl (A:List Int):nO A 0=aUR A.length 0:=by simp[nO]
theorem aiH (A:List Int):nO A A.length=A:=by simp[nO]
theorem Gp (A:List Int) {k:Nat} (h:k≤A.length):(nO A k).length=A.length:=by simp[nO]; omega
theorem aiI (A:List Int) {k:Nat} (h:k<A.length):(nO A k).set k A[k]=nO A (k+1):=by
 unfold nO;rw[aXO _ _ (by simp; omega),aVJ,aWW Om,aXQ,show A.length-k=(A.length-(k+1))+1 by omega,List.replicate_succ,aYB,
  aWN h,aVS]
 rfl
theorem mU (l:List Int) (i:Nat) (x:Int):(aW l).set i [.int .i64 x]=aW (l.set i x):=by unfold aW; rw[List.map_set]
theorem oV (n:Nat):aUR n [PV.int .i64 0]=aW (aUR n 0):=by simp[aW]
theorem vI {l:List Int} {i:Nat} (h:i<l.length):(aW l)[i]?=some [.int .i64 l[i]]:=by simp[aW,h]
theorem kc (l:List Int):ints l=.sl 1 (aW l):=rfl
def n8 (f:aD) (room:List Int) (d:Nat):Int:=if room.length=f.aTC.length then min (max (room.getD d 0) 0) (ext f d) else ext f d
def jJ (f:aD) (room:List Int):List Int:=(aUO f.aTC.length).map (n8 f room)
def NB (f:aD) (room:List Int):List Int:=if dJ f then jJ f room else []
theorem pX (f:aD) (room:List Int):(jJ f room).length=f.aTC.length:=by simp[jJ]
theorem aAH (f:aD) (room:List Int) {d:Nat} (h:d<(jJ f room).length):(jJ f room)[d]=n8 f room d:=by simp[jJ]
theorem VF.aKC {f:aD} (h:VF f) {d:Nat} (e:d<f.aTC.length):∃ c:mdl f d<f.aTD.length,(f.aTD[mdl f d]).aTS=ext f d:=by
 have c:=(h.drive d e).2.1;exact⟨c,by rw[ext,getD_at c]⟩
def trF (f:aD) (room:List Int) (o k:Nat):PF:=(((((PF.nil.set 1 (ints room)).set 2 (.bL f.cells)).set 5 (.osl o 1 0 f.aTC.length)).set 15 (.int .i64 (f.aTC.length:Nat))).set 16 (.int .i64 k))
theorem aGK (a b:Int):(if b<a then b else a)=min a b:=by
 rw[Int.min_def];by_cases h:b<a
 ·rw[if_pos h,if_neg Om]
 ·rw[if_neg h,if_pos Om]
theorem aBD {C:Ctx} (L:agV C) (f:aD) (O:f.Ok) (room:List Int) :
  NT.wp C (aU WX.res (oF 1 (aW (NB f room)))) (PF.args [.agg f.cells,ints room]) .nil:=by
 simp only[go_sem,NT,Sr,Ss,WX];refine aA (L.valid f O) Ev ?_;unfold NB;cases S:dJ f with
 | false =>simp only[go_sem,aVG,St];exact HV (.inr rfl) Ev
 | true =>
  have hV:=VF.of S;have M:=hV.small.aTC;have F:(f.aTC.length:Int)*((8:Nat):Int)≤140737488355328:=Om;have H:(f.aTC.length:Int)≤9223372036854775807:=Om;simp only[go_sem,aUW,Su,aUN,F,H];refine aO fun o X=>?_;simp only[go_sem,Sv];have u:=pX f room;have E:=fun d h=>aAH f room (d:=d) h;generalize V:jJ f room=A at *
  refine wp_loop (α:=Nat) (fun k=>trF f room o k) (fun k=>PH.nil.set o (.rows 1 (aW (nO A k)))) (fun k=>k≤f.aTC.length) (fun k=>f.aTC.length-k) 0 (aUT _) ?_ ?_ ?_
  ·unfold trF;exact Lq
  ·refine e_ a_ ?_;simp only[go_sem];rw[Wl,u,oV]
  intro k W;simp only[go_sem,C8,Sw,trF];by_cases hlt:k<f.aTC.length
  ·have e:(k:Int)<(f.aTC.length:Nat):=Om;obtain⟨R,N⟩:=hV.aKC hlt;have Q:=Gp A (k:=k) Om;have w:k<A.length:=Om;have U:=vI (l:=nO A k) (i:=k) Om;have p:=aiI A w;rw[E k w] at p;simp only[go_sem,e,Sx];refine bS .nil dT a_ ?_;simp only[go_sem,Sy,mR hlt,hV.SP hlt,apZ R,N,e,aVH,U];refine⟨a_,?_⟩;simp only[go_sem,Sz,aUN];by_cases c:room.length=f.aTC.length
   ·have y:((room.length:Int)==(f.aTC.length:Int))=true:=bP Om;have x:k<room.length:=Om;have J:(room.map fun n=>[PV.int .i64 n])[k]?=some [.int .i64 room[k]]:=by simp[x]
    simp only[go_sem,y];refine bS .nil dT a_ ?_;have K:(aW ((nO A k).set k (ext f k)))[k]?=some [.int .i64 (ext f k)]:=by rw[← mU,List.getElem?_set_self (by rw[cV]; omega)]
    simp only[go_sem,S0,J,e,aVH,K,max_eq,aGK,List.set_set,mU];refine⟨a_,?_⟩;simp only[go_sem,UI,wZz k];refine aG (k+1) hlt Om ?_ ?_
    ·exact Lq
    ·refine e_ a_ ?_;rw[← p,n8,if_pos c,aUY,aVB x,aXH];simp only[go_sem]
   ·have y:((room.length:Int)==(f.aTC.length:Int))=false:=bG Om;simp only[go_sem,y,UI,wZz k,mU];refine aG (k+1) hlt Om ?_ ?_
    ·exact Lq
    ·refine e_ a_ ?_;rw[← p,n8,if_neg c];simp only[go_sem]
  ·have e:¬ (k:Int)<(f.aTC.length:Nat):=Om;have:k=f.aTC.length:=Om;subst this;simp only[go_sem,e,C9];have B:nO A f.aTC.length=A:=by rw[← u,aiH]
   rw[B];exact MZ (.inr rfl) (v:=.osl o 1 0 f.aTC.length) (.inr ⟨o,aW A,by rw[cV,u],by simp only[go_sem],aUU _,aVI (aUU _)⟩) Sq
abbrev lay (l:List (List Int)):PV:=.sl 1 (l.map fun r=>[ints r])
def dU (n:Nat) (xs:List Int):List Int:=(aUO n).map fun (d:Nat)=>((xs.count (d:Int):Nat):Int)
theorem jA (n:Nat) (xs:List Int):(dU n xs).length=n:=by simp[dU]
theorem ai (n:Nat):dU n []=aUR n 0:=by
 refine aXE (by simp[dU]) fun i c d=>by simp[dU]
theorem tp {n:Nat} (xs:List Int) {d:Nat} (h:d<n):(dU n xs)[d]'(by rw[jA]; exact h)=((xs.count (d:Int):Nat):Int):=by simp[dU]
theorem tq {n:Nat} (xs:List Int) {d:Nat} (h:d<n):(dU n xs).set d (((xs.count (d:Int):Nat):Int)+1)=dU n (xs++[(d:Int)]):=by
 refine aXE (by simp[dU]) fun i c l=>?_;simp only[dU,List.getElem_set,aWD,List.getElem_range,List.count_append];by_cases e:d=i
 ·subst e; simp
 ·have:((d:Nat):Int)≠(i:Int):=Om;rw[if_neg e];simp[List.count_cons,this]
theorem AK {n:Nat} (xs:List Int) {x:Int} (h:¬ (0≤x∧x<n)):dU n (xs++[x])=dU n xs:=by
 refine aXE (by simp[dU]) fun i d c=>?_;simp only[dU,aWD,List.getElem_range,List.count_append];have hi:i<n:=by simpa [dU] using c
 have:x≠(i:Int):=Om;simp[List.count_cons,this]
def fW (f:aD) (l:List (List Int)):List Int:=dU f.aTC.length l.flatten
structure oE (l:List (List Int)):Prop where
 rows:l.length≤16777216
 all:l.flatten.length≤16777216
theorem wW (l:List (List Int)) {i:Nat} (h:i<l.length):(l.take (i+1)).flatten=(l.take i).flatten++l[i]:=by
 rw[aWN h,List.flatten_append];simp only[List.flatten_cons,List.flatten_nil,aWF]
theorem JJ (l:List (List Int)) (i:Nat):(l.take i).flatten.length≤l.flatten.length:=by
 have:l.flatten=(l.take i).flatten++(l.drop i).flatten:=by rw[← List.flatten_append,aXG]
 rw[this,aUS]; omega
def N3 (l:List (List Int)) (n o i:Nat):PF:=((((PF.nil.set 5 (.osl o 1 0 n)).set 14 (lay l)).set 15 (.int .i64 (l.length:Nat))).set 16 (.int .i64 i))
def um (l:List (List Int)) (n o i:Nat) (row:List Int) (k:Nat):PF:=(((((((PF.nil.set 5 (.osl o 1 0 n)).set 14 (lay l)).set 15 (.int .i64 (l.length:Nat))).set 16 (.int .i64 i)).set 20 (ints row)).set 21 (.int .i64 (row.length:Nat))).set 22 (.int .i64 k))
theorem asL {C:Ctx} (f:aD) (hd:f.aTC.length≤24) (l:List (List Int)) (W:oE l) :
  FQ.wp C (aU Sm.res (bX (ints (fW f l)))) (PF.args [.agg f.cells,lay l]) .nil:=by
 have M:(f.aTC.length:Int)*((8:Nat):Int)≤140737488355328:=Om;have N:(f.aTC.length:Int)≤9223372036854775807:=Om;obtain⟨X,Y⟩:=W;simp only[go_sem,FQ,C0,C1,Sm,aUN,M,N];refine aO fun o ho=>?_;simp only[go_sem,C2];generalize Z:f.aTC.length=n at *
 refine wp_loop (α:=Nat) (fun i=>N3 l n o i) (fun i=>PH.nil.set o (.rows 1 (aW (dU n (l.take i).flatten)))) (fun i=>i≤l.length) (fun i=>l.length-i) 0 (aUT _) ?_ ?_ ?_
 ·unfold N3
  (repeat' (first|exact d_|refine c_ ?_ ?_))<;>first|(simp only[go_sem,aUN]<;>rfl)|rfl
 ·refine e_ a_ ?_;simp only[go_sem,aXW,List.flatten_nil];rw[ai,oV]
 intro i hi;simp only[go_sem,ot,C3,N3];by_cases hlt:i<l.length
 ·have e:(i:Int)<(l.length:Nat):=Om;have hr:(l.map fun r=>[ints r])[i]?=some [ints l[i]]:=by simp[hlt]
  have E:=wW l hlt;have O:=JJ l (i+1);rw[E,aUS] at O;generalize R:l[i]=row at *
  simp only[go_sem,e,C4,hr,C5,aUN];refine wp_loop (α:=Nat) (fun k=>um l n o i row k) (fun k=>PH.nil.set o (.rows 1 (aW (dU n ((l.take i).flatten++row.take k))))) (fun k=>k≤row.length) (fun k=>row.length-k) 0 (aUT _) ?_ ?_ ?_
  ·unfold um
   (repeat' (first|exact d_|refine c_ ?_ ?_))<;>first|(simp only[go_sem,aUN]<;>rfl)|rfl
  ·rw[aXW,aWF];exact b_
  intro k hk;simp only[go_sem,oq,C6,um];by_cases w:k<row.length
  ·have c:(k:Int)<(row.length:Nat):=Om;have y:(row.map fun n=>[PV.int .i64 n])[k]?=some [.int .i64 row[k]]:=by simp[w]
   have A:(l.take i).flatten++row.take (k+1)=((l.take i).flatten++row.take k)++[row[k]]:=by rw[aWN w,aVS]
   have fin:∀ (F:PF),(um l n o i row (k+1)).le F→∀ H:PH,H o=some (.rows 1 (aW (dU n ((l.take i).flatten++row.take (k+1))))) →
     eY (fun k=>um l n o i row k) (fun k=>PH.nil.set o (.rows 1 (aW (dU n ((l.take i).flatten++row.take k))))) (fun k=>k≤row.length) (fun k=>row.length-k) (row.length-k)
      (eQ 2 (eQ 1 (gD C (aC.wp C (.region NR)) (eY (fun i=>N3 l n o i) (fun i=>PH.nil.set o (.rows 1 (aW (dU n (l.take i).flatten)))) (fun i=>i≤l.length) (fun i=>l.length-i) (l.length-i) (eQ 0 (gD C (aC.wp C (.seq (.region NS) .ret)) (aU [.tmp 4] (bX (ints (fW f l)))))))))) .normal F H:=by
    intro F S H U;exact aG (k+1) w Om S (e_ a_ U)
   unfold um N3 at fin;generalize hx:row[k]=x at *
   by_cases K:x≥0
   ·by_cases Q:x<(n:Nat)
    ·obtain⟨d,rfl⟩:∃ d:Nat,x=d:=⟨x.toNat,by omega⟩;have u:d<n:=Om;have B:=vI (l:=dU n ((l.take i).flatten++row.take k)) (i:=d) (by rw[jA]; exact u);rw[tp _ u] at B;have V:((l.take i).flatten++row.take k).count (d:Int)≤16777216:=by refine aWE (List.count_le_length ..) ?_;rw[aUS,aVJ]; omega
     have J:=tq ((l.take i).flatten++row.take k) u;rw[← A] at J;have hw:IntKind.i64.wrap (((((l.take i).flatten++row.take k).count (d:Int):Nat):Int)+1)=((((l.take i).flatten++row.take k).count (d:Int):Nat):Int)+1:=wrap_i64 Om Om;simp only[go_sem,c,CZ,y,DA,K,Q,C7,aVH,B,hw,yS,mU,J,wZz k];exact fin _ Lq _ Sq
    ·have p:=AK (n:=n) ((l.take i).flatten++row.take k) (x:=x) Om;simp only[go_sem,c,CZ,y,DA,K,Q,yS,wZz k];exact fin _ Lq _ (by rw[A,p]; simp only[go_sem])
   ·have p:=AK (n:=n) ((l.take i).flatten++row.take k) (x:=x) Om;simp only[go_sem,c,CZ,y,DA,K,yS,wZz k];exact fin _ Lq _ (by rw[A,p]; simp only[go_sem])
  ·have c:¬ (k:Int)<(row.length:Nat):=Om;have:k=row.length:=Om;subst this;simp only[go_sem,c,NR,wZz i,aVP];refine aG (i+1) hlt Om ?_ ?_
   ·exact Lq
   ·refine e_ a_ ?_;rw[E];simp only[go_sem]
 ·have e:¬ (i:Int)<(l.length:Nat):=Om;have:i=l.length:=Om;subst this;simp only[go_sem,e,NS,aVP];refine d6 (.inr rfl) (o:=o) (s:=1) (k:=n) (rs:=aW (dU n l.flatten)) Sq Sq (by rw[cV,jA]; omega) ⟨?_,rfl⟩;rw[kc,aVI (by rw[cV,jA]; omega),fW,Z];exact .refl _
structure Ic (C:Ctx):Prop extends agV C where
 room:∀ (f:aD) (room:List Int),f.Ok→aH C 152 [.agg f.cells,ints room] .nil (aI (ints (NB f room)))
 loads:∀ (f:aD) (l:List (List Int)),f.aTC.length≤24→oE l→aH C 157 [.agg f.cells,lay l] .nil (aI (ints (fW f l)))
def SM (f:aD) (l:List (List Int)):List Int:=if dJ f then fW f l else []
structure kJ where
 kind:Int
 vol:Int
 wher:Int
abbrev kJ.cells (x:kJ):List PV:=[.int .i64 x.kind,.int .i64 x.vol,.int .i64 x.wher]
abbrev amO (l:List kJ):PV:=.sl 3 (l.map kJ.cells)
def kT (p:Int→Bool):List Int→Nat→Option Nat
 | [],_=>none
 | x::t,i=>if p x then some i else kT p t (i+1)
def tK (f:aD) (d:Int):Bool:=decide (d < -1)||decide (d≥(f.aTC.length:Nat))
def uI (f:aD) (l:List (List Int)) (v:Nat):Option kJ :=
 if ((l.getD v []).length:Int)=fQ f v then (kT (tK f) (l.getD v []) 0).map fun (i:Nat)=>⟨1,v,i⟩ else some ⟨1,v,((l.getD v []).length:Nat)⟩
def shV:Option kJ→PV
 | some x=>.tup [.agg x.cells,.bool true]
 | none=>.tup [.agg [.int .i64 0,.int .i64 0,.int .i64 0],.bool false]
def aBF (f:aD) (o:Nat) (v:Nat) (row:List Int) (k:Nat):PF:=((((((PF.nil.set 2 (.int .i64 v)).set 3 (.bL f.cells)).set 6 (.ptr o 3 0 0)).set 29 (ints row)).set 30 (.int .i64 (row.length:Nat))).set 31 (.int .i64 k))
theorem asO {C:Ctx} (L:Ic C) (f:aD) (hV:VF f) (l:List (List Int)) (O:oE l) (v:Nat) (B:v<l.length) (E:v<f.aTE.length) :
  FS.wp C (aU UJ.res (bX (shV (uI f l v)))) (PF.args [.agg f.cells,lay l,.int .i64 v]) .nil:=by
 have A:(l.map fun r=>[ints r])[v]?=some [ints l[v]]:=by simp[B]
 have N:l.getD v []=l[v]:=by simp[aUY,B]
 have Q:(l[v]).length≤16777216:=by have J:=JJ l (v+1);have:=O.all;rw[wW l B,aUS] at J;omega
 unfold uI;rw[N];simp only[go_sem,FS,Db];refine aO fun o S=>?_;simp only[go_sem];refine bS .nil (toS f) a_ ?_;generalize l[v]=row at *
 have fin:∀ (x:kJ) (F:PF) (H:PH),F 6=some (.ptr o 3 0 0)→F 7=some (.bool true)→H o=some (.rows 3 [x.cells])→aU UJ.res (bX (shV (some x))) .ret F H:=by intro x F H K h7 M;refine aX (.inr rfl) .nil (vs:=[.agg x.cells,.bool true]) ?_ a_ ⟨.refl _,rfl⟩;simp only[go_sem,UJ,K,h7,M]
 simp only[go_sem,Dc,A,aUN];refine bY (aBB f v) (L.K0 f v hV E) rfl a_ ?_;by_cases c:(row.length:Int)=fQ f v
 ·rw[if_pos c];simp only[go_sem,cA c,De,A,aUN];refine wp_loop (α:=Nat) (fun k=>aBF f o v row k) (fun k=>PH.nil.set o (.rows 3 [[.int .i64 0,.int .i64 0,.int .i64 0]])) (fun k=>k≤row.length∧kT (tK f) row 0=kT (tK f) (row.drop k) k) (fun k=>row.length-k) 0 ⟨aUT _,rfl⟩ ?_ b_ ?_
  ·unfold aBF
   (repeat' (first|exact d_|refine c_ ?_ ?_))<;>first|(simp only[go_sem,aUN]<;>rfl)|rfl
  rintro k ⟨R,i⟩;simp only[go_sem,Da,Df,aBF];by_cases hlt:k<row.length
  ·have d:(k:Int)<(row.length:Nat):=Om;have p:(row.map fun n=>[PV.int .i64 n])[k]?=some [.int .i64 row[k]]:=by simp[hlt]
   have y:kT (tK f) (row.drop k) k=if tK f row[k] then some k else kT (tK f) (row.drop (k+1)) (k+1):=by rw[aWM hlt,kT]
   rw[y] at i;by_cases u:row[k] < -1
   ·have e:tK f row[k]=true:=by simp[tK,u]
    rw[e] at i;simp only[go_sem,d,DB,p,DC,u,UK];rw[i];exact fin ⟨1,v,k⟩ _ _ rfl rfl Sq
   ·by_cases w:row[k]≥(f.aTC.length:Nat)
    ·have e:tK f row[k]=true:=by simp[tK,w]
     rw[e] at i;simp only[go_sem,d,DB,p,DC,u,aUN,w,UK];rw[i];exact fin ⟨1,v,k⟩ _ _ rfl rfl Sq
    ·have e:tK f row[k]=false:=by simp[tK]; omega
     rw[e] at i;simp only[go_sem,d,DB,p,DC,u,aUN,w,Dg,wZz k];refine aG (k+1) ⟨hlt,i⟩ Om ?_ b_;exact Lq
  ·have d:¬ (k:Int)<(row.length:Nat):=Om;have:k=row.length:=Om;subst this;rw[List.drop_length,kT] at i;simp only[go_sem,d,ov];rw[i];refine aX (.inr rfl) .nil (vs:=[.agg [.int .i64 0,.int .i64 0,.int .i64 0],.bool false]) ?_ a_ ⟨.refl _,rfl⟩;simp only[go_sem,UJ]
 ·rw[if_neg c];simp only[go_sem,dO c,Dd,A,aUN];exact fin ⟨1,v,(row.length:Nat)⟩ _ _ rfl rfl Sq
structure anO (C:Ctx):Prop extends Ic C where
 He:∀ (f:aD) (l:List (List Int)) (v:Nat),VF f→oE l→v<l.length→v<f.aTE.length→aH C 160 [.agg f.cells,lay l,.int .i64 v] .nil (aI (shV (uI f l v)))
section
variable {C:Ctx} {F:PF} {H:PH}
theorem uP {name:Nat} {vs cs:List PV} {r:PV} {e:PH} {args:List aQ} {d:Option Nat} {K:PF→PH→Prop} (h:aH C name (vs++cs) e (fun i H'=>i=r∧H'=e)) (l:aQ.evs F args=some vs) (c:e.le H)
  (p:K (F.put d r) H):iU C name args cs d K F H:=by
 refine .inl ⟨vs++cs,e,_,by rw[l]; rfl,c,h,?_⟩;rintro i H' ⟨rfl,rfl⟩ -;rw[PH.over_self _ c];exact p
theorem bE.ne {s s':Nat} {v:PV} {rows:List (List PV)} {o:Nat} {y:List (List PV)} (h:bE H s v rows) (i:H o=some (.rows s' y)) (p:s≠s'):∀ l,v≠.osl o s 0 l:=by
 intro l e;rcases h with ⟨_,c⟩ | ⟨q,rs,h1,c,_⟩
 ·rw[c] at e; cases e
 ·rw[h1] at e;injection e with d
  subst d;rw[i] at c;injection c with c
  injection c with c
  exact p c.symm
theorem bE.set {s s':Nat} {v:PV} {rows:List (List PV)} {o:Nat} {y:List (List PV)} {x:cB} (h:bE H s v rows) (i:H o=some (.rows s' y)) (l:s≠s'):bE (H.set o x) s v rows:=by
 have e:=h.ne i l;rcases h with ⟨c,d⟩ | ⟨q,rs,c,d,h3,h4⟩
 ·exact .inl ⟨c,d⟩
 ·refine .inr ⟨q,rs,c,?_,h3,h4⟩;have:q≠o:=by rintro rfl; exact e _ c
  simp only[aN,if_neg this,d]
def Dis (s:Nat) (v u:PV):Prop:=∀ q l c d,v=.osl q s 0 l→u=.osl c s 0 d→q≠c
theorem Dis.nil {s:Nat}:Dis s .aB .aB:=fun _ _ _ _ h=>by cases h
theorem Dis.symm {s:Nat} {v u:PV} (h:Dis s v u):Dis s u v:=fun q l i e c d=>(h i e q l d c).symm
theorem mO {s b:Nat} {v u y:PV} {rows rows' src:List (List PV)} {K:PV→PH→Prop} (h:bE H s v rows) (M:bE H s u rows') (O:Dis s v u) (V:dX H s y=some src) (U:roomFor rows.length src.length b)
  (Q:∀ v' H',bE H' s v' (rows++src)→bE H' s u rows'→Dis s v' u→(∀ o s' z,s≠s'→H o=some (.rows s' z)→H' o=some (.rows s' z))→K v' H'):mB H s b v y K:=by
 have p:∀ {H':PH} {t:PV} {r:List (List PV)},bE H s t r→(∀ o x,H o=some x→(∀ l,t=.osl o s 0 l→False)∨H' o=some x)→bE H' s t r:=by
  intro H' t r Z Y;rcases Z with ⟨a,b⟩ | ⟨q,rs,a,b,c,d⟩
  ·exact .inl ⟨a,b⟩
  ·refine .inr ⟨q,rs,a,?_,c,d⟩;rcases Y q _ b with e | e
   ·exact (e _ a).elim
   ·exact e
 have gone:∀ {o:Nat} {x:cB},H o=none→H o=some x→False:=fun a b=>by rw[a] at b; cases b
 have N:∀ {o:Nat} {l:Nat},u=.osl o s 0 l→∃ x,H o=some x:=by
  intro o l e;rcases M with ⟨a,b⟩ | ⟨q,rs,a,b,c,d⟩
  ·rw[b] at e; cases e
  ·rw[a] at e; injection e with e; subst e; exact⟨_,b⟩
 rcases h with ⟨rfl,rfl⟩ | ⟨q,rs,rfl,h1,h2,h3⟩
 ·refine⟨src,V,U,fun e=>?_,fun e o J=>?_⟩
  ·subst e;exact Q _ _ (.inl ⟨rfl,rfl⟩) M O fun o s' z _ i=>i
  ·refine Q _ _ (.inr ⟨o,src,rfl,by simp only[aN,if_true],aUU _,by simp⟩) (p M fun o' x A=>.inr ?_) ?_ fun o' s' z _ i=>?_
   ·have:o'≠o:=by rintro rfl; exact gone J A
    simp only[aN,if_neg this,A]
   ·intro q l X W w B;injection w with w
    subst w;rintro rfl;obtain⟨x,A⟩:=N B;exact gone J A
   ·have:o'≠o:=by rintro rfl; exact gone J i
    simp only[aN,if_neg this,i]
 ·have E:(rows++src).length=rows.length+src.length:=aUS;refine⟨src,V,rfl,rfl,U,rs,h1,h2,?_,fun o J=>?_⟩
  ·rw[h3];refine Q _ _ (.inr ⟨q,rows++src,by rw[E],by simp only[aN,if_true],aUU _,aVP⟩) (p M fun o' x A=>?_) ?_ fun o' s' z S i=>?_
   ·by_cases e:o'=q
    ·exact .inl fun l R=>O q _ o' l rfl R e.symm
    ·exact .inr (by simp only[aN,if_neg e,A])
   ·intro q1 l X W w B;injection w with w
    subst w;exact O _ _ _ _ rfl B
   ·have:o'≠q:=by
     rintro rfl;rw[h1] at i;injection i with i
     injection i with i
     exact S i
    simp only[aN,if_neg this,i]
  ·rw[h3];refine Q _ _ (.inr ⟨o,rows++src,by rw[E],by simp only[aN,if_true],aUU _,aVP⟩) (p M fun o' x A=>?_) ?_ fun o' s' z S i=>?_
   ·by_cases e:o'=q
    ·exact .inl fun l R=>O q _ o' l rfl R e.symm
    ·have B:o'≠o:=by rintro rfl; exact gone J A
     exact .inr (by simp only[aN,if_neg e,if_neg B,A])
   ·intro q1 l X W w B;injection w with w
    subst w;rintro rfl;obtain⟨x,A⟩:=N B;exact gone J A
   ·have w:o'≠q:=by
     rintro rfl;rw[h1] at i;injection i with i
     injection i with i
     exact S i
    have B:o'≠o:=by rintro rfl; exact gone J i
    simp only[aN,if_neg w,if_neg B,i]
end
abbrev eS (l:List kJ):List (List PV):=l.map kJ.cells
def cW (kind v:Int) (n:Nat) (p:Nat→Bool):List kJ:=((aUO n).filter p).map fun (i:Nat)=>⟨kind,v,i⟩
theorem pZ (kind v:Int) (n:Nat) (p:Nat→Bool):cW kind v (n+1) p=if p n then cW kind v n p++[⟨kind,v,n⟩] else cW kind v n p:=by
 unfold cW;rw[aXV,List.filter_append,aVT];by_cases h:p n
 ·rw[if_pos h]; simp[h]
 ·rw[if_neg h]; simp[h]
theorem gT (kind v:Int) (n:Nat) (p:Nat→Bool):(cW kind v n p).length≤n:=by
 unfold cW;rw[aUN];exact aWE (List.length_filter_le _ _) (by simp)
theorem lJ (l:List kJ):(eS l).length=l.length:=by simp[eS]
theorem rA (l:List kJ) (x:kJ):eS l++[x.cells]=eS (l++[x]):=by simp[eS]
def Q6 (o5:Nat) (v:Nat):PH:=PH.nil.set o5 (.rows 1 [[.int .i64 v]])
theorem asS {C:Ctx} (o5 v:Nat) (k w:Int):FU.wp C (aU Tc.res (fun r H'=>r=.agg [.int .i64 k,.int .i64 v,.int .i64 w]∧H'=Q6 o5 v)) (PF.args [.int .i64 k,.int .i64 w,.ptr o5 1 0 0]) (Q6 o5 v):=by
 simp only[go_sem,FU,Dt,Q6];refine aO fun o d=>?_;have c:o5≠o:=by rintro rfl; simp only[aN,if_true] at d; cases d
 simp only[go_sem,Du,c];refine aX (.inr rfl) (PH.nil.set o5 (.rows 1 [[.int .i64 v]])) (vs:=[.agg [.int .i64 k,.int .i64 v,.int .i64 w]]) ?_ (e_ a_ ?_) ⟨rfl,rfl⟩
 ·simp only[go_sem,Tc]
 ·simp only[go_sem,c]
def qO (f:aD) (i:Nat) (d:Int):Bool:=decide (0≤d)&&decide (cU f d.toNat (lvl f i)=i)
def eK (f:aD) (xs:List Int) (i:Nat):Int:=if i=0 then 0 else ((xs.countP (qO f i):Nat):Int)
def dY (f:aD) (xs:List Int):List Int:=(aUO f.aTF.length).map (eK f xs)
def lP (f:aD) (xs:List Int) (d:Nat) (k:Nat):List Int:=(aUO f.aTF.length).map fun i=>if 4-(k:Int)<lvl f i then eK f (xs++[(d:Int)]) i else eK f xs i
theorem awD (f:aD) (xs:List Int) (d k:Nat):(lP f xs d k).length=f.aTF.length:=by simp[lP]
theorem wV (f:aD) (xs:List Int):(dY f xs).length=f.aTF.length:=by simp[dY]
theorem VF.kN {f:aD} (h:VF f) {i:Nat} (hi:i<f.aTF.length):0≤lvl f i∧lvl f i≤4∧(lvl f i=0↔i=0):=by
 rcases aWZ i with e | e
 ·subst e; rw[h.root.2.1]; simp
 ·have:=h.dom i e hi;omega
theorem yw {f:aD} (h:VF f) (xs:List Int) (d:Nat):lP f xs d 0=dY f xs:=by
 refine aXE (by simp[lP,dY]) fun i e c=>?_;simp only[lP,dY,aWD,List.getElem_range];have hi:i<f.aTF.length:=by simpa [dY] using c
 have:=h.kN hi;rw[if_neg Om]
theorem yv {f:aD} (h:VF f) (xs:List Int) (d:Nat):lP f xs d 4=dY f (xs++[(d:Int)]):=by
 refine aXE (by simp[lP,dY]) fun i l c=>?_;simp only[lP,dY,aWD,List.getElem_range];have hi:i<f.aTF.length:=by simpa [dY] using c
 have:=h.kN hi;by_cases e:i=0
 ·subst e;rw[if_neg Om];simp[eK]
 ·rw[if_pos Om]
theorem BW (f:aD) (xs:List Int) (d:Nat) {i:Nat} (hi:i≠0):eK f (xs++[(d:Int)]) i=eK f xs i+if cU f d (lvl f i)=i then 1 else 0:=by
 unfold eK;rw[if_neg hi,if_neg hi,aYH];by_cases h:cU f d (lvl f i)=i
 ·rw[if_pos h]; simp[qO,h]
 ·rw[if_neg h]; simp[qO,h]
theorem Ya {f:aD} (h:VF f) (xs:List Int) {d:Nat} (y:d<f.aTC.length) {k:Nat} (E:k<4) :
  (lP f xs d k)[upN f k (cQ f d)]?=some (eK f xs (upN f k (cQ f d))) ∧
  (lP f xs d k).set (upN f k (cQ f d)) (eK f xs (upN f k (cQ f d))+1)=lP f xs d (k+1):=by
 obtain⟨A,w⟩:=xH h y (k:=k) Om;constructor
 ·simp only[lP,aVN,List.getElem?_range A,aWC];rw[if_neg Om]
 ·refine aXE (by simp[lP]) fun i B x=>?_;have hi:i<f.aTF.length:=by simpa [lP] using x
  simp only[lP,List.getElem_set,aWD,List.getElem_range];have J:=h.kN hi;by_cases e:upN f k (cQ f d)=i
  ·rw[if_pos e];subst e;rw[if_pos Om];have l:upN f k (cQ f d)≠0:=by intro e; rw[e,h.root.2.1] at w; omega
   rw[BW f xs d l,cU,w];have:4-(4-(k:Int)).toNat=k:=Om;rw[this,if_pos rfl]
  ·rw[if_neg e];by_cases c:4-(k:Int)<lvl f i
   ·rw[if_pos c,if_pos Om]
   ·rw[if_neg c];by_cases p:4-((k+1:Nat):Int)<lvl f i
    ·rw[if_pos p];have u:lvl f i=4-(k:Int):=Om;have l:i≠0:=by intro e; subst e; rw[h.root.2.1] at u; omega
     rw[BW f xs d l,cU,u];have:4-(4-(k:Int)).toNat=k:=Om;rw[this,if_neg e]; simp
    ·rw[if_neg p]
theorem X9 (f:aD) (xs:List Int) (i:Nat):0≤eK f xs i∧eK f xs i≤xs.length:=by
 unfold eK;have:=List.countP_le_length (p:=qO f i) (l:=xs);split<;>omega
structure HD (C:Ctx):Prop extends anO C where
 bad:∀ (o5 v:Nat) (k w:Int),aH C 159 [.int .i64 k,.int .i64 w,.ptr o5 1 0 0] (Q6 o5 v) (fun r H'=>r=.agg [.int .i64 k,.int .i64 v,.int .i64 w]∧H'=Q6 o5 v)
structure Obs where
 o5:Nat
 o7:Nat
 o8:Nat
 oD:Nat
 oB:Nat
structure Obs.Ne (o:Obs):Prop where
 a1:o.o5≠o.oD
 a2:o.o5≠o.oB
 a3:o.o7≠o.oD
 a4:o.o7≠o.oB
 a5:o.o8≠o.oD
 a6:o.o8≠o.oB
 a7:o.oD≠o.oB
structure kS (H:PH) (o:Obs) (v:Nat) (p:bT) (A:List Bool) (D B:List Int):Prop where
 h5:H o.o5=some (.rows 1 [[.int .i64 v]])
 h7:H o.o7=some (.rows 17 [p.cells])
 h8:H o.o8=some (.rows 1 (cY A))
 hD:H o.oD=some (.rows 1 (aW D))
 hB:H o.oB=some (.rows 1 (aW B))
theorem kS.keep {H H':PH} {o:Obs} {v:Nat} {p:bT} {A:List Bool} {D B:List Int} (h:kS H o v p A D B) (c:∀ q s' z,3≠s'→H q=some (.rows s' z)→H' q=some (.rows s' z)):kS H' o v p A D B :=
 ⟨c _ _ _ (by decide) h.h5,c _ _ _ (by decide) h.h7,c _ _ _ (by decide) h.h8,c _ _ _ (by decide) h.hD,c _ _ _ (by decide) h.hB⟩
theorem kS.aQV {H:PH} {o:Obs} {v:Nat} {p:bT} {A:List Bool} {D B:List Int} (h:kS H o v p A D B) (c:o.Ne) (B':List Int):kS (H.set o.oB (.rows 1 (aW B'))) o v p A D B' :=
 ⟨by simp only[aN,if_neg c.a2,h.h5],by simp only[aN,if_neg c.a4,h.h7],by simp only[aN,if_neg c.a6,h.h8],by simp only[aN,if_neg c.a7,h.hD],by simp only[aN,if_true]⟩
theorem kS.aQW {H:PH} {o:Obs} {v:Nat} {p:bT} {A:List Bool} {D B:List Int} (h:kS H o v p A D B) (c:o.Ne) (d:List Int):kS (H.set o.oD (.rows 1 (aW d))) o v p A d B :=
 ⟨by simp only[aN,if_neg c.a1,h.h5],by simp only[aN,if_neg c.a3,h.h7],by simp only[aN,if_neg c.a5,h.h8],by simp only[aN,if_true],by simp only[aN,if_neg (Ne.symm c.a7),h.hB]⟩
def lG (f:aD) (o:Obs) (c d:PV) (row:List Int) (k:Nat):PF :=
 ((((((((((((PF.nil.set 3 (.bL f.cells)).set 5 (.ptr o.o5 1 0 0)).set 7 (.ptr o.o7 17 0 0)).set 8 (.osl o.o8 1 0 f.aTD.length)).set 11 (.fn 159 [.ptr o.o5 1 0 0])).set 12 (c)).set 13 (d)).set 14 (.osl o.oD 1 0 f.aTC.length)).set 15 (.osl o.oB 1 0 f.aTF.length)).set 62 (ints row)).set 63 (.int .i64 (row.length:Nat))).set 64 (.int .i64 k))
def alH (f:aD) (o:Obs) (c d:PV) (row:List Int) (k:Nat) (at_:Nat):PF :=
 (((((((((((((PF.nil.set 3 (.bL f.cells)).set 5 (.ptr o.o5 1 0 0)).set 7 (.ptr o.o7 17 0 0)).set 8 (.osl o.o8 1 0 f.aTD.length)).set 11 (.fn 159 [.ptr o.o5 1 0 0])).set 12 (c)).set 13 (d)).set 14 (.osl o.oD 1 0 f.aTC.length)).set 15 (.osl o.oB 1 0 f.aTF.length)).set 62 (ints row)).set 63 (.int .i64 (row.length:Nat))).set 64 (.int .i64 k)).set 18 (.int .i64 at_))
theorem aKY {C:Ctx} (f:aD) (hV:VF f) (o:Obs) (Z:o.Ne) (v:Nat) (p:bT) (A:List Bool) (D:List Int) (c i:PV) (l u:List (List PV)) (row:List Int) (k:Nat) (xs:List Int) (β:xs.length≤16777216) (d:Nat) (S:d<f.aTC.length) (K:bR) (F:PF) (H:PH)
  (V:(alH f o c i row k (cQ f d)).le F) (W:kS H o v p A D (dY f xs)) (E:bE H 3 c l) (J:bE H 3 i u)
  (X:∀ R H',(lG f o c i row k).le R→kS H' o v p A D (dY f (xs++[(d:Int)]))→bE H' 3 c l→bE H' 3 i u→K .normal R H') :
  aC.wp C (.block 4 (.loop DD)) K F H:=by
 simp only[go_sem];refine wp_loop (α:=Nat × PH) (fun t=>alH f o c i row k (upN f t.1 (cQ f d))) (fun t=>t.2) (fun t=>t.1≤4∧kS t.2 o v p A D (lP f xs d t.1)∧bE t.2 3 c l∧bE t.2 3 i u) (fun t=>4-t.1) (0,H) ⟨aUT _,by rw[yw hV]; exact W,E,J⟩ (by rw[upN]; exact V) b_ ?_;rintro⟨j,H0⟩ ⟨U,y,w,x⟩;simp only at U y w x ⊢;obtain⟨B,u2⟩:=xH hV S (k:=j) U;simp only[go_sem,DD,D0,alH];by_cases hlt:j<4
 ·have Q:0<upN f j (cQ f d):=by
   rcases aWZ (upN f j (cQ f d)) with e | e
   ·rw[e,hV.root.2.1] at u2; omega
   ·exact e
  have N:((upN f j (cQ f d):Nat):Int)>0:=Om;obtain⟨b1,b2⟩:=Ya hV xs S hlt;have M:(aW (lP f xs d j))[upN f j (cQ f d)]?=some [.int .i64 (eK f xs (upN f j (cQ f d)))]:=by unfold aW; rw[aVN,b1]; rfl
  have Y:=X9 f xs (upN f j (cQ f d));have hw:IntKind.i64.wrap (eK f xs (upN f j (cQ f d))+1)=eK f xs (upN f j (cQ f d))+1:=wrap_i64 Om Om;have O:((upN f j (cQ f d):Nat):Int)<(f.aTF.length:Nat):=Om;simp only[go_sem,N,D1,O,aVH,y.hB,M,hw,mU,b2,D2,gE B,TV B,hV.WS Q B];refine aG (j+1,_) ⟨hlt,y.aQV Z _,w.set y.hB (by decide),x.set y.hB (by decide)⟩ (by simp only; omega) ?_ b_
  (repeat' (first|exact d_|refine c_ ?_ ?_))<;>first|(simp only[go_sem,upN]<;>rfl)|rfl
 ·have:j=4:=Om;subst this;have h0:upN f 4 (cQ f d)=0:=by have:=hV.kN B;omega
  have N:¬ ((upN f 4 (cQ f d):Nat):Int)>0:=Om;simp only[go_sem,N];rw[yv hV] at y;refine X _ _ ?_ y w x;unfold lG;exact Lq
structure G7 (f:aD) (row:List Int):Prop where
 len:row.length≤16777216
 at_:∀ x∈row,-1≤x∧x<(f.aTC.length:Nat)
def home (row:List Int) (i:Nat):Bool:=decide (row.getD i 0<0)
def eG (f:aD) (p:bT) (row:List Int) (i:Nat):Bool:=decide (0≤row.getD i 0)&&!p.aTD.contains ((mdl f (row.getD i 0).toNat:Nat):Int)
theorem aoN (f:aD) (xs:List Int) {x:Int} (h:x<0):dY f (xs++[x])=dY f xs:=by
 refine aXE (by simp[dY]) fun i c d=>?_;simp only[dY,aWD,List.getElem_range,eK,aYH];have:qO f i x=false:=by simp[qO]; omega
 simp[this]
theorem aAL {C:Ctx} (L:HD C) (f:aD) (hV:VF f) (o:Obs) (hn:o.Ne) (v:Nat) (p:bT) (hp:∀ m∈p.aTD,0≤m∧m<f.aTD.length) (row:List Int) (hr:G7 f row) (K:bR) (F:PF) (H:PH)
  (V:(lG f o .aB .aB row 0).le F) (hH:kS H o v p (marks f.aTD.length p.aTD) (dU f.aTC.length []) (dY f []))
  (hK:∀ y E F' H',(lG f o y E row row.length).le F'→kS H' o v p (marks f.aTD.length p.aTD) (dU f.aTC.length row) (dY f row)→bE H' 3 y (eS (cW 2 v row.length (home row)))→bE H' 3 E (eS (cW 4 v row.length (eG f p row)))→Dis 3 y E→K (.exit 2) F' H') :
  aC.wp C (.loop sZ) K F H:=by
 obtain⟨σ,ξ⟩:=hr;refine wp_loop (α:=Nat × PV × PV × PH) (fun t=>lG f o t.2.1 t.2.2.1 row t.1) (fun t=>t.2.2.2)
  (fun t=>t.1≤row.length∧kS t.2.2.2 o v p (marks f.aTD.length p.aTD) (dU f.aTC.length (row.take t.1)) (dY f (row.take t.1))∧bE t.2.2.2 3 t.2.1 (eS (cW 2 v t.1 (home row)))∧bE t.2.2.2 3 t.2.2.1 (eS (cW 4 v t.1 (eG f p row)))∧Dis 3 t.2.1 t.2.2.1)
  (fun t=>row.length-t.1) (0,.aB,.aB,H) ⟨aUT _,by rw[aXW]; exact hH,.nil,.nil,.nil⟩ V b_ ?_
 rintro⟨k,y,E,H0⟩ ⟨hk,M,N,O,hd⟩;simp only at hk M N O hd ⊢;by_cases hlt:k<row.length
 ·have A:(k:Int)<(row.length:Nat):=Om;have X:(row.map fun n=>[PV.int .i64 n])[k]?=some [.int .i64 row[k]]:=by simp[hlt]
  have hg:row.getD k 0=row[k]:=by simp[aUY,hlt]
  have ζ:row.take (k+1)=row.take k++[row[k]]:=aWN hlt;have hx:=ξ row[k] (aUQ hlt);have e2:=pZ 2 v k (home row);have Y:=pZ 4 v k (eG f p row);have hh:home row k=decide (row[k]<0):=by rw[home,hg]
  have Z:eG f p row k=(decide (0≤row[k])&&!p.aTD.contains ((mdl f (row[k]).toNat:Nat):Int)):=by rw[eG,hg]
  have l2:=gT 2 v k (home row);have l4:=gT 4 v k (eG f p row);have fin:∀ B e (F:PF) (J:PH),(lG f o B e row (k+1)).le F→kS J o v p (marks f.aTD.length p.aTD) (dU f.aTC.length (row.take (k+1))) (dY f (row.take (k+1)))→bE J 3 B (eS (cW 2 v (k+1) (home row)))→bE J 3 e (eS (cW 4 v (k+1) (eG f p row)))→Dis 3 B e →
    eY (fun (t:Nat × PV × PV × PH)=>lG f o t.2.1 t.2.2.1 row t.1) (fun t=>t.2.2.2)
     (fun t=>t.1≤row.length∧kS t.2.2.2 o v p (marks f.aTD.length p.aTD) (dU f.aTC.length (row.take t.1)) (dY f (row.take t.1))∧bE t.2.2.2 3 t.2.1 (eS (cW 2 v t.1 (home row)))∧bE t.2.2.2 3 t.2.2.1 (eS (cW 4 v t.1 (eG f p row)))∧Dis 3 t.2.1 t.2.2.1)
     (fun t=>row.length-t.1) (row.length-k) K .normal F J :=
   fun B e F J V M h1 h2 h3=>aG (α:=Nat × PV × PV × PH) (k+1,B,e,J) ⟨hlt,M,h1,h2,h3⟩ (by simp only; omega) V b_
  generalize τ:row[k]=x at *
  by_cases c:x<0
  ·have o1:=AK (n:=f.aTC.length) (row.take k) (x:=x) Om;have o2:=aoN f (row.take k) c;rw[ζ,o1,o2] at fin;rw[if_pos (by rw[hh]; simp[c])] at e2;rw[if_neg (by rw[Z]; simp; omega)] at Y;rw[e2,Y] at fin;simp only[go_sem,sZ,xG,lG,A,DE,X,DF,c,Dy];refine uP (vs:=[.int .i64 2,.int .i64 k]) (L.bad o.o5 v 2 k) Sq (e_ a_ M.h5) ?_;have Q:(1:Nat)*3≤16777216:=by decide
   simp only[go_sem,Q];refine mO (src:=[(⟨2,v,k⟩:kJ).cells]) N O hd Sq (by unfold roomFor; rw[lJ]; simp only[aUX,maxLen]; omega) fun v' H' g1 g2 g3 g4=>?_;rw[rA] at g1;unfold lG at fin;simp only[go_sem,DG,wZz k];exact fin v' E _ H' Lq (M.keep g4) g1 g2 g3
  ·obtain⟨d,rfl⟩:∃ d:Nat,x=d:=⟨x.toNat,by omega⟩;have w:d<f.aTC.length:=Om;have ε:(d:Int)<(f.aTC.length:Nat):=Om;obtain⟨w1,w2,w3,w4,w5⟩:=hV.drive d w;have c0:(0:Int)≤(d:Int):=Om;rw[if_neg (by rw[hh]; simp)] at e2;rw[decide_eq_true c0,aVA,aWK] at Z;have ρ:(row.take k).count (d:Int)≤16777216:=aWE (List.count_le_length ..) (by rw[aVJ]; omega);have hw:IntKind.i64.wrap ((((row.take k).count (d:Int):Nat):Int)+1)=(((row.take k).count (d:Int):Nat):Int)+1:=wrap_i64 Om Om;have U:=vI (l:=dU f.aTC.length (row.take k)) (i:=d) (by rw[jA]; exact w);rw[tp _ w] at U;have δ:=tq (row.take k) w;have ο:(row.take k).length≤16777216:=by rw[aVJ]; omega
   rw[e2,ζ] at fin;have tail:∀ e (F:PF) (J:PH),(lG f o y e row k).le F→F 17=some (.int .i64 d)→kS J o v p (marks f.aTD.length p.aTD) (dU f.aTC.length (row.take k)) (dY f (row.take k))→bE J 3 y (eS (cW 2 v k (home row)))→bE J 3 e (eS (cW 4 v (k+1) (eG f p row)))→Dis 3 y e →
     aC.wp C (.seq (.region US) (.seq (.region UT) (.block 4 (.loop DD)))) (eQ 3 (gD C (aC.wp C (.region DG)) (eY (fun (t:Nat × PV × PV × PH)=>lG f o t.2.1 t.2.2.1 row t.1) (fun t=>t.2.2.2)
     (fun t=>t.1≤row.length∧kS t.2.2.2 o v p (marks f.aTD.length p.aTD) (dU f.aTC.length (row.take t.1)) (dY f (row.take t.1))∧bE t.2.2.2 3 t.2.1 (eS (cW 2 v t.1 (home row)))∧bE t.2.2.2 3 t.2.2.1 (eS (cW 4 v t.1 (eG f p row)))∧Dis 3 t.2.1 t.2.2.1)
     (fun t=>row.length-t.1) (row.length-k) K))) F J:=by
    intro e F J V η R ι κ gd;have f3:F 3=some (.bL f.cells):=V 3 _ (by unfold lG; simp only[go_sem]);have f14:F 14=some (.osl o.oD 1 0 f.aTC.length):=V 14 _ (by unfold lG; simp only[go_sem]);simp only[go_sem,US,f14,η,ε,aVH,R.hD,U,hw,mU,δ,UT,f3,mR w,hV.WN w];have up:=aKY (C:=C) f hV o hn v p (marks f.aTD.length p.aTD) (dU f.aTC.length (row.take k++[(d:Int)])) y e (eS (cW 2 v k (home row))) (eS (cW 4 v (k+1) (eG f p row))) row k (row.take k) ο d w;simp only[aC.wp,go_sem] at up;refine up _ _ _ ?_ (R.aQW hn _) (ι.set R.hD (by decide)) (κ.set R.hD (by decide)) ?_
    ·have g:=fun (q:Nat) u h=>V q u h;unfold lG at g;unfold alH;refine c_ (c_ (c_ (c_ (c_ (c_ (c_ (c_ (c_ (c_ (c_ (c_ (c_ d_ ?_) ?_) ?_) ?_) ?_) ?_) ?_) ?_) ?_) ?_) ?_) ?_) ?_
     ·simp only[go_sem]; exact g 3 _ Sq
     ·simp only[go_sem]; exact g 5 _ Sq
     ·simp only[go_sem]; exact g 7 _ Sq
     ·simp only[go_sem]; exact g 8 _ Sq
     ·simp only[go_sem]; exact g 11 _ Sq
     ·simp only[go_sem]; exact g 12 _ Sq
     ·simp only[go_sem]; exact g 13 _ Sq
     ·simp only[go_sem]; exact g 14 _ Sq
     ·simp only[go_sem]; exact g 15 _ Sq
     ·simp only[go_sem]; exact g 62 _ Sq
     ·simp only[go_sem]; exact g 63 _ Sq
     ·simp only[go_sem]; exact g 64 _ Sq
     ·simp only[go_sem]
    ·intro F' H' μ ν β γ;have g:=fun (q:Nat) u h=>μ q u h;unfold lG at g;have θ:F' 64=some (.int .i64 k):=g 64 _ Sq;simp only[go_sem,DG,θ,wZz k];refine fin y e _ H' ?_ ν β γ gd;unfold lG;refine c_ (c_ (c_ (c_ (c_ (c_ (c_ (c_ (c_ (c_ (c_ (c_ d_ ?_) ?_) ?_) ?_) ?_) ?_) ?_) ?_) ?_) ?_) ?_) ?_
     ·simp only[go_sem]; exact g 3 _ Sq
     ·simp only[go_sem]; exact g 5 _ Sq
     ·simp only[go_sem]; exact g 7 _ Sq
     ·simp only[go_sem]; exact g 8 _ Sq
     ·simp only[go_sem]; exact g 11 _ Sq
     ·simp only[go_sem]; exact g 12 _ Sq
     ·simp only[go_sem]; exact g 13 _ Sq
     ·simp only[go_sem]; exact g 14 _ Sq
     ·simp only[go_sem]; exact g 15 _ Sq
     ·simp only[go_sem]; exact g 62 _ Sq
     ·simp only[go_sem]; exact g 63 _ Sq
     ·simp only[go_sem]
   simp only[aC.wp,go_sem] at tail;have W:((mdl f d:Nat):Int)<(f.aTD.length:Nat):=Om;have S:(cY (marks f.aTD.length p.aTD))[mdl f d]?=some [.bool (p.aTD.contains ((mdl f d:Nat):Int))]:=by have:=sH (n:=f.aTD.length) (l:=p.aTD) (m:=((mdl f d:Nat):Int)) Om W;rw[aWK] at this;unfold cY;rw[aVN,this]; rfl
   cases hb:p.aTD.contains ((mdl f d:Nat):Int) with
   | true =>rw[hb] at S Z;rw[if_neg (by rw[Z]; simp)] at Y;rw[Y] at tail;simp only[go_sem,sZ,xG,lG,A,DE,X,DF,c,UR,mR w,hV.SP w,W,aVH,M.h8,S,aUW];exact tail E _ H0 (by unfold lG; exact Lq) Sq M N O hd
   | false =>
    rw[hb] at S Z;rw[if_pos (by rw[Z]; simp)] at Y;rw[Y] at tail;simp only[go_sem,sZ,xG,lG,A,DE,X,DF,c,UR,mR w,hV.SP w,W,aVH,M.h8,S,aVG,Dz];refine uP (vs:=[.int .i64 4,.int .i64 k]) (L.bad o.o5 v 4 k) Sq (e_ a_ M.h5) ?_;have Q:(1:Nat)*3≤16777216:=by decide
    simp only[go_sem,Q];refine mO (src:=[(⟨4,v,k⟩:kJ).cells]) O N hd.symm Sq (by unfold roomFor; rw[lJ]; simp only[aUX,maxLen]; omega) fun v' H' g1 g2 g3 g4=>?_;rw[rA] at g1;exact tail v' _ H' (by unfold lG; exact Lq) Sq (M.keep g4) g2 g1 g3.symm
 ·have A:¬ (k:Int)<(row.length:Nat):=Om;have:k=row.length:=Om;subst this;rw[aVP] at M;simp only[go_sem,sZ,xG,lG,A];exact hK y E _ _ (by unfold lG; exact Lq) M N O hd
def nI (f:aD) (row:List Int) (d:Nat):Bool:=decide ((dU f.aTC.length row).getD d 0>1)
def dN (f:aD) (p:bT) (i:Nat):Int:=p.spread (lvl f i).toNat
def qI (f:aD) (p:bT) (row:List Int) (i:Nat):Bool:=decide (dN f p i>0)&&decide ((dY f row).getD i 0>dN f p i)
def qA (f:aD) (p:bT) (v:Nat) (row:List Int):List kJ :=
 cW 2 v row.length (home row)++cW 3 v f.aTC.length (nI f row)++cW 4 v row.length (eG f p row)++cW 5 v f.aTF.length (qI f p row)
def NC (f:aD) (o:Obs) (c d:PV) (k:Nat):PF :=
 ((((((((((PF.nil.set 3 (.bL f.cells)).set 5 (.ptr o.o5 1 0 0)).set 7 (.ptr o.o7 17 0 0)).set 11 (.fn 159 [.ptr o.o5 1 0 0])).set 13 (c)).set 15 (.osl o.oB 1 0 f.aTF.length)).set 19 (d)).set 121 (.osl o.oD 1 0 f.aTC.length)).set 122 (.int .i64 (f.aTC.length:Nat))).set 123 (.int .i64 k))
def Hd (f:aD) (o:Obs) (c:PV) (k:Nat):PF :=
 ((((((((PF.nil.set 3 (.bL f.cells)).set 5 (.ptr o.o5 1 0 0)).set 7 (.ptr o.o7 17 0 0)).set 11 (.fn 159 [.ptr o.o5 1 0 0])).set 19 (c)).set 140 (.osl o.oB 1 0 f.aTF.length)).set 141 (.int .i64 (f.aTF.length:Nat))).set 142 (.int .i64 k))
theorem arQ {C:Ctx} (L:HD C) (f:aD) (hV:VF f) (o:Obs) (v:Nat) (p:bT) (A:List Bool) (B:List Int) (row:List Int) (O:List kJ) (β:O.length≤16777216) (d x:PV) (y:List (List PV)) (K:bR) (F:PF) (H:PH)
  (Y:(NC f o d x 0).le F) (Z:kS H o v p A (dU f.aTC.length row) B) (R:bE H 3 x (eS O)) (Q:bE H 3 d y) (hd:Dis 3 x d)
  (hK:∀ v' V H',(NC f o d v' f.aTC.length).le V→kS H' o v p A (dU f.aTC.length row) B→bE H' 3 v' (eS (O++cW 3 v f.aTC.length (nI f row)))→bE H' 3 d y→Dis 3 v' d→K (.exit 6) V H') :
  aC.wp C (.loop UP) K F H:=by
 have hs:=hV.small.aTC;refine wp_loop (α:=Nat × PV × PH) (fun t=>NC f o d t.2.1 t.1) (fun t=>t.2.2) (fun t=>t.1≤f.aTC.length∧kS t.2.2 o v p A (dU f.aTC.length row) B∧bE t.2.2 3 t.2.1 (eS (O++cW 3 v t.1 (nI f row)))∧bE t.2.2 3 d y∧Dis 3 t.2.1 d) (fun t=>f.aTC.length-t.1) (0,x,H)
  ⟨aUT _,Z,by rw[show cW 3 v 0 (nI f row)=[] from rfl,aWF]; exact R,Q,hd⟩ Y b_ ?_
 rintro⟨k,v',X⟩ ⟨hk,E,e,w,N⟩;simp only at hk E e w N ⊢;simp only[go_sem,UP,D5,NC];by_cases hlt:k<f.aTC.length
 ·have u:(k:Int)<(f.aTC.length:Nat):=Om;have S:=vI (l:=dU f.aTC.length row) (i:=k) (by rw[jA]; exact hlt);have U:(dU f.aTC.length row).getD k 0=(dU f.aTC.length row)[k]'(by rw[jA]; exact hlt):=by rw[aUY,aVB (by rw[jA]; exact hlt)]; rfl
  have M:=pZ 3 v k (nI f row);have W:nI f row k=decide ((dU f.aTC.length row)[k]'(by rw[jA]; exact hlt)>1):=by rw[nI,U]
  have γ:=gT 3 v k (nI f row);simp only[go_sem,u,D6,aVH,E.hD,S,D7];by_cases c:(dU f.aTC.length row)[k]'(by rw[jA]; exact hlt)>1
  ·rw[if_pos (by rw[W]; simp[c])] at M;simp only[go_sem,c,D8];refine uP (vs:=[.int .i64 3,.int .i64 k]) (L.bad o.o5 v 3 k) Sq (e_ a_ E.h5) ?_;have J:(1:Nat)*3≤16777216:=by decide
   simp only[go_sem,J];refine mO (src:=[(⟨3,v,k⟩:kJ).cells]) e w N Sq (by unfold roomFor; rw[lJ,aUS]; simp only[aUX,maxLen]; omega) fun v' H' k1 k2 k3 k4=>?_;rw[rA,aVS,← M] at k1;simp only[go_sem,UU,wZz k];refine aG (k+1,v',H') ⟨hlt,E.keep k4,k1,k2,k3⟩ (by simp only; omega) ?_ b_;exact Lq
  ·rw[if_neg (by rw[W]; simp; omega)] at M;rw[← M] at e;simp only[go_sem,c,UU,wZz k];refine aG (k+1,v',X) ⟨hlt,E,e,w,N⟩ (by simp only; omega) ?_ b_;exact Lq
 ·have u:¬ (k:Int)<(f.aTC.length:Nat):=Om;have:k=f.aTC.length:=Om;subst this;simp only[go_sem,u];exact hK v' _ _ (by unfold NC; exact Lq) E e w N
theorem alI {C:Ctx} (f:aD) (hV:VF f) (o:Obs) (v:Nat) (p:bT) (A:List Bool) (D B:List Int) (i:Nat) (hi:i<f.aTF.length) (K:PF→PH→Prop) (F:PF) (H:PH)
  (w:kS H o v p A D B) (u:F 3=some (.bL f.cells)) (f7:F 7=some (.ptr o.o7 17 0 0)) (d:F 22=some (.int .i64 i))
  (l:∀ c:PF,c 24=some (.int .i64 (dN f p i))→(∀ j,j<147→j≠24→c j=F j)→K c H):wpOps C UV K F H:=by
 obtain⟨E,W,-⟩:=hV.kN hi;have h5:((lvl f i)<((5:Nat):Int)):=Om;unfold dN at l;simp only[go_sem,UV,u,f7,d,gE hi,HN hi,E,h5,Nat.mul_one];have x:lvl f i=0∨lvl f i=1∨lvl f i=2∨lvl f i=3∨lvl f i=4:=Om;have fin:∀ (c:PF),c 24=some (.int .i64 (p.spread (lvl f i).toNat))→(∀ j,j<147→j≠24→c j=F j)→K c H:=l;have low:∀ (j:Nat),j<147→j≠147∧j≠148∧j≠149∧j≠150∧j≠151∧j≠152∧j≠153∧j≠154∧j≠155:=Om;rcases x with h | h | h | h | h
 all_goals
  rw[h] at fin ⊢;simp only[go_sem,w.h7];refine fin _ (by simp only[go_sem]; rfl) fun j y e=>?_;obtain⟨J,M,N,O,Q,R,S,U,V⟩:=low j y;simp only[go_sem,e,J,M,N,O,Q,R,S,U,V]
theorem arP {C:Ctx} (L:HD C) (f:aD) (hV:VF f) (o:Obs) (v:Nat) (p:bT) (A:List Bool) (D:List Int) (row:List Int) (V:List kJ) (ζ:V.length≤100000000) (N:PV) (K:bR) (F:PF) (H:PH)
  (hF:(Hd f o N 0).le F) (hH:kS H o v p A D (dY f row)) (γ:bE H 3 N (eS V))
  (hK:∀ v' Z H',Z 19=some v'→bE H' 3 v' (eS (V++cW 5 v f.aTF.length (qI f p row)))→K (.exit 8) Z H') :
  aC.wp C (.loop UQ) K F H:=by
 have hs:=hV.small.aTF;refine wp_loop (α:=Nat × PV × PH) (fun t=>Hd f o t.2.1 t.1) (fun t=>t.2.2) (fun t=>t.1≤f.aTF.length∧kS t.2.2 o v p A D (dY f row)∧bE t.2.2 3 t.2.1 (eS (V++cW 5 v t.1 (qI f p row)))) (fun t=>f.aTF.length-t.1) (0,N,H)
  ⟨aUT _,hH,by rw[show cW 5 v 0 (qI f p row)=[] from rfl,aWF]; exact γ⟩ hF b_ ?_
 rintro⟨k,v',H0⟩ ⟨hk,M,c⟩;simp only at hk M c ⊢;simp only[go_sem,UQ,Eb,Hd];by_cases hlt:k<f.aTF.length
 ·have x:(k:Int)<(f.aTF.length:Nat):=Om;have δ:=vI (l:=dY f row) (i:=k) (by rw[wV]; exact hlt);have ε:(dY f row).getD k 0=(dY f row)[k]'(by rw[wV]; exact hlt):=by rw[aUY,aVB (by rw[wV]; exact hlt)]; rfl
  have O:=pZ 5 v k (qI f p row);have η:=gT 5 v k (qI f p row);have ht:qI f p row k=(decide (dN f p k>0)&&decide ((dY f row)[k]'(by rw[wV]; exact hlt)>dN f p k)):=by rw[qI,ε]
  generalize (dY f row)[k]'(by rw[wV]; exact hlt)=β at *
  simp only[go_sem,x,Ec,aVH,M.hB,δ];refine alI f hV o v p A D (dY f row) k hlt _ _ _ M Sq Sq Sq fun Z J Q=>?_;have g:=fun (q:Nat) (h1:q<147) (h2:q≠24)=>Q q h1 h2;have W:=g 3 (by decide) (by decide);have X:=g 5 (by decide) (by decide);have Y:=g 7 (by decide) (by decide);have y:=g 11 (by decide) (by decide);have B:=g 19 (by decide) (by decide);have d:=g 140 (by decide) (by decide);have e:=g 141 (by decide) (by decide);have w:=g 142 (by decide) (by decide);have S:=g 22 (by decide) (by decide);have E:=g 23 (by decide) (by decide);simp only[go_sem,Nat.reduceEqDiff,reduceIte] at W X Y y B d e w S E;by_cases U:dN f p k>0
  ·by_cases c2:β>dN f p k
   ·rw[if_pos (by rw[ht]; simp[U,c2])] at O;simp only[go_sem,DH,J,E,U,c2,Ed,B,y,S];refine uP (vs:=[.int .i64 5,.int .i64 k]) (L.bad o.o5 v 5 k) Sq (e_ a_ M.h5) ?_;have R:(1:Nat)*3≤16777216:=by decide
    simp only[go_sem,R];refine mO (rows':=[]) (u:=.aB) (src:=[(⟨5,v,k⟩:kJ).cells]) c .nil (fun _ _ _ _ _ h=>by cases h) Sq (by unfold roomFor; rw[lJ,aUS]; simp only[aUX,maxLen]; omega) fun v' H' k1 k2 k3 k4=>?_;rw[rA,aVS,← O] at k1;simp only[go_sem,DI,w,wZz k];refine aG (k+1,v',H') ⟨hlt,M.keep k4,k1⟩ (by simp only; omega) ?_ b_
    (repeat' (first|exact d_|refine c_ ?_ ?_))<;>first|(simp only[go_sem,W,X,Y,y,d,e]<;>rfl)|rfl
   ·rw[if_neg (by rw[ht]; simp; omega)] at O;rw[← O] at c;simp only[go_sem,DH,J,E,U,c2,DI,w,wZz k];refine aG (k+1,v',H0) ⟨hlt,M,c⟩ (by simp only; omega) ?_ b_
    (repeat' (first|exact d_|refine c_ ?_ ?_))<;>first|(simp only[go_sem,W,X,Y,y,B,d,e]<;>rfl)|rfl
  ·rw[if_neg (by rw[ht]; simp; omega)] at O;rw[← O] at c;simp only[go_sem,DH,J,E,U,DI,w,wZz k];refine aG (k+1,v',H0) ⟨hlt,M,c⟩ (by simp only; omega) ?_ b_
   (repeat' (first|exact d_|refine c_ ?_ ?_))<;>first|(simp only[go_sem,W,X,Y,y,B,d,e]<;>rfl)|rfl
 ·have x:¬ (k:Int)<(f.aTF.length:Nat):=Om;have:k=f.aTF.length:=Om;subst this;simp only[go_sem,x];exact hK v' _ _ Sq c
theorem AG (n:Nat):aUR n [PV.bool false]=cY (marks n []):=by rw[Ad]; simp[cY]
theorem anF (n:Nat):aUR n [PV.int .i64 0]=aW (dU n []):=by rw[ai,oV]
theorem Fw (f:aD):aUR f.aTF.length [PV.int .i64 0]=aW (dY f []):=by
 have:dY f []=aUR f.aTF.length 0:=by refine aXE (by simp[dY]) fun i c d=>?_;simp[dY,eK]
 rw[this,oV]
def alG (f:aD) (l:List (List Int)) (o5 o7 o8:Nat) (ms:List Int) (k:Nat):PF :=
 ((((((((PF.nil.set 1 (lay l)).set 3 (.bL f.cells)).set 5 (.ptr o5 1 0 0)).set 7 (.ptr o7 17 0 0)).set 8 (.osl o8 1 0 f.aTD.length)).set 40 (ints ms)).set 41 (.int .i64 (ms.length:Nat))).set 42 (.int .i64 k))
theorem aBJ {C:Ctx} (L:HD C) (f:aD) (hV:VF f) (O:∀ p∈f.aTG,Fits p.aTD) (l:List (List Int)) (v:Nat) (hv:v<l.length) (B:v<f.aTE.length) (hr:G7 f l[v]) :
  NW.wp C (aU aDW.res (bX (amO (qA f (eZ f v) v l[v])))) (PF.args [.agg f.cells,lay l,.int .i64 v]) .nil:=by
 obtain⟨hp,he⟩:=oN hV B;have y:=hV.aTO _ (aUQ hp);have ρ:=O _ (aUQ hp);rw[he] at y ρ;generalize Λ:eZ f v=p at *
 have Q:=y.2.2.2.2.2.2.2;have R:(l.map fun r=>[ints r])[v]?=some [ints l[v]]:=by simp[hv]
 generalize l[v]=row at *
 have A:=hV.small;have μ:(f.aTD.length:Int)*((1:Nat):Int)≤140737488355328:=by have:=A.aTD; omega
 have ν:(f.aTD.length:Int)≤9223372036854775807:=by have:=A.aTD; omega
 have J:(f.aTC.length:Int)*((8:Nat):Int)≤140737488355328:=by have:=A.aTC; omega
 have K:(f.aTC.length:Int)≤9223372036854775807:=by have:=A.aTC; omega
 have M:(f.aTF.length:Int)*((8:Nat):Int)≤140737488355328:=by have:=A.aTF; omega
 have N:(f.aTF.length:Int)≤9223372036854775807:=by have:=A.aTF; omega
 simp only[go_sem,NW,Te];refine aO fun o5 h5=>?_;simp only[go_sem];refine bS (PH.nil.set o5 (.rows 1 [[.int .i64 v]])) dT (e_ a_ Sq) ?_;simp only[go_sem,Tf,OR B,hV.Rj B,wJ hp,he];refine aO fun o7 h7=>?_;have c:o5≠o7:=by rintro rfl; simp only[aN,if_true] at h7; cases h7
 simp only[go_sem,c];refine⟨e_ a_ (by simp only[go_sem,c]),?_⟩;simp only[go_sem,Tg,aUN,μ,ν];refine aO fun o8 h8=>?_;have d:o5≠o8:=by rintro rfl; simp only[aN,c,if_true,if_false] at h8; cases h8
 have e:o7≠o8:=by rintro rfl; simp only[aN,if_true] at h8; cases h8
 simp only[go_sem,Th,e,aUN];rw[AG];refine wp_loop (α:=Nat) (fun k=>alG f l o5 o7 o8 p.aTD k) (fun k=>((PH.nil.set o5 (.rows 1 [[.int .i64 v]])).set o7 (.rows 17 [p.cells])).set o8 (.rows 1 (cY (marks f.aTD.length (p.aTD.take k))))) (fun k=>k≤p.aTD.length) (fun k=>p.aTD.length-k) 0 (aUT _) ?_ ?_ ?_
 ·unfold alG
  (repeat' (first|exact d_|refine c_ ?_ ?_))<;>first|(simp only[go_sem,aUN]<;>rfl)|rfl
 ·refine e_ (e_ (e_ a_ ?_) ?_) ?_
  ·simp only[go_sem,c,d]
  ·simp only[go_sem,e]
  ·simp only[go_sem,aXW]
 intro k hk;simp only[go_sem,Td,Ti,alG];by_cases hlt:k<p.aTD.length
 ·have i:(k:Int)<(p.aTD.length:Nat):=Om;have ο:(p.aTD.map fun n=>[PV.int .i64 n])[k]?=some [.int .i64 p.aTD[k]]:=by simp[hlt]
  obtain⟨m1,m2⟩:=Q _ (aUQ hlt);have Θ:(p.aTD[k]).toNat<(cY (marks f.aTD.length (p.aTD.take k))).length:=by rw[wR,CN]; omega
  have ξ:(cY (marks f.aTD.length (p.aTD.take k)))[(p.aTD[k]).toNat]?=some [.bool ((p.aTD.take k).contains p.aTD[k])]:=by unfold cY;rw[aVN,sH m1 m2]; rfl
  simp only[go_sem,i,Tj,ο,Tk,m1,m2,aVH,ξ,jV,CO m1 m2,Tl,wZz k];refine aG (k+1) hlt Om ?_ ?_
  ·exact Lq
  ·rw[aWN hlt];refine e_ (e_ (e_ a_ ?_) ?_) ?_
   ·simp only[go_sem,c,d]
   ·simp only[go_sem,e]
   ·simp only[go_sem]
 ·have i:¬ (k:Int)<(p.aTD.length:Nat):=Om;have:k=p.aTD.length:=Om;subst this;simp only[go_sem,i,Tn,Dv,aVP];refine bS .nil dT a_ ?_;simp only[go_sem,Dw,aUN,J,K,M,N];refine aO fun oD hD=>?_;have w:o5≠oD:=by rintro rfl; simp only[aN,c,d,if_true,if_false] at hD; cases hD
  have F:o7≠oD:=by rintro rfl; simp only[aN,e,if_true,if_false] at hD; cases hD
  have H:o8≠oD:=by rintro rfl; simp only[aN,if_true] at hD; cases hD
  simp only[go_sem,aUN,J,K,M,N];refine aO fun oB hB=>?_;have E:o5≠oB:=by rintro rfl; simp only[aN,c,d,w,if_true,if_false] at hB; cases hB
  have S:o7≠oB:=by rintro rfl; simp only[aN,e,F,if_true,if_false] at hB; cases hB
  have U:o8≠oB:=by rintro rfl; simp only[aN,H,if_true,if_false] at hB; cases hB
  have V:oD≠oB:=by rintro rfl; simp only[aN,if_true] at hB; cases hB
  rw[anF,Fw];simp only[go_sem,Dx,c,d,w,E,R,aUN];have σ:(⟨o5,o7,o8,oD,oB⟩:Obs).Ne:=⟨w,E,F,S,H,U,V⟩;refine aAL L f hV ⟨o5,o7,o8,oD,oB⟩ σ v p Q row hr _ _ _ ?_ ⟨?_,?_,?_,?_,?_⟩ ?_
  ·unfold lG;exact Lq
  ·simp only[go_sem,c,d,w,E]
  ·simp only[go_sem,e,F,S]
  ·simp only[go_sem,H,U]
  ·simp only[go_sem,V]
  ·simp only[go_sem]
  intro ω Γ F1 H1 ε ι Z β gd;have g:=fun (q:Nat) u h=>ε q u h;unfold lG at g;have q3:=g 3 _ rfl;have q5:=g 5 _ rfl;have q7:=g 7 _ rfl;have υ:=g 11 _ rfl;have φ:=g 12 _ rfl;have W:=g 13 _ rfl;have χ:=g 14 _ rfl;have X:=g 15 _ rfl;simp only[go_sem,D3,φ,D4,χ];have l2:=gT 2 v row.length (home row);have l3:=gT 3 v f.aTC.length (nI f row);have l4:=gT 4 v row.length (eG f p row);have Ξ:=hr.len;have Δ:=A.aTC;refine arQ L f hV ⟨o5,o7,o8,oD,oB⟩ v p _ _ row (cW 2 v row.length (home row)) Om Γ ω _ _ _ H1 ?_ ι Z β gd ?_
  ·unfold NC;exact Lq
  intro Φ F2 H2 ζ κ γ x δ;have g:=fun (q:Nat) u h=>ζ q u h;unfold NC at g;have q3:=g 3 _ rfl;have q5:=g 5 _ rfl;have q7:=g 7 _ rfl;have υ:=g 11 _ rfl;have W:=g 13 _ rfl;have X:=g 15 _ rfl;have ψ:=g 19 _ rfl;simp only[go_sem,D9,ψ,W];refine mO γ x δ x.view (by unfold roomFor; rw[lJ,lJ,aUS]; simp only[maxLen]; omega) fun Y H3 k1 k2 k3 k4=>?_;simp only[go_sem,Ea,X];have τ:eS (cW 2 v row.length (home row)++cW 3 v f.aTC.length (nI f row))++eS (cW 4 v row.length (eG f p row))=eS (cW 2 v row.length (home row)++cW 3 v f.aTC.length (nI f row)++cW 4 v row.length (eG f p row)):=by simp only[eS,aVT]
  rw[τ] at k1;refine arP L f hV ⟨o5,o7,o8,oD,oB⟩ v p _ _ row _ (by simp only[aUS]; omega) Y _ _ H3 ?_ (κ.keep k4) k1 ?_
  ·unfold Hd;exact Lq
  intro Ψ F4 H4 η θ;simp only[go_sem,Ee,η];exact qX (.inr rfl) θ rfl
structure Id (C:Ctx):Prop extends HD C where
 row:∀ (f:aD) (l:List (List Int)) (v:Nat),VF f→(∀ p∈f.aTG,Fits p.aTD)→(h:v<l.length)→v<f.aTE.length→G7 f l[v]→aH C 158 [.agg f.cells,lay l,.int .i64 v] .nil (aI (amO (qA f (eZ f v) v l[v])))
def MP (f:aD) (l:List (List Int)) (v:Nat):List kJ:=match uI f l v with
 | some x=>[x]
 | none=>qA f (eZ f v) v (l.getD v [])
def qL (f:aD) (l:List (List Int)) (n:Nat):List kJ:=(aUO n).flatMap (MP f l)
def over (f:aD) (l:List (List Int)) (room:List Int) (d:Nat):Bool:=decide ((fW f l).getD d 0>(jJ f room).getD d 0)
def aDX (f:aD) (l:List (List Int)) (room:List Int):List kJ:=qL f l l.length++cW 6 (-1) f.aTC.length (over f l room)
def DO (f:aD) (l:List (List Int)) (room:List Int):List kJ :=
 if dJ f then (if l.length=f.aTE.length then aDX f l room else [⟨1,-1,(l.length:Nat)⟩]) else []
theorem QA {p:Int→Bool}:∀ {l:List Int} {i:Nat},kT p l i=none→∀ x∈l,p x=false
 | [],_,_,x,hx=>absurd hx (aVK)
 | y::t,i,h,x,hx=>by
  rw[kT] at h;split at h
  ·cases h
  ·rename_i c;rcases aVC.1 hx with rfl | hx
   ·simpa using c
   ·exact QA h x hx
theorem Ck {f:aD} {l:List (List Int)} (i:oE l) {v:Nat} (c:v<l.length) (h:uI f l v=none):G7 f l[v]:=by
 have e:l.getD v []=l[v]:=by simp[aUY,c]
 unfold uI at h;rw[e] at h;split at h
 ·rw[Option.map_eq_none_iff] at h;refine⟨?_,fun x p=>?_⟩
  ·have d:=JJ l (v+1);have:=i.all;rw[wW l c,aUS] at d;omega
  ·have:=QA h x p;simp[tK] at this;omega
 ·cases h
theorem amN (f:aD) (p:bT) (v:Nat) (row:List Int):(qA f p v row).length≤2*row.length+f.aTC.length+f.aTF.length:=by
 unfold qA;have c:=gT 2 v row.length (home row);have d:=gT 3 v f.aTC.length (nI f row);have e:=gT 4 v row.length (eG f p row);have i:=gT 5 v f.aTF.length (qI f p row);simp only[aUS];omega
theorem Q7 {f:aD} (c:Small f) {l:List (List Int)} (i:oE l) {v:Nat} (d:v<l.length):(MP f l v).length≤100000000:=by
 unfold MP;split
 ·simp
 ·rename_i h;have e:l.getD v []=l[v]:=by simp[aUY,d]
  have:=amN f (eZ f v) v (l.getD v []);have p:=(Ck i d h).len;have:=c.aTC;have:=c.aTF;rw[e] at *
  omega
theorem jp (f:aD) (l:List (List Int)) (n:Nat):qL f l (n+1)=qL f l n++MP f l n:=by
 unfold qL;rw[aXV,List.flatMap_append];simp
theorem RX {f:aD} (d:Small f) {l:List (List Int)} (c:oE l):∀ {n:Nat},n≤l.length→(qL f l n).length≤n*100000000
 | 0,_=>by simp[qL]
 | n+1,h=>by rw[jp,aUS];have:=RX d c (n:=n) Om;have:=Q7 d c (v:=n) Om;omega
def viF (f:aD) (l:List (List Int)) (room:List Int) (c:PV) (k:Nat):PF:=((((((PF.nil.set 1 (lay l)).set 2 (ints room)).set 3 (.bL f.cells)).set 7 (c)).set 30 (.int .i64 (l.length:Nat))).set 31 (.int .i64 k))
def viG (f:aD) (l:List (List Int)) (room:List Int) (c:PV) (k:Nat):PF:=(((((PF.nil.set 7 (c)).set 11 (ints (jJ f room))).set 58 (ints (fW f l))).set 59 (.int .i64 (f.aTC.length:Nat))).set 60 (.int .i64 k))
theorem atT {C:Ctx} (f:aD) (hV:VF f) (l:List (List Int)) (room:List Int) (y:List kJ) (R:y.length≤2000000000) (A:PV) (K:bR) (F:PF) (H:PH)
  (M:(viG f l room A 0).le F) (O:bE H 3 A (eS y))
  (N:∀ v' B H',B 7=some v'→bE H' 3 v' (eS (y++cW 6 (-1) f.aTC.length (over f l room)))→K (.exit 3) B H'):aC.wp C (.loop UL) K F H:=by
 have S:=hV.small.aTC;refine wp_loop (α:=Nat × PV × PH) (fun t=>viG f l room t.2.1 t.1) (fun t=>t.2.2) (fun t=>t.1≤f.aTC.length∧bE t.2.2 3 t.2.1 (eS (y++cW 6 (-1) t.1 (over f l room)))) (fun t=>f.aTC.length-t.1) (0,A,H)
  ⟨aUT _,by rw[show cW 6 (-1) 0 (over f l room)=[] from rfl,aWF]; exact O⟩ M b_ ?_
 rintro⟨k,v',J⟩ ⟨Q,e⟩;simp only at Q e ⊢;simp only[go_sem,UL,Do,viG];by_cases hlt:k<f.aTC.length
 ·have d:(k:Int)<(f.aTC.length:Nat):=Om;have i:k<(fW f l).length:=by rw[fW,jA]; exact hlt
  have p:k<(jJ f room).length:=by rw[pX]; exact hlt
  have a1:((fW f l).map fun n=>[PV.int .i64 n])[k]?=some [.int .i64 (fW f l)[k]]:=by simp[i]
  have a2:((jJ f room).map fun n=>[PV.int .i64 n])[k]?=some [.int .i64 (jJ f room)[k]]:=by simp[p]
  have E:over f l room k=decide ((fW f l)[k]>(jJ f room)[k]):=by simp only[over,aUY,aVB i,aVB p,aXH]
  have x:=pZ 6 (-1) k (over f l room);have W:=gT 6 (-1) k (over f l room);simp only[go_sem,d,Dp,a1,Dq,a2];by_cases c:(fW f l)[k]>(jJ f room)[k]
  ·rw[if_pos (by rw[E]; simp[c])] at x;have w:(1:Nat)*3≤16777216:=by decide
   simp only[go_sem,c,Dr,w];refine mO (rows':=[]) (u:=.aB) (src:=[(⟨6,-1,k⟩:kJ).cells]) e .nil (fun _ _ _ _ _ h=>by cases h) rfl (by unfold roomFor; rw[lJ,aUS]; simp only[aUX,maxLen]; omega) fun v' H' k1 k2 U V=>?_;rw[rA,aVS,← x] at k1;simp only[go_sem,UO,wZz k];refine aG (k+1,v',H') ⟨hlt,k1⟩ (by simp only; omega) ?_ b_;exact Lq
  ·rw[if_neg (by rw[E]; simp; omega)] at x;rw[← x] at e;simp only[go_sem,c,UO,wZz k];refine aG (k+1,v',J) ⟨hlt,e⟩ (by simp only; omega) ?_ b_;exact Lq
 ·have d:¬ (k:Int)<(f.aTC.length:Nat):=Om;have:k=f.aTC.length:=Om;subst this;simp only[go_sem,d];exact N v' _ _ rfl e
theorem aBH {C:Ctx} (L:Id C) (f:aD) (O:f.Ok) (l:List (List Int)) (B:oE l) (room:List Int) :
  NV.wp C (aU alU.res (bX (amO (DO f l room)))) (PF.args [.agg f.cells,lay l,ints room]) .nil:=by
 simp only[go_sem,NV,S3,S4,alU];refine aA (L.valid f O) rfl ?_;unfold DO;have β:=B.rows;have F:∀ p∈f.aTG,Fits p.aTD:=fun p hp=>(O.aTO p hp).aTD;cases V:dJ f with
 | false =>simp only[go_sem,aVG,S5];exact qX (rows:=[]) (.inr rfl) .nil rfl
 | true =>
  have hV:=VF.of V;by_cases c:l.length=f.aTE.length
  ·have M:((l.length:Int) != (f.aTE.length:Int))=false:=cA Om;rw[if_pos c];have W:=hV.small.aTE;simp only[go_sem,aUW,fc,aUN,M,S7,S8];refine wp_loop (α:=Nat × PV × PH) (fun t=>viF f l room t.2.1 t.1) (fun t=>t.2.2) (fun t=>t.1≤l.length∧bE t.2.2 3 t.2.1 (eS (qL f l t.1))) (fun t=>l.length-t.1) (0,.aB,.nil) ⟨aUT _,.nil⟩ ?_ a_ ?_
   ·unfold viF
    (repeat' (first|exact d_|refine c_ ?_ ?_))<;>first|(simp only[go_sem,aUN]<;>rfl)|rfl
   rintro⟨k,v7,X⟩ ⟨Z,K⟩;simp only at Z K ⊢;simp only[go_sem,Dj,S9,viF];by_cases hlt:k<l.length
   ·have e:(k:Int)<(l.length:Nat):=Om;have Q:=RX hV.small B (n:=k) Om;have d:=jp f l k;simp only[go_sem,e,Ta,Tb];refine aA (L.He f l k hV B hlt Om) rfl ?_;cases E:uI f l k with
    | some x =>
     have i:MP f l k=[x]:=by rw[MP,E]
     rw[i] at d;simp only[go_sem,shV];refine aO fun o S=>?_;have A:(1:Nat)*3≤16777216:=by decide
     simp only[go_sem,UM,Dk,A];refine mO (rows':=[]) (u:=.aB) (src:=[x.cells]) (K.fresh S _).1 .nil (fun _ _ _ _ _ h=>by cases h) rfl (by unfold roomFor; rw[lJ]; simp only[aUX,maxLen]; omega) fun v' H' k1 k2 k3 k4=>?_;rw[rA,← d] at k1;simp only[go_sem,UN,wZz k];refine aG (k+1,v',H') ⟨hlt,k1⟩ (by simp only; omega) ?_ b_;exact Lq
    | none =>
     have Y:l.getD k []=l[k]:=by simp[aUY,hlt]
     have i:MP f l k=qA f (eZ f k) k l[k]:=by rw[MP,E,Y]
     have J:=Ck B hlt E;have H:=Q7 hV.small B hlt;rw[i] at d H;simp only[go_sem,shV];refine aO fun o S=>?_;simp only[go_sem,UM,Dl];refine aA (L.row f l k hV F hlt Om J) rfl ?_;simp only[go_sem];refine mO (rows':=[]) (u:=.aB) (src:=eS (qA f (eZ f k) k l[k])) (K.fresh S _).1 .nil (fun _ _ _ _ _ h=>by cases h) rfl (by unfold roomFor; rw[lJ,lJ]; simp only[maxLen]; omega) fun v' H' k1 k2 k3 k4=>?_;have U:eS (qL f l k)++eS (qA f (eZ f k) k l[k])=eS (qL f l (k+1)):=by rw[d]; simp only[eS,aVT]
     rw[U] at k1;simp only[go_sem,UN,wZz k];refine aG (k+1,v',H') ⟨hlt,k1⟩ (by simp only; omega) ?_ b_;exact Lq
   ·have e:¬ (k:Int)<(l.length:Nat):=Om;have:k=l.length:=Om;subst this;have Q:=RX hV.small B (n:=l.length) (aUU _);have w:=L.room f room O;rw[NB,V] at w;have y:=L.loads f l hV.small.aTC B;simp only[go_sem,e,Dm];refine aA w rfl ?_;simp only[go_sem,Dn];refine aA y rfl ?_;have R:(fW f l).length=f.aTC.length:=by rw[fW,jA]
    simp only[go_sem,aUN,R];refine atT f hV l room (qL f l l.length) Om v7 _ _ X ?_ K ?_
    ·unfold viG;exact Lq
    intro v' F' H' h7 N;simp only[go_sem,Ds,h7];exact qX (.inr rfl) N rfl
  ·have M:((l.length:Int) != (f.aTE.length:Int))=true:=dO Om;have A:(1:Nat)*3≤16777216:=by decide
   rw[if_neg c];simp only[go_sem,aUW,fc,aUN,M,S6,A];exact aX (.inr rfl) .nil rfl a_ ⟨.refl _,rfl⟩
structure aDM (C:Ctx):Prop extends Id C where
 viol:∀ (f:aD) (l:List (List Int)) (room:List Int),f.Ok→oE l→aH C 154 [.agg f.cells,lay l,ints room] .nil (aI (amO (DO f l room)))
def AV (f:aD) (l:List (List Int)) (room:List Int):Bool:=dJ f&&decide ((DO f l room).length=0)
theorem asJ {C:Ctx} (L:aDM C) (f:aD) (d:f.Ok) (l:List (List Int)) (e:oE l) (room:List Int) :
  FP.wp C (aU Sl.res (bX (.bool (AV f l room)))) (PF.args [.agg f.cells,lay l,ints room]) .nil:=by
 simp only[go_sem,FP,Cw,Cx,Sl];refine aA (L.valid f d) rfl ?_;unfold AV;cases i:dJ f with
 | false =>simp only[go_sem];exact bC rfl rfl
 | true =>
  simp only[go_sem];refine aA (L.viol f l room d e) rfl ?_;by_cases c:(DO f l room).length=0
  ·simp only[go_sem,aUN,bP (show (((DO f l room).length:Nat):Int)=0 by omega)];exact bC rfl (by simp[c])
  ·simp only[go_sem,aUN,bG (show (((DO f l room).length:Nat):Int)≠0 by omega)];exact bC rfl (by rw[decide_eq_false c])
def aaK:Rg:=[iA 2 (.mv (.const (.lit (.pointer none))))]
def aaL:Rg:=[iM 3 0,iN 4 3,iC 5 .gtr 4 400]
def aaM:Rg:=[iM 6 0,iA 7 (.slice 1 (Tm 6) none (some (Ci 400)) none),iM 0 7]
def ux:Rg:=[iM 8 0,iA 9 (.append 1 1 (.const .aB) (Tm 8)),iA 10 (.build [.aB,zI] [(0,1,(Tm 9))]),iA 11 (.box false (Tm 10)),iM 2 11]
def SU:aC:=(sq aaK (.seq (sq aaL (.cond (Tm 5) (.region aaM) .skip)) (sq ux .ret)))
def aGQ:List Nat:=[]
def azB:aZ:=⟨1,12,SU,[.tmp 2]⟩
def cu:Rg:=[iI 4 0]
def LP:Rd:=[(iM 5 0,false),(iA 6 (.aTP (Tm 5)),false),(iF 7 1 6,false),(iL 8 7,false),(iM 9 0,false),(iA 10 (.aTP (Tm 9)),false),(iF 11 0 10,false),(iL 12 11,false),(iN 13 12,false),(iB 14 .geq 8 13,false),(iM 15 14,false),(gM 16 1 15 false,false),(gC 17 .lss 16 2 15 false,false),(iQ 18 15 17,false)]
def cv:Rg:=[iI 4 0]
def Pb:Rg:=[iM 19 0,iA 20 (.aTP (Tm 19)),iF 21 1 20,iL 22 21,iC 23 .add 22 1,iA 24 (.aTP (Tm 19)),iF 25 1 24,iS 1 25 23]
def Pc:Rd:=[(iM 26 0,false),(iA 27 (.aTP (Tm 26)),false),(iF 28 0 27,false),(iL 29 28,false),(iM 30 0,false),(iA 31 (.aTP (Tm 30)),false),(iF 32 1 31,false),(iL 33 32,false),(iC 34 .sub 33 1,false),(iX 35 1 29 34,false),(iL 36 35,false),(iA 37 (.conv .i64 (Tm 36)),false),(iM 38 1,false),(iB 39 .rem 37 38,false),(iM 4 39,false)]
def yL:aC:=(sq cu (.seq (dq LP (.cond (Tm 18) (sq cv .ret) .skip)) (sq Pb (dq Pc .ret))))
def azD:List Nat:=[]
def Hc:aZ:=⟨2,40,yL,[.tmp 4]⟩
def Oj:Rg:=[iA 2 (.alloc [zB,.aB,.aB])]
def Ol:Rg:=[iM 6 0,iA 7 (.call 4 [(Tm 6),(Ci 6)]),iA 8 (.bin .add (Ci 1) (Tm 7)),iM 9 0,iA 10 (.call 4 [(Tm 9),(Ci 8)]),iA 11 (.bin .add (Ci 1) (Tm 10)),iK2 12 50 8 11,iM 5 12,iE 13 5 0,iE 14 5 1,iA 3 (.alloc [zB,.aB,.aB]),iS 3 3 13,iM 4 14]
def On:Rg:=[iO 15 3 3,iS 3 2 15]
def LG:aC:=(sq Oj (sq Ol (sq On .ret)))
def ayR:List Nat:=[]
def akA:aZ:=⟨1,16,LG,[.cell 2 (some 3)]⟩
def aaE:Rg:=[iA 4 (.alloc [(.str []),.aB,.aB,.aB])]
def aaF:Rg:=[iM 16 0,iM 17 1,iK2 18 4 16 17,iA 19 (.bin .add (Ci 1) (Tm 18)),iM 5 19]
def aaG:Rg:=[iA 6 (.alloc [(.str []),.aB,.aB,.aB])]
def aaH:Rg:=[iI 7 8]
def aaI:Rg:=[iI 8 0]
def aaJ:Rg:=[iM 20 8,iM 21 5,iB 22 .lss 20 21]
def ut:Rg:=[iM 25 7,iM 9 25]
def uu:Rg:=[iM 26 8,iC 27 .add 26 1,iM 28 5,iB 29 .lss 27 28]
def uv:Rg:=[iM 30 0,iM 31 7,iC 32 .add 31 1,iK2 33 4 30 32,iM 9 33]
def WP:Rg:=[iM 34 7,iM 35 9,iB 36 .sub 34 35,iM 7 36]
def cf:Rg:=[iM 38 9,iA 39 (.call 50 [(Tm 38),(Ci 8)]),iM 37 39,iE 40 37 0,iE 41 37 1,iA 10 (.alloc [zB,.aB,.aB]),iS 3 10 40,iM 11 41]
def cg:Rg:=[iF 42 1 6,iL 43 42,iO 44 3 10,iA 45 (.aTI true 3 1 [zB,.aB,.aB] [(0,(Tm 44))]),iA 46 (.append 3 56 (Tm 43) (Tm 45)),iF 47 1 6,iS 1 47 46]
def ch:Rg:=[iM 48 0,iK 49 1 48,iA 12 (.alloc [zB,.aB,.aB]),iS 3 12 49]
def ci:Rg:=[iM 50 8,iC 51 .add 50 1,iM 52 5,iB 53 .lss 51 52,iM 54 53,gM 55 0 54 true,iG 56 (.call 4 [(Tm 55),(Ci 3)]) 54 true,gC 57 .eql 56 0 54 true,iP 58 54 57]
def cj:Rg:=[iA 59 (.call 47 [(Ci 0)]),iS 3 12 59]
def LK:Rg:=[iF 60 3 6,iL 61 60,iO 62 3 12,iA 63 (.aTI true 3 1 [zB,.aB,.aB] [(0,(Tm 62))]),iA 64 (.append 3 56 (Tm 61) (Tm 63)),iF 65 3 6,iS 1 65 64]
def ck:Rg:=[iZ 13]
def cl:Rg:=[iI 14 0]
def O4:Rg:=[iM 66 14,iM 67 5,iB 68 .lss 66 67]
def O5:Rg:=[iA 71 (.call 47 [(Ci 0)]),iA 15 (.alloc [zB,.aB,.aB]),iS 3 15 71]
def O6:Rg:=[iM 72 14,iM 73 8,iC 74 .add 73 1,iB 75 .eql 72 74,iM 76 75,gM 77 14 76 false,gM 78 8 76 false,gB 79 .neq 77 78 76 false,gM 80 79 76 false,gM 81 0 80 true,iG 82 (.call 4 [(Tm 81),(Ci 3)]) 80 true,gC 83 .eql 82 0 80 true,iG 84 (.pick (Tm 80) (Tm 83) (.const zB)) 76 false,iQ 85 76 84]
def cn:Rg:=[iM 86 0,iK 87 1 86,iS 3 15 87]
def cp:Rg:=[iM 88 13,iO 89 3 15,iA 90 (.aTI true 3 1 [zB,.aB,.aB] [(0,(Tm 89))]),iA 91 (.append 3 56 (Tm 88) (Tm 90)),iM 13 91]
def cq:Rg:=[iM 69 14,iC 70 .add 69 1,iM 14 70]
def LJ:aC:=(.seq (sq O4 (.cond (Tm 68) .skip (.exit 2))) (.seq (.block 3 (sq O5 (.seq (sq O6 (.cond (Tm 85) (.region cn) .skip)) (.region cp)))) (.region cq)))
def cr:Rg:=[iF 92 2 6,iL 93 92,iM 94 13,iA 95 (.aTI true 1 1 [.aB] [(0,(Tm 94))]),iA 96 (.append 1 24 (Tm 93) (Tm 95)),iF 97 2 6,iS 1 97 96]
def O7:Rg:=[iM 23 8,iC 24 .add 23 1,iM 8 24]
def O3:aC:=(.seq (sq aaJ (.cond (Tm 22) .skip (.exit 0))) (.seq (.block 1 (sq ut (.seq (sq uu (.cond (Tm 29) (.region uv) .skip)) (sq WP (sq cf (sq cg (sq ch (.seq (sq ci (.cond (Tm 58) (.region cj) .skip)) (sq LK (sq ck (.seq (sq cl (.block 2 (.loop LJ))) (.region cr)))))))))))) (.region O7)))
def O8:Rg:=[iO 98 4 6,iS 4 4 98]
def ST:aC:=(sq aaE (sq aaF (sq aaG (sq aaH (.seq (sq aaI (.block 0 (.loop O3))) (sq O8 .ret))))))
def aGM:List Nat:=[45,63,90,95]
def ayU:aZ:=⟨2,99,ST,[.cell 4 (some 4)]⟩
def aaO:Rg:=[iZ 4]
def aaP:Rg:=[iZ 5]
def aaQ:Rg:=[iI 6 0]
def aaR:Rg:=[iM 7 6,iM 8 1,iA 9 (.aTX true (Tm 8) (Ci 1)),iB 10 .lss 7 9]
def aaS:Rg:=[iM 13 5,iM 14 0,iK 15 1 14,iA 16 (.aTI true 3 1 [zB,.aB,.aB] [(0,(Tm 15))]),iA 17 (.append 3 56 (Tm 13) (Tm 16)),iM 5 17]
def aaT:Rg:=[iM 11 6,iC 12 .add 11 1,iM 6 12]
def aaN:aC:=(.seq (sq aaR (.cond (Tm 10) .skip (.exit 0))) (.seq (.block 1 (.region aaS)) (.region aaT)))
def aaU:Rg:=[iM 18 5,iM 4 18]
def SV:aC:=(sq aaO (sq aaP (.seq (sq aaQ (.block 0 (.loop aaN))) (sq aaU .ret))))
def aGT:List Nat:=[16]
def azE:aZ:=⟨2,19,SV,[.tmp 4]⟩
def O9:Rg:=[iA 4 (.mv (.const (.str [])))]
def Pa:Rg:=[iM 5 0,iM 6 1,iK 7 195 6,iB 8 .add 5 7,iM 4 8]
def LO:aC:=(sq O9 (sq Pa .ret))
def azA:List Nat:=[]
def akF:aZ:=⟨2,9,LO,[.tmp 4]⟩
def Or:Rg:=[iM 12 1,iA 13 (.aTP (Tm 12)),iF 14 3 13,iL 15 14,iM 16 2,iX 17 7 15 16,iF 18 1 17,iL 19 18,iC 20 .add 19 1,iM 8 20]
def Ot:Rg:=[iM 21 0,iA 22 (.call 4 [(Tm 21),(Ci 2)]),iA 23 (.bin .add (Ci 1) (Tm 22)),iM 9 23]
def Ou:Rg:=[iM 24 8,iC 25 .eql 24 2]
def Ov:Rg:=[iI 9 1]
def LH:Rg:=[iI 10 0]
def cb:Rg:=[iM 26 10,iM 27 9,iB 28 .lss 26 27]
def cc:Rg:=[iM 31 8,iC 32 .eql 31 5]
def Ow:Rg:=[iM 33 1,iA 34 (.aTP (Tm 33)),iF 35 4 34,iL 36 35,iN 37 36,iM 38 3,iB 39 .lss 37 38]
def Ox:Rd:=[(iM 40 1,true),(iM 41 1,true),(iA 42 (.aTP (Tm 41)),true),(iF 43 4 42,true),(iL 44 43,true),(iM 45 1,false),(iA 46 (.aTP (Tm 45)),false),(iF 47 4 46,false),(iL 48 47,false),(iN 49 48,false),(iA 50 (.call 29 [(.const (.str [100])),(Tm 49)]),true),(iM 51 0,true),(iM 52 1,true),(iA 53 (.aTP (Tm 52)),true),(iF 54 2 53,true),(iL 55 54,true),(iN 56 55,true),(iK2 57 4 51 56,true),(iM 58 2,true),(iA 59 (.build [(.str []),zI,zI] [(0,1,(Tm 50)),(1,1,(Tm 57)),(2,1,(Tm 58))]),false),(iA 60 (.aTI true 3 1 [(.str []),zI,zI] [(0,(Tm 59))]),false),(iA 61 (.append 3 32 (Tm 44) (Tm 60)),true),(iA 62 (.aTP (Tm 40)),false),(iF 63 4 62,false)]
def Oy:Rd:=[(iS 1 63 61,true)]
def Ao:Rg:=[iM 64 1,iA 65 (.aTP (Tm 64)),iF 66 4 65,iL 67 66,iN 68 67,iM 69 3,iB 70 .geq 68 69,iM 71 70,gM 72 1 71 false,iG 73 (.aTP (Tm 72)) 71 false,gF 74 3 73 71 false,gL 75 74 71 false,gN 76 75 71 false,gC 77 .geq 76 35 71 false,iQ 78 71 77]
def Ap:Rd:=[(iM 79 8,false),(iA 80 (.aUD (.const (.str [45,115,114,107,109])) (Tm 79)),false),(iA 81 (.aTI true 1 1 [(.int .u8 0)] [(0,(Tm 80))]),false),(iA 82 (.aTQ (Tm 81)),false),(iM 83 1,false),(iA 84 (.aTP (Tm 83)),false),(iF 85 3 84,false),(iL 86 85,false),(iN 87 86,false),(iK2 88 29 82 87,true),(iM 89 8,true),(iM 90 2,true),(iM 91 0,true),(iA 92 (.call 4 [(Tm 91),(Ci 16)]),true),(iA 93 (.bin .add (Ci 1) (Tm 92)),true),(iA 94 (.call 47 [(Ci 0)]),true),(iA 95 (.build [(.str []),zI,zI,zI,zB,.aB,.aB] [(0,1,(Tm 88)),(1,1,(Tm 89)),(2,1,(Tm 90)),(3,1,(Tm 93)),(4,3,(Tm 94))]),false),(iA 11 (.alloc [(.str []),zI,zI,zI,zB,.aB,.aB]),true),(iS 7 11 95,true)]
def Aq:Rg:=[iM 96 0,iA 97 (.call 4 [(Tm 96),(Ci 3)]),iC 98 .eql 97 0]
def Ar:Rg:=[iM 100 0,iA 101 (.call 4 [(Tm 100),(Ci 6)]),iA 102 (.bin .add (Ci 2) (Tm 101)),iA 103 (.call 50 [(Ci 1),(Tm 102)]),iM 99 103,iE 104 99 0,iE 105 99 1,iF 106 4 11,iS 3 106 104]
def SR:Rd:=[(iM 107 1,true),(iM 108 1,false),(iA 109 (.aTP (Tm 108)),false),(iF 110 3 109,false),(iL 111 110,false),(iO 112 7 11,false),(iA 113 (.aTI true 7 1 [(.str []),zI,zI,zI,zB,.aB,.aB] [(0,(Tm 112))]),false),(iA 114 (.append 7 96 (Tm 111) (Tm 113)),true),(iA 115 (.aTP (Tm 107)),false),(iF 116 3 115,false),(iS 1 116 114,true)]
def SS:Rg:=[iM 117 0,iM 118 1,iM 119 1,iA 120 (.aTP (Tm 119)),iF 121 3 120,iL 122 121,iN 123 122,iC 124 .sub 123 1,iM 125 3,iA 126 (.call 7 [(Tm 117),(Tm 118),(Tm 124),(Tm 125)])]
def xD:Rg:=[iM 29 10,iC 30 .add 29 1,iM 10 30]
def xC:aC:=(.seq (sq cb (.cond (Tm 28) .skip (.exit 0))) (.seq (.block 1 (.seq (sq cc (.cond (Tm 32) (.seq (sq Ow (.cond (Tm 39) (dq Ox (.draw Oy)) .skip)) (.exit 1)) .skip)) (.seq (sq Ao (.cond (Tm 78) .ret .skip)) (dq Ap (.seq (sq Aq (.cond (Tm 98) (.region Ar) .skip)) (dq SR (.region SS))))))) (.region xD)))
def yK:aC:=(sq Or (sq Ot (.seq (sq Ou (.cond (Tm 25) (.region Ov) .skip)) (sq LH (.block 0 (.loop xC))))))
def ayS:List Nat:=[60,81,113]
def Hb:aZ:=⟨4,127,yK,[]⟩
def Af:Rg:=[iA 6 (.alloc [zI,.aB,.aB,.aB,.aB,.aB,.aB])]
def Ag:Rg:=[iM 20 0,iA 21 (.call 4 [(Tm 20),(Ci 2)]),iA 22 (.bin .add (Ci 1) (Tm 21)),iA 23 (.build [zI,.aB,.aB,.aB,.aB,.aB,.aB] [(0,1,(Tm 22))]),iA 7 (.alloc [zI,.aB,.aB,.aB,.aB,.aB,.aB]),iS 7 7 23]
def Ah:Rg:=[iM 24 0,iA 25 (.call 4 [(Tm 24),(Ci 2)]),iA 26 (.bin .add (Ci 1) (Tm 25)),iM 8 26]
def Ai:Rg:=[iI 9 0]
def Aj:Rg:=[iM 27 9,iM 28 8,iB 29 .lss 27 28]
def Ak:Rg:=[iM 32 0,iA 33 (.call 2 [(Tm 32),(Ci 2)]),iA 10 (.alloc [(.str []),.aB,.aB,.aB]),iS 4 10 33]
def Al:Rg:=[iM 34 9,iA 35 (.call 29 [(.const (.str [108,97,119])),(Tm 34)]),iF 36 0 10,iS 1 36 35]
def Am:Rg:=[iF 37 1 7,iL 38 37,iO 39 4 10,iA 40 (.aTI true 4 1 [(.str []),.aB,.aB,.aB] [(0,(Tm 39))]),iA 41 (.append 4 88 (Tm 38) (Tm 40)),iF 42 1 7,iS 1 42 41]
def An:Rg:=[iM 30 9,iC 31 .add 30 1,iM 9 31]
def SQ:aC:=(.seq (sq Aj (.cond (Tm 29) .skip (.exit 0))) (.seq (.block 1 (sq Ak (sq Al (.region Am)))) (.region An)))
def kn:Rg:=[iM 43 0,iA 44 (.call 4 [(Tm 43),(Ci 2)]),iA 45 (.bin .add (Ci 1) (Tm 44)),iM 11 45]
def ko:Rg:=[iI 12 0]
def kp:Rg:=[iM 46 12,iM 47 11,iB 48 .lss 46 47]
def kr:Rd:=[(iF 51 2 7,true),(iL 52 51,true),(iM 53 12,false),(iA 54 (.call 29 [(.const (.str [109])),(Tm 53)]),true),(iM 55 0,true),(iA 56 (.call 4 [(Tm 55),(Ci 4)]),true),(iA 57 (.bin .add (Ci 1) (Tm 56)),true),(iM 58 0,true),(iA 59 (.call 4 [(Tm 58),(Ci 8)]),true),(iA 60 (.bin .add (Ci 1) (Tm 59)),true),(iM 61 0,true),(iF 62 1 7,true),(iL 63 62,true),(iN 64 63,true),(iK2 65 4 61 64,true),(iA 66 (.build [(.str []),zI,zI,zI] [(0,1,(Tm 54)),(1,1,(Tm 57)),(2,1,(Tm 60)),(3,1,(Tm 65))]),false),(iA 67 (.aTI true 4 1 [(.str []),zI,zI,zI] [(0,(Tm 66))]),false),(iA 68 (.append 4 40 (Tm 52) (Tm 67)),true),(iF 69 2 7,false)]
def ku:Rd:=[(iS 1 69 68,true)]
def kw:Rg:=[iM 49 12,iC 50 .add 49 1,iM 12 50]
def KU:aC:=(.seq (sq kp (.cond (Tm 48) .skip (.exit 2))) (.seq (.block 3 (dq kr (.draw ku))) (.region kw)))
def kx:Rg:=[iA 70 (.call 47 [(Ci 0)]),iA 71 (.build [(.str []),zI,zI,zI,zB,.aB,.aB] [(2,1,(Ci (-1))),(4,3,(Tm 70))]),iA 72 (.aTI false 7 1 [(.str []),zI,zI,zI,zB,.aB,.aB] [(0,(Tm 71))]),iF 73 3 7,iS 1 73 72]
def ky:Rg:=[iM 74 0,iM 75 1,iA 76 (.call 7 [(Tm 74),(Tm 7),(Ci 0),(Tm 75)])]
def kz:Rg:=[iM 77 0,iA 78 (.call 4 [(Tm 77),(Ci 2)]),iA 79 (.bin .add (Ci 1) (Tm 78)),iM 13 79]
def k6:Rg:=[iI 14 0]
def k7:Rg:=[iM 80 14,iM 81 13,iB 82 .lss 80 81]
def KX:Rg:=[iM 85 14,iA 86 (.call 29 [(.const (.str [112])),(Tm 85)]),iM 87 0,iA 88 (.call 4 [(Tm 87),(Ci 2)]),iA 89 (.bin .add (Ci 1) (Tm 88)),iM 90 0,iA 91 (.call 4 [(Tm 90),(Ci 3)]),iM 92 0,iA 93 (.call 4 [(Tm 92),(Ci 4)]),iA 94 (.bin .add (Ci 1) (Tm 93)),iK 95 47 94,iA 96 (.build [(.str []),zI,zI,zI,zI,zI,zI,zI,zI,.aB,.aB,zB,.aB,.aB,zB,.aB,.aB] [(0,1,(Tm 86)),(1,1,(Tm 89)),(2,1,(Tm 91)),(14,3,(Tm 95))]),iA 15 (.alloc [(.str []),zI,zI,zI,zI,zI,zI,zI,zI,.aB,.aB,zB,.aB,.aB,zB,.aB,.aB]),iS 17 15 96]
def yF:Rd:=[(iF 97 1 15,true),(iL 98 97,true),(iM 99 0,false),(iF 100 2 15,false),(iL 101 100,false),(iC 102 .add 101 1,false),(iK2 103 4 99 102,true),(iB 104 .add 98 103,false),(iF 105 3 15,false)]
def yG:Rd:=[(iS 1 105 104,true)]
def yH:Rg:=[iM 106 0,iF 107 2 15,iL 108 107,iK2 109 5 106 108,iF 110 10 15,iS 1 110 109]
def yI:Rg:=[iM 112 0,iA 113 (.call 4 [(Tm 112),(Ci 9)]),iA 114 (.call 50 [(Tm 113),(Ci 8)]),iM 111 114,iE 115 111 0,iE 116 111 1,iF 117 11 15,iS 3 117 115]
def KY:Rg:=[iI 16 1]
def la:Rg:=[iM 118 16,iC 119 .lss 118 5]
def lf:Rg:=[iM 122 0,iA 123 (.call 4 [(Tm 122),(Ci 3)]),iC 124 .eql 123 0]
def lg:Rg:=[iM 125 16,iM 126 0,iA 127 (.call 4 [(Tm 126),(Ci 3)]),iA 128 (.bin .add (Ci 1) (Tm 127)),iF 129 4 15,iA 130 (.idxA 5 1 (Tm 129) (Tm 125)),iS 1 130 128]
def KZ:Rg:=[iM 120 16,iC 121 .add 120 1,iM 16 121]
def yE:aC:=(.seq (sq la (.cond (Tm 119) .skip (.exit 6))) (.seq (.block 7 (sq lf (.cond (Tm 124) (.region lg) .skip))) (.region KZ)))
def LC:Rg:=[iM 131 0,iM 132 11,iK2 133 4 131 132,iM 17 133]
def LD:Rg:=[iM 134 17,iA 135 (.aTI false 1 1 [zI] [(0,(Tm 134))]),iF 136 9 15,iS 1 136 135]
def LE:Rg:=[iM 137 11,iC 138 .gtr 137 1,iM 139 138,gM 140 0 139 true,iG 141 (.call 4 [(Tm 140),(Ci 2)]) 139 true,gC 142 .eql 141 0 139 true,iP 143 139 142]
def LF:Rg:=[iF 144 9 15,iL 145 144,iM 146 17,iA 147 (.bin .sub (Ci 1) (Tm 146)),iA 148 (.aTI true 1 1 [zI] [(0,(Tm 147))]),iA 149 (.append 1 8 (Tm 145) (Tm 148)),iF 150 9 15,iS 1 150 149]
def yJ:Rg:=[iF 151 5 7,iL 152 151,iO 153 17 15,iA 154 (.aTI true 17 1 [(.str []),zI,zI,zI,zI,zI,zI,zI,zI,.aB,.aB,zB,.aB,.aB,zB,.aB,.aB] [(0,(Tm 153))]),iA 155 (.append 17 240 (Tm 152) (Tm 154)),iF 156 5 7,iS 1 156 155]
def lh:Rg:=[iM 83 14,iC 84 .add 83 1,iM 14 84]
def KV:aC:=(.seq (sq k7 (.cond (Tm 82) .skip (.exit 4))) (.seq (.block 5 (sq KX (.seq (dq yF (.draw yG)) (sq yH (sq yI (.seq (sq KY (.block 6 (.loop yE))) (sq LC (sq LD (.seq (sq LE (.cond (Tm 143) (.region LF) .skip)) (.region yJ)))))))))) (.region lh)))
def lj:Rg:=[iM 157 0,iM 158 2,iC 159 .add 158 1,iK2 160 4 157 159,iM 18 160]
def lk:Rg:=[iI 19 0]
def ll:Rg:=[iM 161 19,iM 162 18,iB 163 .lss 161 162]
def lm:Rd:=[(iF 166 6 7,true),(iL 167 166,true),(iM 168 19,false),(iA 169 (.call 29 [(.const (.str [118])),(Tm 168)]),true),(iM 170 0,true),(iF 171 5 7,true),(iL 172 171,true),(iN 173 172,true),(iK2 174 4 170 173,true),(iA 175 (.build [(.str []),zI] [(0,1,(Tm 169)),(1,1,(Tm 174))]),false),(iA 176 (.aTI true 2 1 [(.str []),zI] [(0,(Tm 175))]),false),(iA 177 (.append 2 24 (Tm 167) (Tm 176)),true),(iF 178 6 7,false)]
def ln:Rd:=[(iS 1 178 177,true)]
def lx:Rg:=[iM 164 19,iC 165 .add 164 1,iM 19 165]
def KW:aC:=(.seq (sq ll (.cond (Tm 163) .skip (.exit 8))) (.seq (.block 9 (dq lm (.draw ln))) (.region lx)))
def lz:Rg:=[iO 179 7 7,iS 7 6 179]
def EL:aC:=(sq Af (sq Ag (sq Ah (.seq (sq Ai (.block 0 (.loop SQ))) (sq kn (.seq (sq ko (.block 2 (.loop KU))) (sq kx (sq ky (sq kz (.seq (sq k6 (.block 4 (.loop KV))) (sq lj (.seq (sq lk (.block 8 (.loop KW))) (sq lz .ret)))))))))))))
def apW:List Nat:=[40,67,148,154,176]
def Oi:aZ:=⟨3,180,EL,[.cell 6 (some 7)]⟩
def Aa:Rg:=[iA 6 (.alloc [zI,.aB,.aB,.aB,.aB,.aB,.aB])]
def Ab:Rg:=[iM 7 0,iK 8 28 7,iM 9 1,iM 10 2,iA 11 (.call 0 [(Tm 8),(Tm 9),(Tm 10)]),iS 7 6 11]
def EJ:aC:=(sq Aa (sq Ab .ret))
def apU:List Nat:=[]
def N9:aZ:=⟨3,12,EJ,[.cell 6 (some 7)]⟩
def Pf:Rg:=[iA 3 (.box true (Tm 1)),iZ 4]
def Pg:Rg:=[iM 7 0,iA 8 (.call 4 [(Tm 7),(Ci 4)]),iC 9 .eql 8 0]
def Ph:Rg:=[iZ 4]
def Pi:Rg:=[iZ 5]
def Pj:Rg:=[iI 6 0]
def Pk:Rg:=[iM 10 6,iF 11 4 3,iL 12 11,iN 13 12,iB 14 .lss 10 13]
def Pl:Rg:=[iM 17 5,iM 18 0,iA 19 (.call 4 [(Tm 18),(Ci 7)]),iC 20 .sub 19 1,iA 21 (.aTI true 1 1 [zI] [(0,(Tm 20))]),iA 22 (.append 1 8 (Tm 17) (Tm 21)),iM 5 22]
def Pm:Rg:=[iM 15 6,iC 16 .add 15 1,iM 6 16]
def Pe:aC:=(.seq (sq Pk (.cond (Tm 14) .skip (.exit 0))) (.seq (.block 1 (.region Pl)) (.region Pm)))
def Pn:Rg:=[iM 23 5,iM 4 23]
def LQ:aC:=(sq Pf (.seq (sq Pg (.cond (Tm 9) (sq Ph .ret) .skip)) (sq Pi (.seq (sq Pj (.block 0 (.loop Pe))) (sq Pn .ret)))))
def azG:List Nat:=[3,21]
def akH:aZ:=⟨2,24,LQ,[.tmp 4]⟩
def l5:Rg:=[iA 3 (.box true (Tm 1)),iZ 4]
def l6:Rg:=[iZ 5]
def l7:Rg:=[iI 6 0]
def l8:Rg:=[iM 11 6,iF 12 6 3,iL 13 12,iN 14 13,iB 15 .lss 11 14]
def l9:Rg:=[iZ 7]
def ma:Rg:=[iM 18 0,iF 19 4 3,iL 20 19,iN 21 20,iC 22 .add 21 1,iK2 23 4 18 22,iM 8 23]
def mb:Rg:=[iI 9 0]
def LL:Rg:=[iM 24 9,iO 25 7 3,iM 26 6,iK2 27 82 25 26,iB 28 .lss 24 27]
def LM:Rg:=[iI 10 (-1)]
def LN:Rg:=[iF 31 4 3,iL 32 31,iN 33 32,iC 34 .gtr 33 0]
def EN:Rg:=[iM 35 8,iM 36 9,iB 37 .add 35 36,iF 38 4 3,iL 39 38,iN 40 39,iB 41 .rem 37 40,iM 10 41]
def EO:Rg:=[iM 42 0,iA 43 (.call 4 [(Tm 42),(Ci 6)])]
def EP:Rg:=[iC 45 .eql 43 0,iM 44 45]
def EQ:Rg:=[iM 46 0,iF 47 4 3,iL 48 47,iN 49 48,iK2 50 4 46 49,iM 10 50]
def wE:Rg:=[iC 52 .eql 43 1,iM 51 52]
def ER:Rg:=[iM 53 0,iF 54 4 3,iL 55 54,iN 56 55,iC 57 .add 56 1,iK2 58 4 53 57,iC 59 .sub 58 1,iM 10 59]
def wF:Rg:=[iM 60 7,iM 61 10,iA 62 (.aTI true 1 1 [zI] [(0,(Tm 61))]),iA 63 (.append 1 8 (Tm 60) (Tm 62)),iM 7 63]
def ES:Rg:=[iM 29 9,iC 30 .add 29 1,iM 9 30]
def EM:aC:=(.seq (sq LL (.cond (Tm 28) .skip (.exit 2))) (.seq (.block 3 (sq LM (.seq (sq LN (.cond (Tm 34) (sq EN (sq EO (.block 4 (sq EP (.cond (Tm 44) (.region EQ) (sq wE (.cond (Tm 51) (.region ER) .skip))))))) .skip)) (.region wF)))) (.region ES)))
def XT:Rg:=[iM 64 5,iM 65 7,iA 66 (.aTI true 1 1 [.aB] [(0,(Tm 65))]),iA 67 (.append 1 24 (Tm 64) (Tm 66)),iM 5 67]
def XU:Rg:=[iM 16 6,iC 17 .add 16 1,iM 6 17]
def XS:aC:=(.seq (sq l8 (.cond (Tm 15) .skip (.exit 0))) (.seq (.block 1 (sq l9 (sq ma (.seq (sq mb (.block 2 (.loop EM))) (.region XT))))) (.region XU)))
def XV:Rg:=[iM 68 5,iM 4 68]
def BA:aC:=(sq l5 (sq l6 (.seq (sq l7 (.block 0 (.loop XS))) (sq XV .ret))))
def akE:List Nat:=[3,62,66]
def uw:aZ:=⟨2,69,BA,[.tmp 4]⟩
def R2:Rg:=[iA 2 (.box true (Tm 0)),iI 4 0]
def R3:Rd:=[(iF 6 5 2,false),(iL 7 6,false),(iF 8 6 2,false),(iL 9 8,false),(iM 10 1,false),(iX 11 2 9 10,false),(iF 12 1 11,false),(iL 13 12,false),(iX 14 17 7 13,false),(iO 15 17 14,false),(iA 5 (.alloc [(.str []),zI,zI,zI,zI,zI,zI,zI,zI,.aB,.aB,zB,.aB,.aB,zB,.aB,.aB]),true),(iS 17 5 15,true)]
def R4:Rg:=[iF 16 1 5,iL 17 16,iF 18 2 5,iL 19 18,iB 20 .add 17 19,iM 4 20]
def NI:aC:=(sq R2 (dq R3 (sq R4 .ret)))
def aAT:List Nat:=[2]
def alN:aZ:=⟨2,21,NI,[.tmp 4]⟩
def Uv:Rg:=[iZ 2]
def Uw:Rg:=[iM 4 0,iN 5 4,iM 3 5]
def Ux:Rg:=[iM 6 3,iC 7 .gtr 6 0,iM 8 7,gM 9 0 8 true,gM 10 3 8 true,gC 11 .sub 10 1 8 true,iG 12 (.aTT 1 (Tm 9) (Tm 11)) 8 true,gL 13 12 8 true,iG 14 (.bin .eql (Tm 13) (.const (.int .u32 0))) 8 true,iP 15 8 14]
def Uy:Rg:=[iM 16 3,iC 17 .sub 16 1,iM 3 17]
def Uu:aC:=(.seq (sq Ux (.cond (Tm 15) .skip (.exit 0))) (.block 1 (.region Uy)))
def fi:Rg:=[iM 18 0,iM 19 3,iA 20 (.slice 1 (Tm 18) none (some (Tm 19)) none),iA 21 (.append 1 4 (.const .aB) (Tm 20)),iM 2 21]
def OL:aC:=(sq Uv (sq Uw (.seq (.block 0 (.loop Uu)) (sq fi .ret))))
def aCH:List Nat:=[]
def amH:aZ:=⟨1,22,OL,[.tmp 2]⟩
def Ug:Rg:=[iZ 2]
def Uh:Rg:=[iM 3 0,iA 4 (.conv .u32 (Tm 3)),iM 5 0,iA 6 (.bin .shr (Tm 5) (.const (.int .u64 32))),iA 7 (.conv .u32 (Tm 6)),iA 8 (.aTI true 1 2 [(.int .u32 0)] [(0,(Tm 4)),(1,(Tm 7))]),iK 9 38 8,iM 2 9]
def OC:aC:=(sq Ug (sq Uh .ret))
def aBV:List Nat:=[8]
def amC:aZ:=⟨1,10,OC,[.tmp 2]⟩
def Ei:Rg:=[iT 2 false]
def Ej:Rg:=[iM 3 0,iK 4 38 3,iN 5 4,iC 6 .gtr 5 512,iM 2 6]
def GJ:aC:=(sq Ei (sq Ej .ret))
def asX:List Nat:=[]
def Uf:aZ:=⟨1,7,GJ,[.tmp 2]⟩
def adJ:Rg:=[iI 4 0]
def adK:Rg:=[iM 6 0,iK 7 38 6,iM 8 1,iK 9 38 8,iM 0 7,iM 1 9]
def adL:Rg:=[iM 10 0,iN 11 10,iM 12 1,iN 13 12,iB 14 .neq 11 13]
def adM:Rg:=[iM 15 0,iN 16 15,iM 17 1,iN 18 17,iB 19 .lss 16 18]
def adN:Rg:=[iI 4 (-1)]
def adO:Rg:=[iI 4 1]
def adP:Rg:=[iM 20 0,iN 21 20,iC 22 .sub 21 1,iM 5 22]
def adQ:Rg:=[iM 23 5,iC 24 .geq 23 0]
def adR:Rd:=[(iM 27 0,false),(iM 28 5,false),(iX 29 1 27 28,false),(iL 30 29,false),(iM 31 1,false),(iM 32 5,false),(iX 33 1 31 32,false),(iL 34 33,false),(iB 35 .lss 30 34,false)]
def adS:Rg:=[iI 4 (-1)]
def T2:Rd:=[(iM 36 0,false),(iM 37 5,false),(iX 38 1 36 37,false),(iL 39 38,false),(iM 40 1,false),(iM 41 5,false),(iX 42 1 40 41,false),(iL 43 42,false),(iB 44 .gtr 39 43,false)]
def T3:Rg:=[iI 4 1]
def T4:Rg:=[iM 25 5,iC 26 .sub 25 1,iM 5 26]
def T1:aC:=(.seq (sq adQ (.cond (Tm 24) .skip (.exit 0))) (.seq (.block 1 (.seq (dq adR (.cond (Tm 35) (sq adS .ret) .skip)) (dq T2 (.cond (Tm 44) (sq T3 .ret) .skip)))) (.region T4)))
def T5:Rg:=[iI 4 0]
def UX:aC:=(sq adJ (sq adK (.seq (sq adL (.cond (Tm 14) (.seq (sq adM (.cond (Tm 19) (sq adN .ret) .skip)) (sq adO .ret)) .skip)) (.seq (sq adP (.block 0 (.loop T1))) (sq T5 .ret)))))
def aIG:List Nat:=[]
def aBO:aZ:=⟨2,45,UX,[.tmp 4]⟩
def ow:Rg:=[iZ 4,iZ 5]
def oz:Rg:=[iM 20 0,iM 21 1,iK2 22 32 20 21,iC 23 .lss 22 0]
def o9:Rg:=[iM 24 0,iK 25 38 24,iZ 4,iM 5 25]
def pd:Rg:=[iM 26 1,iN 27 26,iC 28 .eql 27 1]
def NY:Rg:=[iM 29 0,iN 30 29,iA 31 (.aTK 1 4 [(.int .u32 0)] (Tm 30) (Tm 30)),iM 6 31]
def NZ:Rg:=[iA 7 (.mv (.const (.int .u64 0)))]
def OA:Rg:=[iM 32 0,iN 33 32,iC 34 .sub 33 1,iM 8 34]
def pe:Rg:=[iM 35 8,iC 36 .geq 35 0]
def pi:Rg:=[iM 39 7,iA 40 (.bin .shl (Tm 39) (.const (.int .u64 32))),iM 41 0,iM 42 8,iX 43 1 41 42,iL 44 43,iA 45 (.conv .u64 (Tm 44)),iB 46 .or 40 45,iM 9 46]
def pj:Rg:=[iM 47 6,iM 48 8,iM 49 9,iM 50 1,iA 51 (.aTT 1 (Tm 50) (Ci 0)),iL 52 51,iA 53 (.conv .u64 (Tm 52)),iB 54 .quo 49 53,iA 55 (.conv .u32 (Tm 54)),iX 56 1 47 48,iS 1 56 55]
def YX:Rg:=[iM 57 9,iM 58 1,iA 59 (.aTT 1 (Tm 58) (Ci 0)),iL 60 59,iA 61 (.conv .u64 (Tm 60)),iB 62 .rem 57 61,iM 7 62]
def YY:Rg:=[iM 37 8,iC 38 .sub 37 1,iM 8 38]
def FW:aC:=(.seq (sq pe (.cond (Tm 36) .skip (.exit 0))) (.seq (.block 1 (sq pi (sq pj (.region YX)))) (.region YY)))
def FX:Rg:=[iM 63 6,iK 64 38 63,iM 65 7,iK 66 35 65,iM 4 64,iM 5 66]
def YZ:Rg:=[iM 67 1,iN 68 67,iA 69 (.bin .mul (Ci 32) (Tm 68)),iM 70 1,iK 71 31 70,iB 72 .sub 69 71,iM 10 72]
def ZA:Rg:=[iM 73 0,iM 74 10,iK2 75 45 73 74,iA 76 (.aTI true 1 2 [(.int .u32 0)] [(0,(.const (.int .u32 0))),(1,(.const (.int .u32 0)))]),iA 77 (.append 1 4 (Tm 75) (Tm 76)),iM 78 1,iM 79 10,iK2 80 45 78 79,iM 11 77,iM 12 80]
def FY:Rg:=[iM 81 11,iM 82 0,iM 83 10,iK2 84 45 82 83,iN 85 84,iC 86 .add 85 1,iA 87 (.slice 1 (Tm 81) none (some (Tm 86)) none),iM 11 87]
def FZ:Rg:=[iM 88 12,iM 89 12,iN 90 89,iC 91 .sub 90 1,iX 92 1 88 91,iL 93 92,iA 94 (.conv .u64 (Tm 93)),iM 13 94]
def GA:Rg:=[iM 95 11,iN 96 95,iM 97 12,iN 98 97,iB 99 .sub 96 98,iA 100 (.aTK 1 4 [(.int .u32 0)] (Tm 99) (Tm 99)),iM 14 100]
def GB:Rg:=[iM 101 14,iN 102 101,iC 103 .sub 102 1,iM 15 103]
def ZB:Rg:=[iM 104 15,iC 105 .geq 104 0]
def ZC:Rd:=[(iM 108 11,false),(iM 109 15,false),(iM 110 12,false),(iN 111 110,false),(iB 112 .add 109 111,false),(iX 113 1 108 112,false),(iL 114 113,false),(iA 115 (.conv .u64 (Tm 114)),false),(iA 116 (.bin .shl (Tm 115) (.const (.int .u64 32))),false),(iM 117 11,false),(iM 118 15,false),(iM 119 12,false),(iN 120 119,false),(iB 121 .add 118 120,false),(iC 122 .sub 121 1,false),(iX 123 1 117 122,false),(iL 124 123,false),(iA 125 (.conv .u64 (Tm 124)),false),(iB 126 .or 116 125,false),(iM 16 126,false)]
def ZD:Rg:=[iM 127 16,iM 128 13,iB 129 .quo 127 128,iM 17 129]
def ZE:Rg:=[iM 130 17,iA 131 (.bin .gtr (Tm 130) (.const (.int .u64 4294967295)))]
def ZF:Rg:=[iA 17 (.mv (.const (.int .u64 4294967295)))]
def ZG:Rd:=[(iM 132 12,true),(iM 133 17,false),(iK 134 35 133,true),(iK2 135 44 132 134,true),(iM 136 11,true),(iM 137 15,true),(iM 138 15,true),(iM 139 12,true),(iN 140 139,true),(iB 141 .add 138 140,true),(iC 142 .add 141 1,true),(iA 143 (.slice 1 (Tm 136) (some (Tm 137)) (some (Tm 142)) none),true),(iA 144 (.append 1 4 (.const .aB) (Tm 143)),true),(iK2 145 32 135 144,true),(iC 146 .gtr 145 0,false)]
def ZH:Rg:=[iM 147 17,iA 148 (.bin .sub (Tm 147) (.const (.int .u64 1))),iM 17 148]
def wK:aC:=(.seq (dq ZG (.cond (Tm 146) .skip (.exit 4))) (.block 5 (.region ZH)))
def GC:Rg:=[iM 149 11,iM 150 15,iM 151 15,iM 152 12,iN 153 152,iB 154 .add 151 153,iC 155 .add 154 1,iA 156 (.slice 1 (Tm 149) (some (Tm 150)) (some (Tm 155)) none),iA 157 (.append 1 4 (.const .aB) (Tm 156)),iM 158 12,iM 159 17,iK 160 35 159,iK2 161 44 158 160,iK2 162 42 157 161,iM 18 162]
def GD:Rg:=[iI 19 0]
def ZI:Rg:=[iM 163 19,iM 164 12,iN 165 164,iB 166 .leq 163 165]
def ZJ:Rg:=[iM 169 11,iM 170 15,iM 171 19,iB 172 .add 170 171,iX 173 1 169 172,⟨none,.store 1 (Tm 173) (.const (.int .u32 0)),none⟩]
def ZK:Rg:=[iM 174 19,iM 175 18,iN 176 175,iB 177 .lss 174 176]
def ZL:Rg:=[iM 178 11,iM 179 15,iM 180 19,iB 181 .add 179 180,iM 182 18,iM 183 19,iX 184 1 182 183,iL 185 184,iX 186 1 178 181,iS 1 186 185]
def GF:Rg:=[iM 167 19,iC 168 .add 167 1,iM 19 168]
def wL:aC:=(.seq (sq ZI (.cond (Tm 166) .skip (.exit 6))) (.seq (.block 7 (sq ZJ (sq ZK (.cond (Tm 177) (.region ZL) .skip)))) (.region GF)))
def GG:Rg:=[iM 187 14,iM 188 15,iM 189 17,iA 190 (.conv .u32 (Tm 189)),iX 191 1 187 188,iS 1 191 190]
def GH:Rg:=[iM 106 15,iC 107 .sub 106 1,iM 15 107]
def wM:aC:=(.seq (sq ZB (.cond (Tm 105) .skip (.exit 2))) (.seq (.block 3 (dq ZC (sq ZD (.seq (sq ZE (.cond (Tm 131) (.region ZF) .skip)) (.seq (.block 4 (.loop wK)) (sq GC (.seq (sq GD (.block 6 (.loop wL))) (.region GG)))))))) (.region GH)))
def GI:Rg:=[iM 192 14,iK 193 38 192,iM 194 11,iK 195 38 194,iM 196 10,iK2 197 40 195 196,iM 4 193,iM 5 197]
def BH:aC:=(sq ow (.seq (sq oz (.cond (Tm 23) (sq o9 .ret) .skip)) (.seq (sq pd (.cond (Tm 28) (sq NY (sq NZ (.seq (sq OA (.block 0 (.loop FW))) (sq FX .ret)))) .skip)) (sq YZ (sq ZA (sq FY (sq FZ (sq GA (.seq (sq GB (.block 2 (.loop wM))) (sq GI .ret))))))))))
def alZ:List Nat:=[76]
def we:aZ:=⟨2,198,BH,[.tmp 4,.tmp 5]⟩
def adT:Rg:=[iZ 4,iZ 5,iI 6 0]
def adU:Rg:=[iM 9 0,iK 10 41 9,iM 11 10,gM 12 1 11 false,gK 13 41 12 11 false,iQ 14 11 13]
def wd:Rg:=[iZ 4,iZ 5,iI 6 2]
def adV:Rg:=[iM 15 1,iK 16 38 15,iN 17 16,iC 18 .eql 17 0]
def adW:Rg:=[iZ 4,iZ 5,iI 6 3]
def adX:Rg:=[iM 20 0,iK 21 38 20,iM 22 1,iK 23 38 22,iK2 24 39 21 23,iM 19 24,iE 25 19 0,iE 26 19 1,iM 7 25,iM 8 26]
def adY:Rg:=[iM 27 7,iM 28 8,iM 4 27,iM 5 28,iI 6 0]
def UY:aC:=(sq adT (.seq (sq adU (.cond (Tm 14) (sq wd .ret) .skip)) (.seq (sq adV (.cond (Tm 18) (sq adW .ret) .skip)) (sq adX (sq adY .ret)))))
def aII:List Nat:=[]
def udiv:aZ:=⟨2,29,UY,[.tmp 4,.tmp 5,.tmp 6]⟩
def aeA:Rg:=[iZ 4,iI 5 0]
def aeB:Rg:=[iM 10 0,iK 11 41 10,iM 12 11,gM 13 1 12 false,gK 14 41 13 12 false,iQ 15 12 14]
def wg:Rg:=[iZ 4,iI 5 2]
def aeC:Rg:=[iM 16 0,iK 17 38 16,iM 18 1,iK 19 38 18,iM 6 17,iM 7 19]
def aeD:Rg:=[iM 20 7,iN 21 20,iC 22 .gtr 21 0]
def aeE:Rg:=[iM 24 6,iM 25 7,iK2 26 39 24 25,iM 23 26,iE 27 23 0,iE 28 23 1,iM 8 27,iM 9 28]
def aeF:Rg:=[iM 29 7,iM 30 9,iM 6 29,iM 7 30]
def adZ:aC:=(.seq (sq aeD (.cond (Tm 22) .skip (.exit 0))) (.block 1 (sq aeE (.region aeF))))
def aeG:Rg:=[iM 31 6,iM 4 31,iI 5 0]
def VB:aC:=(sq aeA (.seq (sq aeB (.cond (Tm 15) (sq wg .ret) .skip)) (sq aeC (.seq (.block 0 (.loop adZ)) (sq aeG .ret)))))
def aIK:List Nat:=[]
def aBT:aZ:=⟨2,32,VB,[.tmp 4,.tmp 5]⟩
def p7:Rg:=[iA 6 (.alloc [zB,.aB,.aB])]
def p8:Rg:=[iM 9 1,iK 10 38 9,iM 11 2,iK 12 38 11,iM 1 10,iM 2 12]
def p9:Rg:=[iM 13 1,iN 14 13,iC 15 .eql 14 0]
def qa:Rg:=[iA 16 (.aTI true 1 1 [(.int .u32 0)] [(0,(.const (.int .u32 1)))]),iA 17 (.build [zB,.aB,.aB] [(2,1,(Tm 16))]),iS 3 6 17]
def qb:Rg:=[iM 19 1,iM 20 2,iK2 21 34 19 20,iM 18 21,iE 22 18 0,iE 23 18 1,iM 7 22,iM 8 23]
def qc:Rg:=[iM 24 7,iN 25 24,iC 26 .gtr 25 1,iM 27 26,gM 28 7 27 false,iG 29 (.aTT 1 (Tm 28) (Ci 0)) 27 false,gL 30 29 27 false,iG 31 (.bin .gtr (Tm 30) (.const (.int .u32 1))) 27 false,iQ 32 27 31]
def OO:Rg:=[iM 34 1,iM 35 7,iK2 36 33 34 35,iM 33 36,iE 37 33 0,iE 38 33 1,iE 39 33 2,iM 1 37]
def OP:Rg:=[iM 41 2,iM 42 7,iK2 43 33 41 42,iM 40 43,iE 44 40 0,iE 45 40 1,iE 46 40 2,iM 2 44]
def yV:Rg:=[iM 47 0,iM 48 1,iM 49 2,iA 50 (.build [zB,.aB,.aB] [(0,1,(Tm 47)),(1,1,(Tm 48)),(2,1,(Tm 49))]),iS 3 6 50]
def BJ:aC:=(sq p7 (sq p8 (.seq (sq p9 (.cond (Tm 15) (sq qa .ret) .skip)) (.seq (sq qb (sq qc (.cond (Tm 32) (sq OO (.region OP)) .skip))) (sq yV .ret)))))
def amR:List Nat:=[16]
def wm:aZ:=⟨3,51,BJ,[.cell 6 (some 3)]⟩
def Vl:Rg:=[iA 2 (.mv (.const (.int .u64 0)))]
def Vm:Rg:=[iM 3 0,iC 4 .lss 3 0]
def Vn:Rg:=[iM 5 0,iC 6 .add 5 1,iA 7 (.un .neg (Tm 6)),iA 8 (.conv .u64 (Tm 7)),iA 9 (.bin .add (Tm 8) (.const (.int .u64 1))),iM 2 9]
def Vo:Rg:=[iM 10 0,iA 11 (.conv .u64 (Tm 10)),iM 2 11]
def OU:aC:=(sq Vl (.seq (sq Vm (.cond (Tm 4) (sq Vn .ret) .skip)) (sq Vo .ret)))
def aCX:List Nat:=[]
def amW:aZ:=⟨1,12,OU,[.tmp 2]⟩
def Vb:Rg:=[iA 4 (.alloc [zB,.aB,.aB]),iI 5 0]
def Vc:Rg:=[iM 6 1,iC 7 .eql 6 0]
def Vd:Rg:=[iA 8 (.build [zB,.aB,.aB] []),iS 3 4 8,iI 5 3]
def Ve:Rg:=[iM 9 0,iC 10 .lss 9 0,iM 11 1,iC 12 .lss 11 0,iA 13 (.eqb true (Tm 10) (Tm 12)),iM 14 0,iK 15 59 14,iK 16 35 15,iM 17 1,iK 18 59 17,iK 19 35 18,iA 20 (.call 58 [(Tm 13),(Tm 16),(Tm 19)]),iS 3 4 20,iI 5 0]
def OQ:aC:=(sq Vb (.seq (sq Vc (.cond (Tm 7) (sq Vd .ret) .skip)) (sq Ve .ret)))
def aCQ:List Nat:=[]
def Hk:aZ:=⟨2,21,OQ,[.cell 4 (some 3),.tmp 5]⟩
def afG:Rg:=[iA 2 (.alloc [zB,.aB,.aB])]
def afH:Rg:=[iM 6 0,iA 7 (.call 50 [(Tm 6),(Ci 1)]),iM 5 7,iE 8 5 0,iE 9 5 1,iA 3 (.alloc [zB,.aB,.aB]),iS 3 3 8,iM 4 9]
def afI:Rg:=[iO 10 3 3,iS 3 2 10]
def VN:aC:=(sq afG (sq afH (sq afI .ret)))
def aIT:List Nat:=[]
def aCM:aZ:=⟨1,11,VN,[.cell 2 (some 3)]⟩
def utF (xs:List Nat) (n:Nat):PF:=((PF.nil.set 0 (aK xs)).set 3 (.int .i64 n))
theorem aCG {C:Ctx} (xs:List Nat) (M:Lim xs) (N:xs.length≤35184372087808):OL.wp C (aU amH.res (oF 1 (aL (aJ (val xs))))) (PF.args [aK xs]) .nil:=by
 simp only[go_sem,OL,Uv,Uw,amH,aUN];refine wp_loop (α:=Nat) (fun n=>utF xs n) (fun _=>.nil) (fun n=>n≤xs.length∧∀ j x,n≤j→xs[j]?=some x→x=0) (fun n=>n) xs.length ⟨aUU _,fun j x w d=>?_⟩ ?_ a_ ?_
 ·rw[aWG w] at d; cases d
 ·unfold utF;exact Lq
 rintro n ⟨J,B⟩;have done:(0<n→∀ h:n-1<xs.length,xs[n-1]≠0)→∀ F:PF,(utF xs n).le F→aC.wp C (.seq (.region fi) .ret) (aU [.tmp 2] (oF 1 (aL (aJ (val xs))))) F .nil:=by
  intro h F u;have f0:F 0=some (aK xs):=u 0 _ (by unfold utF; simp only[go_sem]);have E:F 3=some (.int .i64 n):=u 3 _ (by unfold utF; simp only[go_sem]);have y:xs.take n=aJ (val xs):=NP M J B fun x l d=>by
   rw[aVB Om] at d;injection d with d
   subst d;exact h l Om
  have H:((n:Nat):Int)≤(xs.length:Nat):=Om;simp only[go_sem,fi,f0,E,aUN,H,or_true,aVY];refine iD (rows:=[]) (src:=aL (aJ (val xs))) .nil ?_ ?_ fun v H' K _=>?_
  ·simp only[go_sem];rw[← y,← List.map_take]
  ·unfold roomFor;rw[cD,← y,aVJ];simp only[aXD,maxLen];omega
  ·exact MZ (.inr rfl) (by simpa using K) rfl
 simp only[aC.wp,go_sem] at done;simp only[go_sem,Uu,Ux,utF];by_cases l:0<n
 ·have i:((n:Nat):Int)>0:=Om;have hlt:n-1<xs.length:=Om;have p:=bU xs hlt;have A:IntKind.i64.wrap ((n:Int)-1)=((n-1:Nat):Int):=xL Om l;simp only[go_sem,i,A,p];by_cases c:xs[n-1]=0
  ·simp only[go_sem,bP (Om:((xs[n-1]:Nat):Int)=0),Uy,A];refine aG (n-1) ⟨by omega,fun j x w d=>?_⟩ Om ?_ a_
   ·by_cases e:j=n-1
    ·subst e;rw[aVB hlt] at d;injection d with d
     omega
    ·exact B j x Om d
   ·exact Lq
  ·simp only[go_sem,bG (Om:((xs[n-1]:Nat):Int)≠0)];exact done (fun _ _=>c) _ (by unfold utF; exact Lq)
 ·have i:¬ ((n:Nat):Int)>0:=Om;simp only[go_sem,i];exact done (fun h=>absurd h l) _ (by unfold utF; exact Lq)
structure qF (C:Ctx):Prop where
 trimM:∀ xs,Lim xs→xs.length≤35184372087808→aH C 38 [aK xs] .nil (oF 1 (aL (aJ (val xs))))
theorem qF.trim {C:Ctx} (L:qF C) (xs:List Nat) (d:Lim xs) (c:xs.length≤35184372087808):aH C 38 [aK xs] .nil (aI (aK (aJ (val xs)))):=(L.trimM xs d c).freeze
theorem aBU {C:Ctx} (L:qF C) (v:Nat) (A:v<18446744073709551616):OC.wp C (aU amC.res (bX (aK (aJ v)))) (PF.args [.int .u64 v]) .nil:=by
 have p:IntKind.u32.wrap ((v:Nat):Int)=((v%4294967296:Nat):Int):=cL v;have e:v/4294967296<4294967296:=Om;have u:IntKind.u32.wrap ((v/4294967296:Nat):Int)=((v/4294967296:Nat):Int):=by rw[cL,aWA e]
 have w:Lim [v%4294967296,v/4294967296]:=by
  intro x l;simp only[aVC,List.mem_nil_iff,or_false] at l;rcases l with rfl | rfl
  ·exact aWJ _ (by decide)
  ·exact e
 have c:val [v%4294967296,v/4294967296]=v:=by simp only[val,Nat.mul_zero,aWY]; exact Nat.mod_add_div v 4294967296
 have d:shift .shr .u64 (v:Int) 32=some (.int .u64 ((v/4294967296:Nat):Int)):=yP;have y:(2:Nat)*1≤16777216:=by decide
 simp only[go_sem,OC,Ug,Uh,amC,p,d,u,y];have i:=L.trim [v%4294967296,v/4294967296] w (by simp);rw[c] at i;refine aA i rfl ?_;simp only[go_sem];exact aX (.inr rfl) .nil rfl a_ ⟨.refl _,rfl⟩
theorem asW {C:Ctx} (L:qF C) (xs:List Nat) (d:Lim xs) (c:xs.length≤35184372087808):GJ.wp C (aU Uf.res (bX (.bool (decide (nl (val xs)>512))))) (PF.args [aK xs]) .nil:=by
 simp only[go_sem,GJ,Ei,Ej,Uf];refine aA (L.trim xs d c) rfl ?_;simp only[go_sem,aUN,bB];refine bC rfl ?_;rw[decide_eq_decide];omega
theorem ahT {a b:Nat} (h:nl a<nl b):dQ a b=-1:=by
 have:a<b:=by
  rcases aVL a b with h' | h'
  ·exact h'
  ·have:=fX h'; omega
 simp[dQ,this]
theorem ahS {a b:Nat} (h:nl b<nl a):dQ a b=1:=by
 have:b<a:=by
  rcases aVL b a with h' | h'
  ·exact h'
  ·have:=fX h'; omega
 have c:¬ a<b:=Om;simp[dQ,this,c]
def alW (X Y:List Nat) (i:Int):PF:=(((PF.nil.set 0 (aK X)).set 1 (aK Y)).set 5 (.int .i64 i))
theorem aIF {C:Ctx} (L:qF C) (xs ys:List Nat) (w:Lim xs) (x:Lim ys) (Q:xs.length≤35184372087808) (R:ys.length≤35184372087808) :
  UX.wp C (aU aBO.res (aI (.int .i64 (dQ (val xs) (val ys))))) (PF.args [aK xs,aK ys]) .nil:=by
 simp only[go_sem,UX,adJ,adK,aBO];refine aA (L.trim xs w Q) Ev ?_;simp only[go_sem];refine aA (L.trim ys x R) Ev ?_;have S:=fO w;have B:=fO x;simp only[go_sem,adL,aUN,bB];by_cases i:nl (val xs)≠nl (val ys)
 ·simp only[go_sem,dO (show ((nl (val xs):Nat):Int)≠(nl (val ys):Nat) by omega),adM];by_cases E:nl (val xs)<nl (val ys)
  ·simp only[go_sem,aUN,bB,show ((nl (val xs):Nat):Int)<(nl (val ys):Nat) by omega,adN];refine aR (.inr rfl) Ev ?_;rw[ahT E]; rfl
  ·simp only[go_sem,aUN,bB,show ¬ ((nl (val xs):Nat):Int)<(nl (val ys):Nat) by omega,adO];refine aR (.inr rfl) Ev ?_;rw[ahS Om]; rfl
 replace i:=Decidable.of_not_not i;simp only[go_sem,cA (show ((nl (val xs):Nat):Int)=(nl (val ys):Nat) by omega),adP,aUN,bB];have ex:=aT (val xs);have l:=aT (val ys);have y:=aV (val xs);have A:=aV (val ys);generalize K:aJ (val xs)=X at *
 generalize M:aJ (val ys)=Y at *
 have N:X.length=nl (val xs):=by rw[← K]; rfl
 have O:Y.length=nl (val xs):=by rw[i,← M]; rfl
 refine wp_loop (α:=Nat) (fun k=>alW X Y ((k:Int)-1)) (fun _=>.nil) (fun k=>k≤nl (val xs)∧X.drop k=Y.drop k) (fun k=>k) (nl (val xs)) ⟨aUU _,?_⟩ ?_ a_ ?_
 ·rw[aYI Om,aYI Om]
 ·unfold alW
  (repeat' (first|exact d_|refine c_ ?_ ?_))<;>first|(simp only[go_sem,wrap_i64 (show -9223372036854775808≤((nl (val xs):Nat):Int)-1 by omega) (show ((nl (val xs):Nat):Int)-1≤9223372036854775807 by omega)]<;>rfl)|rfl
 rintro k ⟨V,c⟩;simp only[go_sem,T1,adQ,alW];by_cases U:0<k
 ·obtain⟨m,rfl⟩:∃ m,k=m+1:=⟨k-1,by omega⟩;have u:((m+1:Nat):Int)-1=(m:Int):=Om;have p:(m:Int)≥0:=Om;have d:m<X.length:=Om;have e:m<Y.length:=Om;simp only[go_sem,u,p];refine bS .nil dT a_ ?_;simp only[go_sem,adR,bU X d,bU Y e];by_cases F:X[m]<Y[m]
  ·simp only[go_sem,show ((X[m]:Nat):Int)<(Y[m]:Nat) by omega,adS];refine aR (.inr rfl) Ev ?_;have:=it y d e c F;rw[ex,l] at this;simp[bQ,dQ,this]
  ·simp only[go_sem,show ¬ ((X[m]:Nat):Int)<(Y[m]:Nat) by omega];refine bS .nil dT a_ ?_;simp only[go_sem,T2,bU X d,bU Y e];by_cases H:X[m]>Y[m]
   ·simp only[go_sem,show ((X[m]:Nat):Int)>(Y[m]:Nat) by omega,T3];refine aR (.inr rfl) Ev ?_;have:=it A e d c.symm H;rw[ex,l] at this;have J:¬ val xs<val ys:=Om;simp[bQ,dQ,this,J]
   ·simp only[go_sem,show ¬ ((X[m]:Nat):Int)>(Y[m]:Nat) by omega,T4];refine aG m ⟨by omega,yx d e c Om⟩ Om ?_ a_
    (repeat' (first|exact d_|refine c_ ?_ ?_))<;>first|(simp only[go_sem,wrap_i64 (Om:-9223372036854775808≤(m:Int)-1) (Om:(m:Int)-1≤9223372036854775807)]<;>rfl)|rfl
 ·have:k=0:=Om;subst this;have u:¬ ((0:Nat):Int)-1≥0:=by decide
  simp only[go_sem,u,T5];refine aR (.inr rfl) Ev ?_;rw[aVY,aVY] at c;have:val xs=val ys:=by rw[← ex,← l,c]
  simp[bQ,dQ,this]
theorem DJ (n:Nat):(((n:Nat):Int)==0)=decide (n=0):=by
 by_cases h:n=0
 ·subst h; rfl
 ·rw[bG Om,decide_eq_false h]
structure Hz (C:Ctx):Prop extends qF C where
 make:∀ v:Nat,v<18446744073709551616→aH C 35 [.int .u64 v] .nil (aI (aK (aJ v)))
 large:∀ xs,Lim xs→xs.length≤35184372087808→aH C 41 [aK xs] .nil (aI (.bool (decide (nl (val xs)>512))))
 cmp:∀ xs ys,Lim xs→Lim ys→xs.length≤35184372087808→ys.length≤35184372087808→aH C 32 [aK xs,aK ys] .nil (aI (.int .i64 (dQ (val xs) (val ys))))
def amB (a b:Nat):PF:=((PF.nil.set 6 (aK (aJ a))).set 7 (aK (aJ b)))
structure gk (C:Ctx):Prop extends Hz C where
 divide:∀ A B:Nat,B≠0→nl A≤512→nl B≤512→aH C 39 [aK (aJ A),aK (aJ B)] .nil (aI (rD A B))
def aiW (a b:Nat):PV:=if eC a b then .tup [aK [],.int .i64 2] else .tup [aK (aJ (aUP a b)),.int .i64 0]
theorem aIJ {C:Ctx} (L:gk C) (a b:List Nat) (l:Lim a) (p:Lim b) (w:a.length≤35184372087808) (A:b.length≤35184372087808) :
  VB.wp C (aU aBT.res (bX (aiW (val a) (val b)))) (PF.args [aK a,aK b]) .nil:=by
 unfold aiW;simp only[go_sem,VB,aeA,aeB,aBT];refine aA (L.large a l w) rfl ?_;by_cases c:nl (val a)>512
 ·simp only[go_sem,c,wg];rw[if_pos (by simp[eC,c])];exact eW rfl
 simp only[go_sem,c];refine aA (L.large b p A) rfl ?_;by_cases d:nl (val b)>512
 ·simp only[go_sem,d,wg];rw[if_pos (by simp[eC,d])];exact eW rfl
 rw[if_neg (by simp[eC,c,d])];simp only[go_sem,d,aeC];refine aA (L.trim a l w) rfl ?_;simp only[go_sem];refine aA (L.trim b p A) rfl ?_;simp only[go_sem];refine wp_loop (α:=Nat × Nat) (fun t=>amB t.1 t.2) (fun _=>.nil) (fun t=>aUP t.1 t.2=aUP (val a) (val b)∧nl t.1≤512∧nl t.2≤512) (fun t=>t.2) (val a,val b) ⟨rfl,by simp only; omega,by simp only; omega⟩ ?_ a_ ?_
 ·unfold amB;exact Lq
 rintro⟨x,y⟩ ⟨i,B,u⟩;simp only at i B u;simp only[go_sem,adZ,aeD,amB,bB];by_cases e:y=0
 ·subst e;have:¬ ((nl 0:Nat):Int)>0:=by rw[zT]; decide
  simp only[go_sem,this,aeG];refine aX (vs:=[aK (aJ x),.int .i64 0]) (.inr rfl) .nil rfl a_ ⟨?_,rfl⟩;rw[← i,Nat.gcd_zero_right];exact .refl _
 ·have E:nl y≠0:=fun h=>e (iY.1 h);have:((nl y:Nat):Int)>0:=Om;simp only[go_sem,this,aeE];refine aA (L.divide x y e Om Om) rfl ?_;simp only[go_sem,rD,aeF];have hlt:x%y<y:=aWJ _ (aXB e);refine aG (y,x%y) ⟨?_,u,?_⟩ hlt ?_ a_
  ·simp only;rw[← i,Nat.gcd_comm y,← Nat.gcd_rec y x,Nat.gcd_comm]
  ·have:=fX (Nat.le_of_lt hlt);simp only; omega
  ·exact Lq
theorem aIH {C:Ctx} (L:gk C) (a b:List Nat) (p:Lim a) (i:Lim b) (u:a.length≤35184372087808) (l:b.length≤35184372087808) :
  UY.wp C (aU udiv.res (bX (nG (val a) (val b)))) (PF.args [aK a,aK b]) .nil:=by
 unfold nG;simp only[go_sem,UY,adT,adU,udiv];refine aA (L.large a p u) rfl ?_;by_cases d:nl (val a)>512
 ·simp only[go_sem,d,wd];rw[if_pos (by simp[eC,d])];exact sT rfl
 simp only[go_sem,d];refine aA (L.large b i l) rfl ?_;by_cases e:nl (val b)>512
 ·simp only[go_sem,e,wd];rw[if_pos (by simp[eC,e])];exact sT rfl
 rw[if_neg (by simp[eC,d,e])];simp only[go_sem,e,adV];refine aA (L.trim b i l) rfl ?_;simp only[go_sem,aUN,bB,DJ,iY];by_cases c:val b=0
 ·rw[if_pos c];simp only[go_sem,decide_eq_true c,adW];exact sT rfl
 rw[if_neg c];simp only[go_sem,decide_eq_false c,adX];refine aA (L.trim a p u) rfl ?_;simp only[go_sem];refine aA (L.trim b i l) rfl ?_;simp only[go_sem];refine aA (L.divide (val a) (val b) c Om Om) rfl ?_;simp only[go_sem,rD,adY];exact aX (.inr rfl) .nil rfl a_ ⟨.refl _,rfl⟩
def nE (neg:Bool) (a b:Nat):FV:=(neg&&decide (a/aUP a b≠0),a/aUP a b,b/aUP a b)
structure H7 (C:Ctx):Prop extends gk C where
 gcd:∀ a b,Lim a→Lim b→a.length≤35184372087808→b.length≤35184372087808→aH C 34 [aK a,aK b] .nil (aI (aiW (val a) (val b)))
 div:∀ a b,Lim a→Lim b→a.length≤35184372087808→b.length≤35184372087808→aH C 33 [aK a,aK b] .nil (aI (nG (val a) (val b)))
theorem tY {n:Nat} (h:nl n≤512):(aJ n).length≤35184372087808:=by rw[bB]; omega
theorem xB:aJ 1=[1]:=oW (by decide) (by decide)
theorem j8 {n:Nat} (h:n≠0):aJ n=n%4294967296::aJ (n/4294967296):=sS h
theorem AQ {n:Nat} (h:n≠0):(nl n>1∨n%4294967296>1)↔n≠1:=by
 constructor
 ·rintro h1 rfl;rcases h1 with h1 | h1
  ·rw[nl,xB] at h1; simp at h1
  ·omega
 ·intro h1;by_cases c:nl n>1
  ·exact .inl c
  ·have:n<4294967296 ^ 1:=(jI n 1).1 Om;rw[Nat.pow_one] at this;rw[aWA this];exact .inr Om
theorem amQ {C:Ctx} (L:H7 C) (neg:Bool) (a b:List Nat) (V:Lim a) (W:Lim b) (Z:a.length≤35184372087808) (lb:b.length≤35184372087808) (w:nl (val a)≤512) (p:nl (val b)≤512) (A:val b≠0) :
  BJ.wp C (aU wm.res (bX (.agg (nE neg (val a) (val b)).rf.cells))) (PF.args [.bool neg,aK a,aK b]) .nil:=by
 have c:aUP (val a) (val b)≠0:=fun h=>A (Nat.eq_zero_of_gcd_eq_zero_right h);have J:aUP (val a) (val b)≤val b:=Nat.gcd_le_right _ (aXB A);have N:nl (aUP (val a) (val b))≤512:=aWE (fX J) p;have K:eC (val a) (val b)=false:=iV w p;simp only[go_sem,BJ,p7,p8,wm];refine aO fun o ho=>?_;simp only[go_sem];refine aA (L.trim a V Z) rfl ?_;simp only[go_sem];refine aA (L.trim b W lb) rfl ?_;simp only[go_sem,p9,aUN,bB,DJ,iY];by_cases u:val a=0
 ·simp only[go_sem,decide_eq_true u,qa];have e:(nE neg (val a) (val b)).rf=⟨false,[],[1]⟩:=by rw[u];unfold nE FV.rf;simp[fR,Nat.div_self (aXB A),xB]
  rw[e];refine aX (vs:=[.agg [.bool false,.aB,aK [1]]]) (.inr rfl) .nil ?_ a_ ⟨show Co (.agg _) (.agg _) from CoL.agg (CoL.cons (.refl _) (CoL.cons (.nil 1) (CoL.cons (.refl _) .nil))),rfl⟩;simp only[go_sem];rfl
 have d:=L.gcd (aJ (val a)) (aJ (val b)) (aV _) (aV _) (tY w) (tY p);rw[aT,aT,aiW,K] at d;simp only[go_sem,decide_eq_false u,qb];refine aA d rfl ?_;have fin:∀ x y:Nat,x=val a/aUP (val a) (val b)→y=val b/aUP (val a) (val b)→∀ (F:PF) (H:PH),F 0=some (.bool neg)→F 1=some (aK (aJ x))→F 2=some (aK (aJ y))→F 6=some (.ptr o 3 0 0)→H o=some (.rows 3 [[.bool false,.aB,.aB]]) →
   aC.wp C (.seq (.region yV) .ret) (aU [.cell 6 (some 3)] (bX (.agg (nE neg (val a) (val b)).rf.cells))) F H:=by
  intro x y M Y F H f0 f1 f2 f6 B;subst M; subst Y;simp only[go_sem,yV,f0,f1,f2,f6,B];have X:val a/aUP (val a) (val b)≠0:=by have:=Nat.div_pos (Nat.gcd_le_left (val b) (aXB u)) (aXB c);omega
  have e:(nE neg (val a) (val b)).rf=⟨neg,aJ (val a/aUP (val a) (val b)),aJ (val b/aUP (val a) (val b))⟩:=by unfold nE FV.rf;simp only[X,ne_eq,not_false_eq_true,decide_true,aWQ]
  rw[e];refine aX (vs:=[.agg (eM neg (aJ (val a/aUP (val a) (val b))) (aJ (val b/aUP (val a) (val b))))]) (.inr rfl) .nil ?_ a_ ⟨.refl _,rfl⟩;simp only[go_sem,f6]
 simp only[aC.wp,go_sem] at fin;have E:=fun x (M:nl x≤512)=>L.div (aJ x) (aJ (aUP (val a) (val b))) (aV _) (aV _) (tY M) (tY N);simp only[aT,nG] at E;have tail:aUP (val a) (val b)≠1→∀ (F:PF) (H:PH),F 0=some (.bool neg)→F 1=some (aK (aJ (val a)))→F 2=some (aK (aJ (val b)))→F 6=some (.ptr o 3 0 0)→F 7=some (aK (aJ (aUP (val a) (val b))))→H o=some (.rows 3 [[.bool false,.aB,.aB]]) →
   aC.wp C (.seq (.seq (.region OO) (.region OP)) (.seq (.region yV) .ret)) (aU [.cell 6 (some 3)] (bX (.agg (nE neg (val a) (val b)).rf.cells))) F H:=by
  intro _ F H f0 f1 f2 f6 f7 B;have R:=E (val a) w;have S:=E (val b) p;rw[iV w N,if_neg c] at R;rw[iV p N,if_neg c] at S;simp only[go_sem,OO,f1,f7];refine aA R rfl ?_;simp only[go_sem,aXU,OP,f2,f7];refine aA S rfl ?_;simp only[go_sem,aXU];exact fin _ _ rfl rfl _ _ (by simp only[go_sem,f0]) rfl rfl (by simp only[go_sem,f6]) B
 simp only[aC.wp,go_sem] at tail;simp only[go_sem,aXU,qc,aUN,bB];by_cases O:nl (aUP (val a) (val b))>1
 ·have i:((nl (aUP (val a) (val b)):Nat):Int)>1:=Om;simp only[go_sem,i];exact tail ((AQ c).1 (.inl O)) _ _ rfl rfl rfl rfl rfl Sq
 ·have i:¬ ((nl (aUP (val a) (val b)):Nat):Int)>1:=Om;simp only[go_sem,i,j8 c];by_cases Q:aUP (val a) (val b)%4294967296>1
  ·have l:((aUP (val a) (val b)%4294967296:Nat):Int)>1:=Om;simp only[go_sem,l];exact tail ((AQ c).1 (.inr Q)) _ _ rfl rfl rfl rfl (by simp only[go_sem,j8 c]) Sq
  ·have l:¬ ((aUP (val a) (val b)%4294967296:Nat):Int)>1:=Om;have U:aUP (val a) (val b)=1:=by
    rcases Decidable.em (aUP (val a) (val b)=1) with h | h
    ·exact h
    ·rcases (AQ c).2 h with h | h
     ·exact absurd h O
     ·exact absurd h Q
   simp only[go_sem,l];exact fin (val a) (val b) (by rw[U,Nat.div_one]) (by rw[U,Nat.div_one]) _ _ rfl rfl rfl rfl Sq
theorem aCW {C:Ctx} (v:Int) (p:-9223372036854775808≤v) (u:v≤9223372036854775807) :
  OU.wp C (aU amW.res (aI (.int .u64 (v.natAbs:Nat)))) (PF.args [.int .i64 v]) .nil:=by
 simp only[go_sem,OU,Vl,Vm,amW];by_cases c:v<0
 ·have d:IntKind.i64.wrap (v+1)=v+1:=wrap_i64 Om Om;have i:IntKind.i64.wrap (0-(v+1))=-(v+1):=by rw[wrap_i64 Om Om]; omega
  have l:IntKind.u64.wrap (IntKind.u64.wrap (-(v+1))+1)=(v.natAbs:Int):=by rw[fY,fY]; omega
  simp only[go_sem,c,Vn,d,i,l];refine aR (.inr rfl) rfl ?_;rfl
 ·have e:IntKind.u64.wrap v=(v.natAbs:Int):=by rw[fY]; omega
  simp only[go_sem,c,Vo,e];refine aR (.inr rfl) rfl ?_;rfl
structure agT (C:Ctx):Prop extends H7 C where
 lowest:∀ neg a b,Lim a→Lim b→a.length≤35184372087808→b.length≤35184372087808→nl (val a)≤512→nl (val b)≤512→val b≠0→aH C 58 [.bool neg,aK a,aK b] .nil (aI (.agg (nE neg (val a) (val b)).rf.cells))
 size:∀ v:Int,dK v→aH C 59 [.int .i64 v] .nil (aI (.int .u64 (v.natAbs:Nat)))
def mkT (n d:Int):RF:=(nE (decide (n<0) != decide (d<0)) n.natAbs d.natAbs).rf
def xI (n d:Int):PV:=if d=0 then CC 3 else .tup [.agg (mkT n d).cells,.int .i64 0]
theorem aCP {C:Ctx} (L:agT C) (n d:Int) (e:dK n) (i:dK d) :
  OQ.wp C (aU Hk.res (bX (xI n d))) (PF.args [.int .i64 n,.int .i64 d]) .nil:=by
 simp only[go_sem,OQ,Vb,Vc];refine aO fun o l=>?_;unfold xI;by_cases c:d=0
 ·subst c;simp only[go_sem,Vd];refine iW ?_;simp only[go_sem,Hk]
 ·rw[if_neg c];simp only[go_sem,bG c,Ve];refine aA (L.size n e) rfl ?_;simp only[go_sem];refine aA (L.make n.natAbs Om) rfl ?_;simp only[go_sem];refine aA (L.size d i) rfl ?_;simp only[go_sem];refine aA (L.make d.natAbs Om) rfl ?_;simp only[go_sem];have p:nl n.natAbs≤2:=oL Om;have u:nl d.natAbs≤2:=oL Om;have low:=L.lowest (decide (n<0) != decide (d<0)) (aJ n.natAbs) (aJ d.natAbs) (aV _) (aV _) (by rw[bB]; omega) (by rw[bB]; omega);rw[aT,aT] at low;have low:=low Om Om Om;refine aA low rfl ?_;simp only[go_sem];exact aX (.inr rfl) .nil (vs:=[.agg (mkT n d).cells,.int .i64 0]) (by simp only[go_sem,Hk]; rfl) a_ ⟨.refl _,rfl⟩
structure gl (C:Ctx):Prop extends agT C where
 fmk:∀ n d:Int,dK n→dK d→aH C 50 [.int .i64 n,.int .i64 d] .nil (aI (xI n d))
theorem afF {C:Ctx} (L:gl C) (n:Int) (i:dK n) :
  VN.wp C (aU aCM.res (bX (.agg (mkT n 1).cells))) (PF.args [.int .i64 n]) .nil:=by
 simp only[go_sem,VN,afG,afH,aCM];refine aO fun o l=>?_;simp only[go_sem];refine aA (L.fmk n 1 i (by unfold dK; omega)) rfl ?_;unfold xI;rw[if_neg (by decide)];simp only[go_sem];refine aO fun p e=>?_;have c:o≠p:=by rintro rfl;simp only[aN,if_true] at e;cases e
 have d:p≠o:=fun h=>c h.symm;simp only[go_sem,c,afI];refine aX (vs:=[.agg (mkT n 1).cells]) (.inr rfl) .nil ?_ a_ ⟨.refl _,rfl⟩;simp only[go_sem,d]
def aE (l:List Nat) (n a:Nat):Nat × Nat:=if l.length≤a∨n<2 then (0,a) else (l.getD a 0%n,a+1)
theorem bZ (l:List Nat) {n:Nat} (h:0<n) (a:Nat):(aE l n a).1<n:=by
 unfold aE;split
 ·exact h
 ·exact aWJ _ h
theorem bJ (l:List Nat) (n:Nat) {a:Nat} (h:a≤l.length):(aE l n a).2≤l.length:=by
 unfold aE;split
 ·exact h
 ·simp only; omega
def fK (l:List Nat) (a:Nat):RF × Nat :=
 let x:=aE l 6 a
 let y:=aE l 8 x.2
 (mkT ((1+x.1:Nat):Int) ((1+y.1:Nat):Int),y.2)
abbrev jY:RF:=mkT 0 1
def jH (l:List Nat) (i j a:Nat):RF × Nat :=
 if j=i+1 then fK l a
 else if j=i then (jY,a)
 else let t:=aE l 3 a
  if t.1=0 then fK l t.2 else (jY,t.2)
def dS (l:List Nat) (i a:Nat):Nat→List RF × Nat
 | 0=>([],a)
 | j+1=>let s:=dS l i a j
  let z:=jH l i j s.2
  (s.1++[z.1],z.2)
structure DS where
 start:List RF
 exit:List RF
 aTH:List (List RF)
 left:Nat
 a:Nat
def dR (l:List Nat) (n i:Nat) (s:DS):Nat × Nat:=if i+1<n then aE l (s.left+1) s.a else (s.left,s.a)
def fD (l:List Nat) (n i a:Nat):RF × Nat :=
 let e:=fK l a
 if i+1<n then (let t:=aE l 3 e.2; (if t.1=0 then jY else e.1,t.2)) else e
def fV (l:List Nat) (n a:Nat):Nat→DS
 | 0=>⟨[],[],[],8,a⟩
 | i+1=>let s:=fV l n a i
  let k:=dR l n i s
  let e:=fD l n i k.2
  let r:=dS l i e.2 n
  ⟨s.start++[mkT (k.1:Nat) 8],s.exit++[e.1],s.aTH++[r.1],s.left-k.1,r.2⟩
def rE (l:List Nat) (dN a:Nat):cG × Nat :=
 let t:=aE l dN a
 let s:=fV l (1+t.1) t.2 (1+t.1)
 (⟨[],s.start,s.aTH,s.exit⟩,s.a)
def kP (l:List Nat) (a:Nat):Nat→List RF × Nat
 | 0=>([],a)
 | k+1=>let s:=kP l a k
  let z:=fK l s.2
  (s.1++[z.1],z.2)
abbrev cC (n:Nat):List UInt8:=Lib.decDigits n
def gV (l:List Nat) (a:Nat):Nat→List cG × Nat
 | 0=>([],a)
 | k+1=>let s:=gV l a k
  let z:=rE l 2 s.2
  (s.1++[{ z.1 with name:=[108,97,119]++cC k }],z.2)
def eN (l:List Nat) (aTJ a:Nat):Nat→List cS × Nat
 | 0=>([],a)
 | k+1=>let s:=eN l aTJ a k
  let x:=aE l 4 s.2
  let y:=aE l 8 x.2
  let z:=aE l aTJ y.2
  (s.1++[⟨[109]++cC k,(1+x.1:Nat),(1+y.1:Nat),(z.1:Nat)⟩],z.2)
structure GS where
 aTL:List cF
 aTV:List dL
 a:Nat
def jX (l:List Nat) (mc aTC c:Nat) (s:GS):Nat→GS
 | 0=>s
 | i+1=>let s:=jX l mc aTC c s i
  if s.aTV.length<aTC then
   let t:=aE l mc s.a
   { s with aTV:=s.aTV++[⟨[100]++cC s.aTV.length,(t.1:Nat),(c:Nat)⟩],a:=t.2 }
  else s
def lL (level:Nat):UInt8:=match level with
 | 0=>45
 | 1=>115
 | 2=>114
 | 3=>107
 | _=>109
def nN (l:List Nat) (level c:Nat) (s:GS):GS :=
 let u:=aE l 16 s.a
 let t:=aE l 3 u.2
 let k:=aE l 6 t.2
 let sh:RF × Nat:=if t.1=0 then (mkT 1 ((2+k.1:Nat):Int),k.2) else (jY,t.2)
 { s with aTL:=s.aTL++[⟨[lL level]++cC s.aTL.length,(level:Nat),(c:Nat),(1+u.1:Nat),sh.1⟩],a:=sh.2 }
def qM (aTC:Nat) (s:GS):Bool:=decide (aTC≤s.aTV.length)||decide (35≤s.aTL.length)
def gJ (l:List Nat) (level aTC c:Nat) (rec:Nat→GS→GS) (s:GS):Nat→GS
 | 0=>s
 | i+1=>let s:=gJ l level aTC c rec s i
  if qM aTC s then s else (let s':=nN l level c s; rec (s'.aTL.length-1) s')
def eX (l:List Nat) (mc aTC:Nat):Nat→Nat→GS→GS
 | 0,c,s=>let t:=aE l 2 s.a
  jX l mc aTC c { s with a:=t.2 } (1+t.1)
 | k+1,c,s=>let t:=aE l 2 s.a
  gJ l (4-k) aTC c (eX l mc aTC k) { s with a:=t.2 } (if 4-k=2 then 1 else 1+t.1)
def mG:cF:=⟨[],0,-1,0,jY⟩
def gX (l:List Nat) (a:Nat):Int × Nat :=
 let t:=aE l 3 a
 let k:=aE l 3 t.2
 if t.1=0 then ((1+k.1:Nat),k.2) else (0,t.2)
def mL (l:List Nat) (aTD i a:Nat):bT × Nat :=
 let k:=aE l 2 a
 let m:=aE l 3 k.2
 let h:=aE l 4 m.2
 let q:=aE l (m.1+1) h.2
 let r:=kP l q.2 (max m.1 1)
 let g:=aE l 9 r.2
 let s1:=gX l g.2
 let s2:=gX l s1.2
 let s3:=gX l s2.2
 let s4:=gX l s3.2
 let f:=aE l aTD s4.2
 let b:=aE l 2 f.2
 let ms:List Int × Nat:=if 1<aTD then (if b.1=0 then ([(f.1:Int),1-(f.1:Int)],b.2) else ([(f.1:Int)],b.2)) else ([(f.1:Int)],f.2)
 (⟨[112]++cC i,(1+k.1:Nat),(m.1:Nat),(1+k.1+q.1:Nat),0,s1.1,s2.1,s3.1,s4.1,ms.1,r.1,mkT (g.1:Nat) 8,mkT ((1+h.1:Nat):Int) 1⟩,ms.2)
def dW (l:List Nat) (aTD a:Nat):Nat→List bT × Nat
 | 0=>([],a)
 | k+1=>let s:=dW l aTD a k
  let z:=mL l aTD k s.2
  (s.1++[z.1],z.2)
def eP (l:List Nat) (pols a:Nat):Nat→List eT × Nat
 | 0=>([],a)
 | k+1=>let s:=eP l pols a k
  let z:=aE l pols s.2
  (s.1++[⟨[118]++cC k,(z.1:Nat)⟩],z.2)
def gP (l:List Nat) (aTC aTE a:Nat):aD × Nat :=
 let e:=aE l 2 a
 let d:=aE l 2 e.2
 let aTJ:=gV l d.2 (1+d.1)
 let c:=aE l 2 aTJ.2
 let aTD:=eN l (1+d.1) c.2 (1+c.1)
 let g:=eX l (1+c.1) aTC 4 0 ⟨[mG],[],aTD.2⟩
 let pl:=aE l 2 g.a
 let pols:=dW l (1+c.1) pl.2 (1+pl.1)
 let i:=aE l (aTE+1) pols.2
 let vols:=eP l (1+pl.1) i.2 i.1
 (⟨(1+e.1:Nat),aTJ.1,aTD.1,g.aTL,g.aTV,pols.1,vols.1⟩,vols.2)
def mY (l:List Nat) (a:Nat):Nat→List Int × Nat
 | 0=>([],a)
 | k+1=>let s:=mY l a k
  let z:=aE l 7 s.2
  (s.1++[(z.1:Int)-1],z.2)
def rV (l:List Nat) (f:aD) (a:Nat):List Int × Nat :=
 let t:=aE l 4 a
 if t.1=0 then ([],t.2) else mY l t.2 f.aTC.length
def pG (l:List Nat) (aTC at_ i a:Nat):Int × Nat :=
 if aTC=0 then (-1,a) else
  let t:=aE l 6 a
  if t.1=0 then (let z:=aE l aTC t.2; ((z.1:Int),z.2))
  else if t.1=1 then (let z:=aE l (aTC+1) t.2; ((z.1:Int)-1,z.2))
  else (((at_+i)%aTC:Nat),t.2)
def kR (l:List Nat) (aTC at_ a:Nat):Nat→List Int × Nat
 | 0=>([],a)
 | i+1=>let s:=kR l aTC at_ a i
  let z:=pG l aTC at_ i s.2
  (s.1++[z.1],z.2)
def dE (l:List Nat) (f:aD) (a:Nat):Nat→List (List Int) × Nat
 | 0=>([],a)
 | v+1=>let s:=dE l f a v
  let t:=aE l (f.aTC.length+1) s.2
  let r:=kR l f.aTC.length t.1 t.2 (fQ f v).toNat
  (s.1++[r.1],r.2)
abbrev kF (l:List Nat):List (List PV):=l.map fun (n:Nat)=>[PV.int .u8 (n:Int)]
theorem VI (l:List Nat):(kF l).length=l.length:=by simp
theorem aCE (l:List Nat) {i:Nat} (h:i<l.length):(kF l)[i]?=some [.int .u8 (l[i]:Nat)]:=by simp[h]
abbrev bA (v:PV) (a:Nat):cB:=.rows 2 [[v,.int .i64 a]]
structure Tp (l:List Nat) (v:PV):Prop where
 seen:Seen 1 v (kF l)
 byte:∀ x∈l,x<256
 len:l.length≤400
def Hy (l:List Nat) (r:PV) (H:PH):Prop:=∃ o v,r=.ptr o 2 0 0∧Tp (l.take 400) v∧H=PH.nil.set o (bA v 0)
theorem Gv {t q s:Nat} {rs:List (List PV)} {F:PF} {H H2:PH} {R:PV→PH→Prop} {v:PV} {e:mC} (w:e=.normal∨e=.ret) (y:F t=some v) (x:H q=some (.rows s rs)) (l:H2.le (H.frz q s rs)) (p:R (PV.frz q s rs v) H2):aU [.tmp t] R e F H:=by
 have c:∃ vs,eA.evs F H [.tmp t]=some vs∧∃ d i H2,jM (PF.nil.set 0 (bQ vs)) H d i∧H2.le i∧∃ u,d 0=some u∧R u H2:=by refine⟨[v],by rw[kV,nS,y,oZ],_,_,H2,.step q x (.refl _ _),l,PV.frz q s rs v,?_,p⟩;rw[rL,kY,if_pos rfl,aWC];rfl
 rcases w with rfl | rfl<;>exact c
theorem aGP {C:Ctx} (l:List Nat) (E:∀ x∈l,x<256) (O:l.length≤9223372036854775807):SU.wp C (aU azB.res (Hy l)) (PF.args [.sl 1 (kF l)]) .nil:=by
 simp only[go_sem,SU,aaK,aaL,azB,aUN];have fin:∀ F:PF,F 0=some (.sl 1 (kF (l.take 400)))→aC.wp C (.seq (.region ux) .ret) (aU [.tmp 2] (Hy l)) F .nil:=by
  intro F f0;have w:(l.take 400).length≤400:=by rw[aVJ]; omega
  have u:∀ x∈l.take 400,x<256:=fun x M=>E x (List.mem_of_mem_take M);have y:∀ o v,Seen 1 v (kF (l.take 400))→Hy l (.ptr o 2 0 0) (PH.nil.set o (bA v 0)):=fun o v K=>⟨o,v,rfl,⟨K,u,w⟩,rfl⟩;generalize N:l.take 400=L at *
  simp only[go_sem,ux,f0];refine uO (src:=kF L) rfl ?_ (fun h=>?_) fun h o H=>?_
  ·unfold roomFor;rw[VI];simp only[maxLen]; omega
  ·simp only[go_sem,aVC,aVK,or_false,forall_eq];refine aO fun o H=>?_;simp only[go_sem];exact aX (vs:=[.ptr o 2 0 0]) (.inr rfl) (PH.nil.set o (bA .aB 0)) rfl b_ (y o .aB (.inl ⟨h,rfl⟩))
  ·simp only[go_sem,aVC,aVK,or_false,forall_eq];refine aO fun p J=>?_;have d:¬ p=o:=(jF.1 J).1;have e:¬ o=p:=fun h=>d h.symm;simp only[go_sem];refine Gv (v:=.ptr p 2 0 0) (q:=o) (s:=1) (rs:=kF L) (H2:=PH.nil.set p (bA (.sl 1 (kF L)) 0)) (.inr rfl) rfl (by simp only[go_sem,e]) (e_ a_ ?_) (y p _ (.inr rfl));have B:(kF L).take L.length=kF L:=aVI (by rw[VI]; exact aUU _);simp only[go_sem,d,cB.frz,PV.dH,aUN,B];rfl
 simp only[aC.wp,go_sem] at fin;by_cases c:l.length>400
 ·have i:(l.length:Int)>400:=Om;have A:(400:Int)≤(l.length:Int):=Om;simp only[go_sem,i,aaM,aUN,A];refine fin _ ?_;rw[kY,if_pos rfl];simp[kF]
 ·have i:¬ (l.length:Int)>400:=Om;simp only[go_sem,i];refine fin _ ?_;rw[aVI Om];simp only[go_sem]
def gi (l:List Nat) (v:PV) (o n a:Nat) (r:PV) (H:PH):Prop:=r=.int .i64 ((aE l n a).1:Nat)∧H=PH.nil.set o (bA v (aE l n a).2)
theorem azC {C:Ctx} {l:List Nat} {v:PV} (T:Tp l v) (o n a:Nat) (Q:n≤1000000) (N:a≤l.length):yL.wp C (aU Hc.res (gi l v o n a)) (PF.args [.ptr o 2 0 0,.int .i64 n]) (PH.nil.set o (bA v a)):=by
 obtain⟨K,H,O⟩:=T;have zero:(l.length≤a∨n<2)→∀ F,aC.wp C (.seq (.region cv) .ret) (aU [.tmp 4] (gi l v o n a)) F (PH.nil.set o (bA v a)):=by
  intro h F;have e:aE l n a=(0,a):=by unfold aE; rw[if_pos h]
  simp only[go_sem,cv];exact aX (vs:=[.int .i64 0]) (.inr rfl) _ rfl b_ ⟨by rw[e]; rfl,by rw[e]⟩
 simp only[aC.wp,go_sem] at zero;rcases K with ⟨E,rfl⟩ | rfl
 ·have M:l.length=0:=by rw[← VI,E]; rfl
  have p:(a:Int)≥0:=Om;simp only[go_sem,yL,cu,Hc];refine bS .nil dT a_ ?_;simp only[go_sem,LP,p];exact zero (.inl Om) _
 simp only[go_sem,yL,cu,Hc];refine bS .nil dT a_ ?_;by_cases w:l.length≤a
 ·have c:(a:Int)≥(l.length:Nat):=Om;simp only[go_sem,LP,aUN,c];exact zero (.inl w) _
 have c:¬ (a:Int)≥(l.length:Nat):=Om;simp only[go_sem,LP,aUN,c];by_cases x:n<2
 ·have d:(n:Int)<2:=Om;simp only[go_sem,d];exact zero (.inr x) _
 have d:¬ (n:Int)<2:=Om;have i:a<l.length:=Om;have e:aE l n a=(l[a]%n,a+1):=by unfold aE;rw[if_neg Om];simp[aUY,i]
 have B:IntKind.i64.wrap ((a:Int)+1)=((a+1:Nat):Int):=dA Om;have A:IntKind.i64.wrap (((a+1:Nat):Int)-1)=((a:Nat):Int):=by rw[wrap_i64 Om Om]; omega
 have J:=aCE l i;have R:=H _ (aUQ i);have y:IntKind.i64.wrap ((l[a]:Nat):Int)=((l[a]:Nat):Int):=fk Om;have u:¬ ((n:Nat):Int)=0:=Om;have em:Int.tmod ((l[a]:Nat):Int) ((n:Nat):Int)=((l[a]%n:Nat):Int):=rfl;simp only[go_sem,d,Pb,B];refine bS .nil dT a_ ?_;simp only[go_sem,Pc,A,J,y,u,em];exact aX (vs:=[.int .i64 (l[a]%n:Nat)]) (.inr rfl) _ rfl b_ ⟨by rw[e]; rfl,by rw[e]⟩
def PV.oid:PV→Option Nat
 | .osl q _ _ _=>some q
 | _=>none
abbrev LI:=PV × Nat × List (List PV)
abbrev BX:=Nat × cB
def eU (B:List BX):List Nat:=B.map (·.1)
def eI (L:List LI):List Nat:=L.filterMap fun x=>x.1.oid
structure aM (H:PH) (B:List BX) (L:List LI):Prop where
 box:∀ b∈B,H b.1=some b.2
 lst:∀ x∈L,bE H x.2.1 x.1 x.2.2
 nd:(eU B++eI L).Nodup
section
variable {C:Ctx} {H:PH} {B:List BX} {L:List LI} {K:PV→PH→Prop}
theorem bE.id {s q:Nat} {v:PV} {rows:List (List PV)} (h:bE H s v rows) (c:v.oid=some q):∃ rs,H q=some (.rows s rs)∧v=.osl q s 0 rows.length∧rows.length≤rs.length∧rs.take rows.length=rows:=by
 rcases h with ⟨_,rfl⟩ | ⟨p,rs,rfl,h1,h2,h3⟩
 ·cases c
 ·cases c;exact⟨rs,h1,rfl,h2,h3⟩
theorem bE.same {s:Nat} {v:PV} {rows:List (List PV)} {H':PH} (h:bE H s v rows) (c:∀ q,v.oid=some q→H' q=H q):bE H' s v rows:=by
 rcases h with h | ⟨p,rs,rfl,h1,h2,h3⟩
 ·exact .inl h
 ·exact .inr ⟨p,rs,rfl,by rw[c p rfl]; exact h1,h2,h3⟩
theorem lZ {x:LI} {q:Nat} (h:x∈L) (c:x.1.oid=some q):q∈eI L:=List.mem_filterMap.2 ⟨x,h,c⟩
theorem vJ {b:BX} (h:b∈B):b.1∈eU B:=aVQ.2 ⟨b,h,rfl⟩
theorem aM.nil:aM H [] []:=⟨by simp,by simp,by simp[eU,eI]⟩
theorem aM.at (h:aM H B L) (i:Nat) {o:Nat} {x:cB} (hi:B[i]?=some (o,x)):H o=some x:=h.box _ (aXL hi)
theorem aM.own (h:aM H B L) (i:Nat) {s:Nat} {v:PV} {rows:List (List PV)} (hi:L[i]?=some (v,s,rows)):bE H s v rows:=h.lst _ (aXL hi)
theorem aM.ndB (h:aM H B L):(eU B).Nodup:=(aXJ.1 h.nd).1
theorem aM.ndL (h:aM H B L):(eI L).Nodup:=(aXJ.1 h.nd).2.1
theorem aM.ndX (h:aM H B L) {o q:Nat} (c:o∈eU B) (d:q∈eI L):o≠q:=(aXJ.1 h.nd).2.2 o c q d
theorem aM.ne (h:aM H B L) (i j:Nat) {o p:Nat} {x y:cB} (hi:B[i]?=some (o,x)) (J:B[j]?=some (p,y)) (c:i≠j):o≠p:=by
 intro e;have E:(eU B)[i]?=some o:=by unfold eU; rw[aVN,hi]; rfl
 have F:(eU B)[j]?=some p:=by unfold eU; rw[aVN,J]; rfl
 obtain⟨w,d⟩:=aVW.1 E;obtain⟨A,l⟩:=aVW.1 F;have u:=List.pairwise_iff_getElem.1 h.ndB;rcases Nat.lt_or_gt_of_ne c with g | g
 ·exact u i j w A g (by rw[d,l,e])
 ·exact u j i A w g (by rw[d,l,e])
theorem aM.neL (h:aM H B L) (i j:Nat) {o q:Nat} {x:cB} {y:LI} (hi:B[i]?=some (o,x)) (c:L[j]?=some y) (d:y.1.oid=some q):o≠q :=
 h.ndX (vJ (aXL hi)) (lZ (aXL c) d)
theorem aM.fresh (h:aM H B L) {o:Nat} (c:H o=none):o ∉ eU B∧o ∉ eI L:=by
 refine⟨fun d=>?_,fun d=>?_⟩
 ·obtain⟨b,l,rfl⟩:=aVQ.1 d;rw[h.box b l] at c; cases c
 ·obtain⟨x,p,e⟩:=List.mem_filterMap.1 d;obtain⟨rs,i,_⟩:=(h.lst x p).id e;rw[i] at c; cases c
theorem aM.keep (h:aM H B L) {H':PH} (d:∀ q,q∈eU B∨q∈eI L→H' q=H q):aM H' B L :=
 ⟨fun b c=>by rw[d _ (.inl (vJ c))]; exact h.box b c,fun x e=>(h.lst x e).same fun q i=>d q (.inr (lZ e i)),h.nd⟩
theorem axZ {i:Nat} {o:Nat} {x y:cB} (hi:B[i]?=some (o,x)):eU (B.set i (o,y))=eU B:=by
 unfold eU;rw[List.map_set];refine List.ext_getElem? fun j=>?_;rw[List.getElem?_set];split
 ·rename_i e;subst e;rw[aVN,hi];have:=(aVW.1 hi).1;simp[this]
 ·rfl
theorem aM.set (h:aM H B L) (i:Nat) {o:Nat} {x:cB} (hi:B[i]?=some (o,x)) (y:cB):aM (H.set o y) (B.set i (o,y)) L:=by
 have l:o∈eU B:=vJ (aXL hi);refine⟨fun b u=>?_,fun z p=>(h.lst z p).same fun q w=>?_,by rw[axZ hi]; exact h.nd⟩
 ·obtain⟨j,c⟩:=List.mem_iff_getElem?.1 u;rw[List.getElem?_set] at c;split at c
  ·split at c
   ·cases c; simp only[aN,if_true]
   ·cases c
  ·rename_i d;have:b.1≠o:=fun e=>h.ne i j hi (show B[j]?=some (b.1,b.2) from c) d e.symm;rw[aN,if_neg this];exact h.box b (aXL c)
 ·have:q≠o:=fun e=>h.ndX l (lZ p w) e.symm;rw[aN,if_neg this]
theorem aM.new (h:aM H B L) {o:Nat} (u:H o=none) (y:cB):aM (H.set o y) (B++[(o,y)]) L:=by
 obtain⟨f1,f2⟩:=h.fresh u;refine⟨fun b d=>?_,fun z l=>(h.lst z l).same fun q hq=>?_,?_⟩
 ·rw[aWI,aWV] at d;rcases d with d | rfl
  ·have:b.1≠o:=fun e=>f1 (e ▸ vJ d);rw[aN,if_neg this]; exact h.box b d
  ·simp only[aN,if_true]
 ·have:q≠o:=fun e=>f2 (e ▸ lZ l hq);rw[aN,if_neg this]
 ·have:=h.nd;simp only[eU,aVT,aVZ,aWS] at *
  rw[aVS,aXJ] at *
  obtain⟨a,b,c⟩:=this;refine⟨a,?_,fun p i q hq=>?_⟩
  ·rw[List.singleton_append,List.nodup_cons]; exact⟨f2,b⟩
  ·rw[List.singleton_append,aVC] at hq;rcases hq with rfl | hq
   ·intro e; subst e; exact f1 i
   ·exact c p i q hq
theorem lH (L1 L2:List LI):eI (L1++L2)=eI L1++eI L2:=List.filterMap_append ..
theorem aM.mI (h:aM H B L) (s:Nat):aM H B (L++[(.aB,s,[])]):=by
 refine⟨h.box,fun z c=>?_,?_⟩
 ·rw[aWI,aWV] at c;rcases c with c | rfl
  ·exact h.lst z c
  ·exact .nil
 ·rw[lH,show eI [((.aB:PV),s,([]:List (List PV)))]=[] from rfl,aWF]; exact h.nd
theorem aM.azN (h:aM H B L) {o s:Nat} {rows:List (List PV)} (i:H o=none):aM (H.set o (.rows s rows)) B (L++[(.osl o s 0 rows.length,s,rows)]):=by
 obtain⟨f1,f2⟩:=h.fresh i;have e:=h.keep (H':=H.set o (.rows s rows)) fun q c=>by
  have:q≠o:=by rintro rfl; exact c.elim f1 f2
  rw[aN,if_neg this]
 refine⟨e.box,fun z d=>?_,?_⟩
 ·rw[aWI,aWV] at d;rcases d with d | rfl
  ·exact e.lst z d
  ·exact .inr ⟨o,rows,rfl,by simp only[aN,if_true],aUU _,aVP⟩
 ·rw[lH,show eI [((.osl o s 0 rows.length:PV),s,rows)]=[o] from rfl,← aVS,aXJ];refine⟨h.nd,by simp,fun p hp q c=>?_⟩;rw[aWV] at c;subst c;rintro rfl;rcases aWI.1 hp with hp | hp
  ·exact f1 hp
  ·exact f2 hp
theorem Nn {i:Nat} {v v':PV} {s s':Nat} {rows rows':List (List PV)} (hi:L[i]?=some (v,s,rows)):∃ L1 L2,L=L1++(v,s,rows)::L2∧L.set i (v',s',rows')=L1++(v',s',rows')::L2:=by
 obtain⟨c,d⟩:=aVW.1 hi;refine⟨L.take i,L.drop (i+1),?_,?_⟩
 ·rw[← d,← aWM c,aXG]
 ·rw[List.set_eq_take_append_cons_drop,if_pos c]
theorem aM.NU (h:aM H B L) (i:Nat) {s:Nat} {v:PV} {rows:List (List PV)} (hi:L[i]?=some (v,s,rows)) {s':Nat} {v':PV} {rows':List (List PV)} {H':PH} (Q:bE H' s' v' rows')
  (F:∀ q,v'.oid=some q→v.oid=some q∨H q=none) (O:∀ q,q∈eU B∨q∈eI L→(∀ p,v.oid=some p→q≠p)→H' q=H q):aM H' B (L.set i (v',s',rows')):=by
 obtain⟨L1,L2,M,N⟩:=Nn (v':=v') (s':=s') (rows':=rows') hi;rw[N];subst M;have d:=h.nd;have A:eI (L1++(v,s,rows)::L2)=eI L1++(v.oid.toList++eI L2):=by rw[lH];congr 1;unfold eI;rw[List.filterMap_cons];cases e:v.oid<;>simp
 have E:eI (L1++(v',s',rows')::L2)=eI L1++(v'.oid.toList++eI L2):=by rw[lH];congr 1;unfold eI;rw[List.filterMap_cons];cases e:v'.oid<;>simp
 rw[A] at d;have x:∀ q,q∈eU B∨q∈eI L1∨q∈eI L2→∀ p,v.oid=some p→q≠p:=by
  intro q hq p w e;subst e;rw[w] at d;simp only[Option.toList_some] at d;rw[aXJ] at d;obtain⟨a,b,c⟩:=d;rw[aXJ] at b;obtain⟨b1,b2,y⟩:=b;rw[List.singleton_append,List.nodup_cons] at b2;rcases hq with hq | hq | hq
  ·exact c q hq q (by simp) rfl
  ·exact y q hq q (by simp) rfl
  ·exact b2.1 hq
 have l:∀ q,q∈eU B∨q∈eI L1∨q∈eI L2→H' q=H q:=by
  intro q hq;refine O q ?_ (x q hq);rw[A];simp only[aWI];rcases hq with hq | hq | hq
  ·exact .inl hq
  ·exact .inr (.inl hq)
  ·exact .inr (.inr (.inr hq))
 refine⟨fun b J=>by rw[l _ (.inl (vJ J))]; exact h.box b J,fun z hz=>?_,?_⟩
 ·rw[aWI,aVC] at hz;rcases hz with hz | rfl | hz
  ·exact (h.lst z (by simp[hz])).same fun q hq=>l q (.inr (.inl (lZ hz hq)))
  ·exact Q
  ·exact (h.lst z (by simp[hz])).same fun q hq=>l q (.inr (.inr (lZ hz hq)))
 ·rw[E];cases e:v'.oid with
  | none =>simp only[Option.toList_none,List.nil_append];refine List.Nodup.sublist ?_ d;exact aWT.append (aWT.refl _) (aWT.append (aWT.refl _) (List.sublist_append_right _ _))
  | some q =>
   rcases F q e with R | hn
   ·rw[R] at d;exact d
   ·obtain⟨f1,f2⟩:=h.fresh hn;rw[A] at f2;simp only[aWI,not_or] at f2;have u:(eU B++(eI L1++eI L2)).Nodup:=List.Nodup.sublist (aWT.append (aWT.refl _) (aWT.append (aWT.refl _) (List.sublist_append_right _ _))) d;simp only[Option.toList_some];rw[aXJ] at u ⊢;obtain⟨a,b,c⟩:=u;rw[aXJ] at b;obtain⟨b1,b2,y⟩:=b;refine⟨a,?_,?_⟩
    ·rw[aXJ];refine⟨b1,by rw[List.singleton_append,List.nodup_cons]; exact⟨f2.2.2,b2⟩,fun p w r hr=>?_⟩;rw[List.singleton_append,aVC] at hr;rcases hr with rfl | hr
     ·rintro rfl; exact f2.1 w
     ·exact y p w r hr
    ·intro p w r hr;rw[aWI,List.singleton_append,aVC] at hr;rcases hr with hr | rfl | hr
     ·exact c p w r (by simp[hr])
     ·rintro rfl; exact f1 w
     ·exact c p w r (by simp[hr])
theorem aM.append (h:aM H B L) (i:Nat) {s b:Nat} {v y:PV} {rows src:List (List PV)} (hi:L[i]?=some (v,s,rows)) (E:dX H s y=some src) (A:roomFor rows.length src.length b)
  (w:∀ v' H',aM H' B (L.set i (v',s,rows++src))→(src≠[]→∃ q,v'=.osl q s 0 (rows++src).length)→K v' H'):mB H s b v y K:=by
 rcases h.own i hi with ⟨rfl,rfl⟩ | ⟨q,rs,rfl,h1,h2,h3⟩
 ·refine⟨src,E,A,fun e=>?_,fun e o l=>?_⟩
  ·subst e;refine w _ _ ?_ fun h=>absurd rfl h;exact h.NU i hi (.inl ⟨rfl,rfl⟩) (fun q u=>by cases u) fun q _ _=>rfl
  ·refine w _ _ (h.NU i hi (.inr ⟨o,src,rfl,by simp only[aN,if_true],aUU _,aVP⟩) (fun q u=>by cases u; exact .inr l) fun q u _=>?_) fun _=>⟨o,rfl⟩;obtain⟨f1,f2⟩:=h.fresh l;have:q≠o:=by rintro rfl; exact u.elim f1 f2
   rw[aN,if_neg this]
 ·have c:(rows++src).length=rows.length+src.length:=aUS;refine⟨src,E,rfl,rfl,A,rs,h1,h2,?_,fun o l=>?_⟩
  ·rw[h3];refine w _ _ (h.NU i hi (.inr ⟨q,rows++src,by rw[c],by simp only[aN,if_true],aUU _,aVP⟩) (fun p d=>by cases d; exact .inl rfl) fun p _ d=>?_) fun _=>⟨q,by rw[c]⟩;rw[aN,if_neg (d q rfl)]
  ·rw[h3];refine w _ _ (h.NU i hi (.inr ⟨o,rows++src,by rw[c],by simp only[aN,if_true],aUU _,aVP⟩) (fun p d=>by cases d; exact .inr l) fun p x d=>?_) fun _=>⟨o,by rw[c]⟩;obtain⟨f1,f2⟩:=h.fresh l;have F:p≠o:=by rintro rfl; exact x.elim f1 f2
   rw[aN,if_neg F]
theorem aM.sub (h:aM H B L) {B':List BX} {L':List LI} (hB:B'.Sublist B) (c:L'.Sublist L):aM H B' L' :=
 ⟨fun b d=>h.box b (hB.subset d),fun x e=>h.lst x (c.subset e),List.Nodup.sublist (aWT.append (hB.map _) (c.filterMap _)) h.nd⟩
theorem aM.tO (h:aM H B L) (i:Nat):aM H (B.eraseIdx i) L:=h.sub (List.eraseIdx_sublist ..) (aWT.refl _)
theorem aM.jj (h:aM H B L) (i:Nat):aM H B (L.eraseIdx i):=h.sub (aWT.refl _) (List.eraseIdx_sublist ..)
end
section
variable {C:Ctx} {F:PF} {H:PH} {B:List BX} {L:List LI}
theorem aM.WV (h:aM H B L) {q:Nat} (hq:q∈eU B∨q∈eI L):∃ x,H q=some x:=by
 rcases hq with hq | hq
 ·obtain⟨b,d,rfl⟩:=aVQ.1 hq;exact⟨_,h.box b d⟩
 ·obtain⟨x,i,e⟩:=List.mem_filterMap.1 hq;obtain⟨rs,c,_⟩:=(h.lst x i).id e;exact⟨_,c⟩
theorem aM.perm (h:aM H B L) {B':List BX} {L':List LI} (hB:B.Perm B') (c:L.Perm L'):aM H B' L' :=
 ⟨fun b d=>h.box b (hB.mem_iff.2 d),fun x e=>h.lst x (c.mem_iff.2 e),(List.Perm.nodup_iff ((hB.map _).append (c.filterMap _))).1 h.nd⟩
theorem aM.only (h:aM H B L) {B1:List BX} {L1:List LI} (hB:B1.Sublist B) (c:L1.Sublist L):aM (H.only (eU B1++eI L1)) B1 L1:=by
 refine (h.sub hB c).keep fun q d=>?_;rw[sU];rw[if_pos (aWI.2 d)]
theorem aKN {a b c d:List Nat} (i:(a++c).Nodup) (l:(b++d).Nodup) (u:∀ q,q∈a∨q∈c→q∈b∨q∈d→False):((a++b)++(c++d)).Nodup:=by
 have e:List.Perm ((a++b)++(c++d)) ((a++c)++(b++d)):=by rw[aVS,aVS];exact List.Perm.append_left a (by rw[← aVS,← aVS]; exact List.Perm.append_right d List.perm_append_comm)
 rw[e.nodup_iff,aXJ];refine⟨i,l,fun p w q x=>?_⟩;rintro rfl;exact u p (aWI.1 w) (aWI.1 x)
theorem aM.frame {H':PH} {B1 B2 B':List BX} {L1 L2 L':List LI} (h:aM H (B1++B2) (L1++L2)) (p:aM H' B' L') (E:mM H (H.only (eU B1++eI L1)) H'):aM (H.over (H.only (eU B1++eI L1)) H') (B'++B2) (L'++L2):=by
 have w:aM H B2 L2:=h.sub (List.sublist_append_right ..) (List.sublist_append_right ..);have i:∀ q,q∈eU B2∨q∈eI L2→¬ (q∈eU B1++eI L1):=by
  intro q c J;have d:=h.nd;rw[show eU (B1++B2)=eU B1++eU B2 from aVT,lH] at d;have e:List.Perm ((eU B1++eU B2)++(eI L1++eI L2)) ((eU B1++eI L1)++(eU B2++eI L2)):=by rw[aVS,aVS];exact List.Perm.append_left _ (by rw[← aVS,← aVS]; exact List.Perm.append_right _ List.perm_append_comm)
  rw[e.nodup_iff,aXJ] at d;exact d.2.2 q J q (aWI.2 c) rfl
 have new:∀ q,q∈eU B'∨q∈eI L'→(H.over (H.only (eU B1++eI L1)) H') q=H' q:=by intro q c;obtain⟨x,hx⟩:=p.WV c;rw[hM,hx]
 have A:∀ q,q∈eU B2∨q∈eI L2→(H.over (H.only (eU B1++eI L1)) H') q=H q:=by
  intro q c;obtain⟨x,hx⟩:=w.WV c;have u:(H.only (eU B1++eI L1)) q=none:=by rw[sU,if_neg (i q c)]
  rw[hM];cases e:H' q with
  | none=>simp only[u]
  | some y =>have:=E q y e u;rw[hx] at this; cases this
 have k1:=p.keep new;have k2:=w.keep A;refine⟨fun b hb=>?_,fun x hx=>?_,?_⟩
 ·rcases aWI.1 hb with hb | hb
  ·exact k1.box b hb
  ·exact k2.box b hb
 ·rcases aWI.1 hx with hx | hx
  ·exact k1.lst x hx
  ·exact k2.lst x hx
 ·rw[show eU (B'++B2)=eU B'++eU B2 from aVT,lH];refine aKN p.nd w.nd fun q c l=>?_;obtain⟨x,hx⟩:=p.WV c;obtain⟨y,K⟩:=w.WV l;have u:(H.only (eU B1++eI L1)) q=none:=by rw[sU,if_neg (i q l)]
  have:=E q x hx u;rw[K] at this; cases this
theorem GU {name:Nat} {vs:List PV} {args:List aQ} {d:Option Nat} {K:PF→PH→Prop} {B1 B2:List BX} {L1 L2:List LI} {Q:PV→List BX→List LI→Prop} (h:aM H (B1++B2) (L1++L2))
  (p:∀ e,aM e B1 L1→aH C name vs e (fun r H'=>∃ B' L',Q r B' L'∧aM H' B' L')) (l:aQ.evs F args=some vs)
  (u:∀ r B' L' H',Q r B' L'→aM H' (B'++B2) (L'++L2)→K (F.put d r) H'):iU C name args [] d K F H:=by
 refine kI (p (H.only (eU B1++eI L1)) (h.only (List.sublist_append_left ..) (List.sublist_append_left ..))) l (HT H _) ?_;rintro r H' ⟨B',L',w,i⟩ c;exact u r B' L' _ w (h.frame i c)
theorem aM.QN {B:List BX} {o:Nat} {x:cB} (h:aM H (B++[(o,x)]) L):H o=some x:=h.box (o,x) (by simp)
theorem aM.v8 {B:List BX} {o:Nat} {x:cB} (h:aM H (B++[(o,x)]) L) (y:cB):aM (H.set o y) (B++[(o,y)]) L:=by
 have:=h.set B.length (o:=o) (x:=x) (by simp) y
 rwa [aXO _ _ (aUU _),aXQ] at this
theorem aM.dropLast {B:List BX} {b:BX} (h:aM H (B++[b]) L):aM H B L:=h.sub (List.sublist_append_left ..) (aWT.refl _)
theorem aM.aHX {B:List BX} {o:Nat} {x:cB} (h:aM H ((o,x)::B) L) (y:cB):aM (H.set o y) ((o,y)::B) L:=h.set 0 rfl y
theorem aM.aJY {B:List BX} {o:Nat} {x:cB} (h:aM H ((o,x)::B) L):H o=some x:=h.at 0 rfl
theorem lK {name o:Nat} {x y:cB} {r:PV} {vs:List PV} {args:List aQ} {d:Option Nat} {K:PF→PH→Prop} (h:aH C name vs (PH.nil.set o x) (fun c H'=>c=r∧H'=PH.nil.set o y)) (l:H o=some x) (e:aQ.evs F args=some vs)
  (i:K (F.put d r) (H.set o y)):iU C name args [] d K F H:=by
 refine kI h e (e_ a_ l) ?_;rintro c H' ⟨rfl,rfl⟩ -;rw[PH.uB];exact i
theorem awA {Hs:PH} {S:Spec} {name o:Nat} {x y:cB} {r:PV} {vs:List PV} {R:PH→PV→PH→Prop} {args:List aQ} {st:Bool} {d:Option Nat} {K:PF→PH→Prop} (N:S name vs=some ([o],R)) (J:H o=some x)
  (h:aH C name vs (PH.nil.set o x) (fun c H'=>c=r∧H'=PH.nil.set o y)) (i:R (PH.nil.set o x) r (PH.nil.set o y)) (u:∀ c H',R (PH.nil.set o x) c H'→c=r∧H'=PH.nil.set o y) (O:aQ.evs F args=some vs)
  (w:Hs.le (H.set o y)) (Q:K (F.put d r) (H.set o y)):dOp C Hs S st (.call name args) d K F H:=by
 have e:=dr J;refine⟨vs,[o],_,O,N,fun q M=>?_,?_,fun G=>⟨r,_,by rw[e]; exact i,fun q z E p=>?_⟩,fun c H' l _=>?_⟩
 ·simp at M; subst M; exact⟨x,J⟩
 ·rw[e];exact h.post fun c H' l=>⟨c,.refl _,by rw[l.1,l.2]; exact i⟩
 ·rw[e] at p;rw[aN] at E p;split at p
  ·cases p
  ·rename_i A;rw[if_neg A] at E; cases E
 ·rw[e] at l;obtain⟨rfl,rfl⟩:=u c H' l;rw[e,PH.uB];exact⟨w,Q⟩
theorem aAX {s:Nat} {q z:Nat} {rs:List (List PV)} {v:PV} {rows:List (List PV)} (h:bE H s v rows) (d:v.oid≠some q):bE (H.frz q z rs) s v (rows.map fun r=>r.map (PV.dH q z rs)):=by
 rcases h with ⟨rfl,rfl⟩ | ⟨p,rs',rfl,h1,h2,h3⟩
 ·exact .inl ⟨rfl,rfl⟩
 ·have c:¬ p=q:=fun e=>d (by rw[e]; rfl);refine .inr ⟨p,rs'.map fun r=>r.map (PV.dH q z rs),by rw[aUN],?_,by simpa using h2,?_⟩
  ·rw[zO,if_neg c,h1]; rfl
  ·rw[aUN,← List.map_take,h3]
theorem aM.frz (h:aM H B L) (i:Nat) {q s k:Nat} {rows:List (List PV)} (hi:L[i]?=some (.osl q s 0 k,s,rows)):∃ rs,H q=some (.rows s rs)∧PV.dH q s rs (.osl q s 0 k)=.sl s rows∧PV.frz q s rs (.osl q s 0 k)=.sl s rows∧(∀ j x,j≠i→L[j]?=some x→PV.dH q s rs x.1=x.1) ∧
  aM (H.frz q s rs) (B.map fun b=>(b.1,b.2.frz q s rs)) ((L.eraseIdx i).map fun x=>(x.1,x.2.1,x.2.2.map fun r=>r.map (PV.dH q s rs))):=by
 obtain⟨rs,U,V,W,X⟩:=(h.own i hi).id rfl;injection V with _ _ _ hk
 subst hk;have e:PV.frz q s rs (.osl q s 0 rows.length)=.sl s rows:=by rw[vD W,X]
 refine⟨rs,U,e,e,?_⟩;refine⟨fun j x K R=>?_,?_⟩
 ·have l:x.1.oid≠some q:=by
   intro l;obtain⟨M,J⟩:=aVW.1 hi;obtain⟨β,Z⟩:=aVW.1 R;have u:x∈L.eraseIdx i:=List.mem_eraseIdx_iff_getElem?.2 ⟨j,K,R⟩;have d:=h.ndL;have O:L=L.take i++(L[i]::L.drop (i+1)):=by rw[← aWM M,aXG]
   rw[List.eraseIdx_eq_take_drop_succ] at u;rw[O,lH] at d;have E:eI (L[i]::L.drop (i+1))=q::eI (L.drop (i+1)):=by rw[J]; rfl
   rw[E,aXJ] at d;obtain⟨a,b,c⟩:=d;rcases aWI.1 u with hx | hx
   ·exact c q (lZ hx l) q (by simp) rfl
   ·exact (List.nodup_cons.1 b).1 (lZ hx l)
  cases hx:x.1<;>try rfl
  rename_i p z γ len;have:¬ p=q:=fun e=>l (by rw[hx,e]; rfl);simp only[PV.dH,if_neg this]
 obtain⟨L1,L2,e1,e2⟩:=Nn (v':=.aB) (s':=s) (rows':=rows) hi;have α:i=L1.length∨True:=.inr trivial;have w:(L.eraseIdx i).Sublist L:=List.eraseIdx_sublist ..;have N:∀ x∈L.eraseIdx i,x.1.oid≠some q:=by
  intro x hx l;obtain⟨M,J⟩:=aVW.1 hi;have d:=h.ndL;have O:L=L.take i++(L[i]::L.drop (i+1)):=by rw[← aWM M,aXG]
  rw[List.eraseIdx_eq_take_drop_succ] at hx;rw[O,lH] at d;have E:eI (L[i]::L.drop (i+1))=q::eI (L.drop (i+1)):=by rw[J]; rfl
  rw[E,aXJ] at d;obtain⟨a,b,c⟩:=d;rcases aWI.1 hx with hx | hx
  ·exact c q (lZ hx l) q (by simp) rfl
  ·exact (List.nodup_cons.1 b).1 (lZ hx l)
 refine⟨fun b Y=>?_,fun x hx=>?_,?_⟩
 ·obtain⟨Q,y,rfl⟩:=aVQ.1 Y;have:¬ Q.1=q:=h.ndX (vJ y) (lZ (aXL hi) rfl);simp only;rw[zO,if_neg this,h.box Q y]; rfl
 ·obtain⟨S,A,rfl⟩:=aVQ.1 hx;exact aAX (h.lst S (w.subset A)) (N S A)
 ·have i1:eU (B.map fun b=>(b.1,b.2.frz q s rs))=eU B:=by unfold eU; rw[List.map_map]; rfl
  have i2:eI ((L.eraseIdx i).map fun x=>(x.1,x.2.1,x.2.2.map fun r=>r.map (PV.dH q s rs)))=eI (L.eraseIdx i):=by unfold eI; rw[List.filterMap_map]; rfl
  rw[i1,i2];exact List.Nodup.sublist (aWT.append (aWT.refl _) (w.filterMap _)) h.nd
def Flat (rows:List (List PV)):Prop:=∀ q s rs,rows.map (fun r=>r.map (PV.dH q s rs))=rows
theorem Flat.nil:Flat []:=fun _ _ _=>rfl
theorem Flat.of {rows:List (List PV)} (h:∀ r∈rows,∀ c∈r,∀ q s rs,PV.dH q s rs c=c):Flat rows:=fun q s rs=>by
 conv=>rhs; rw[← List.map_id rows]
 refine aYJ fun r e=>?_
 conv=>rhs; rw[id,← List.map_id r]
 exact aYJ fun c d=>h r e c d q s rs
theorem Flat.map {α:Type} {f:α→List PV} (l:List α) (h:∀ x,∀ c∈f x,∀ q s rs,PV.dH q s rs c=c):Flat (l.map f):=Flat.of fun r d=>by
 obtain⟨x,_,rfl⟩:=aVQ.1 d;exact h x
theorem Flat.append {r1 r2:List (List PV)} (c:Flat r1) (d:Flat r2):Flat (r1++r2):=fun q s rs=>by rw[aVT,c,d]
theorem aM.flat {φ:PV→List (List PV)} (h:aM H B L):aM H B L:=h
def BR (v:PV) (H:PH) (R:PV→PH→Prop):Prop:=∃ c d H2,jM (PF.nil.set 0 v) H c d∧H2.le d∧∃ u,c 0=some u∧R u H2
theorem BR.done {v:PV} {H2:PH} {R:PV→PH→Prop} (d:R v H2) (c:H2.le H):BR v H R:=⟨_,_,H2,.refl _ _,c,v,by rw[kY,if_pos rfl],d⟩
theorem BR.step {v:PV} {q s:Nat} {rs:List (List PV)} {R:PV→PH→Prop} (w:H q=some (.rows s rs)) (h:BR (PV.frz q s rs v) (H.frz q s rs) R):BR v H R:=by
 obtain⟨c,d,H2,l,p,u⟩:=h;have e:(PF.nil.set 0 v).frz q s rs=PF.nil.set 0 (PV.frz q s rs v):=by funext i;rw[rL,kY,kY];split<;>rfl
 exact⟨c,d,H2,.step q w (by rw[e]; exact l),p,u⟩
theorem vN {res:List eA} {R:PV→PH→Prop} {vs:List PV} {e:mC} (l:e=.normal∨e=.ret) (h:eA.evs F H res=some vs) (p:BR (bQ vs) H R):aU res R e F H:=by
 have c:∃ vs,eA.evs F H res=some vs∧∃ d i H2,jM (PF.nil.set 0 (bQ vs)) H d i∧H2.le i∧∃ u,d 0=some u∧R u H2:=⟨vs,h,p⟩;rcases l with rfl | rfl<;>exact c
theorem j5 {u:PV} (h:u.oid=none) (q s:Nat) (rs:List (List PV)):PV.dH q s rs u=u:=by
 cases u<;>first | rfl | (simp[PV.oid] at h)
theorem Seen.co {s:Nat} {v:PV} {rows:List (List PV)} (h:Seen s v rows):Co v (.sl s rows):=by
 rcases h with ⟨rfl,rfl⟩ | rfl
 ·exact .nil s
 ·exact .refl _
theorem aM.giveUp:∀ (L:List LI) {H:PH} {B:List BX},aM H B L→(∀ x∈L,Flat x.2.2)→(∀ b∈B,∀ q s rs,cB.frz q s rs b.2=b.2) →
  ∃ (φ:PV→PV) (d:PH),(∀ x∈L,Seen x.2.1 (φ x.1) x.2.2)∧(∀ u,u.oid=none→φ u=u)∧aM d B []∧∀ cs R,BR (.agg (cs.map φ)) d R→BR (.agg cs) H R
 | [],H,B,h,_,_=>⟨id,H,by simp,fun _ _=>rfl,h,fun cs R p=>by rwa [List.map_id] at p⟩
 | (w,s,rows)::L,H,B,h,l,hB=>by
  have c:∀ q z rs,(L.map fun x=>(x.1,x.2.1,x.2.2.map fun r=>r.map (PV.dH q z rs)))=L:=fun q z rs=>by
   conv=>rhs; rw[← List.map_id L]
   refine aYJ fun x hx=>?_;rw[l x (by simp[hx]) q z rs]; rfl
  rcases h.own 0 rfl with ⟨i,M⟩ | ⟨q,rs,i,_⟩
  ·obtain⟨φ,d,k1,k2,y,A⟩:=aM.giveUp L (h.jj 0) (fun x hx=>l x (by simp[hx])) hB;refine⟨φ,d,fun x hx=>?_,k2,y,A⟩;rw[aVC] at hx;rcases hx with rfl | hx
   ·exact .inl ⟨i,by simp only; rw[M]; exact k2 _ rfl⟩
   ·exact k1 x hx
  ·subst i;obtain⟨rs,Q,S,W,U,J⟩:=h.frz 0 rfl;have V:aM (H.frz q s rs) B L:=by
    have K:(B.map fun b=>(b.1,b.2.frz q s rs))=B:=by
     conv=>rhs; rw[← List.map_id B]
     refine aYJ fun b N=>?_;rw[hB b N q s rs]; rfl
    rw[K] at J;have:=J;simp only[List.eraseIdx_cons_zero] at this
    rwa [c q s rs] at this
   obtain⟨φ,d,k1,k2,y,A⟩:=aM.giveUp L V (fun x hx=>l x (by simp[hx])) hB;refine⟨fun u=>φ (PV.dH q s rs u),d,fun x hx=>?_,fun u E=>?_,y,fun cs R p=>?_⟩
   ·rw[aVC] at hx;rcases hx with rfl | hx
    ·simp only;rw[S];exact .inr (k2 _ rfl)
    ·obtain⟨j,O⟩:=List.mem_iff_getElem?.1 hx;have:=U (j+1) x Om (by simpa using O);simp only;rw[this];exact k1 x hx
   ·simp only;rw[j5 E,k2 u E]
   ·refine .step Q ?_;have e:PV.frz q s rs (.agg cs)=.agg (cs.map (PV.dH q s rs)):=rfl;rw[e];refine A _ R ?_;rw[List.map_map];exact p
theorem SN {K:bR} {α:Type} {c:α→PF} {Hs:α→PH} {d:α→Prop} {m:α→Nat} {n q s:Nat} {rs:List (List PV)} (a:α) (u:H q=some (.rows s rs)) (e:d a) (p:m a<n) (i:(c a).le (F.frz q s rs)) (l:(Hs a).le (H.frz q s rs)):eY c Hs d m n K .normal F H :=
 ⟨a,_,_,.step q u (.refl _ _),e,p,i,l⟩
end
structure tF (C:Ctx):Prop extends gl C where
 int:∀ n:Int,dK n→aH C 47 [.int .i64 n] .nil (aI (.agg (mkT n 1).cells))
 itoa:∀ n:Nat,n<100→aH C 195 [.int .i64 n] .nil (aI (.str (cC n)))
 next:∀ (l:List Nat) (v:PV),Tp l v→∀ (o n a:Nat),n≤1000000→a≤l.length→aH C 4 [.ptr o 2 0 0,.int .i64 n] (PH.nil.set o (bA v a)) (gi l v o n a)
section
variable {C:Ctx} {F:PF} {H:PH} {l:List Nat} {v:PV} {o a:Nat}
theorem cR (e:tF C) (T:Tp l v) {n:Nat} {args:List aQ} {d:Option Nat} {K:PF→PH→Prop} (u:n≤1000000) (i:a≤l.length) (c:aQ.evs F args=some [.ptr o 2 0 0,.int .i64 n]) (w:H o=some (bA v a))
  (p:K (F.put d (.int .i64 ((aE l n a).1:Nat))) (H.set o (bA v (aE l n a).2))):iU C 4 args [] d K F H :=
 lK (e.next l v T o n a u i) w c p
end
def aDJ (l:List Nat) (v:PV) (o a:Nat) (r:PV) (H:PH):Prop:=r=.agg (fK l a).1.cells∧H=PH.nil.set o (bA v (fK l a).2)
theorem vC (l:List Nat) {a:Nat} (h:a≤l.length):(fK l a).2≤l.length:=bJ l 8 (bJ l 6 h)
theorem ayQ {C:Ctx} (d:tF C) {l:List Nat} {v:PV} (T:Tp l v) (o a:Nat) (u:a≤l.length):LG.wp C (aU akA.res (aDJ l v o a)) (PF.args [.ptr o 2 0 0]) (PH.nil.set o (bA v a)):=by
 simp only[go_sem,LG,Oj,akA];refine aO fun p K=>?_;have x:¬ p=o:=(jF.1 K).1;have c:¬ o=p:=fun h=>x h.symm;have M:=bZ l (show 0<6 by decide) a;have a1:=bJ l 6 u;simp only[go_sem,Ol];refine cR d T (o:=o) (n:=6) (a:=a) (by decide) u rfl (by simp only[go_sem,c]) ?_;have B:IntKind.i64.wrap (1+((aE l 6 a).1:Int))=((1+(aE l 6 a).1:Nat):Int):=by rw[wrap_i64 Om Om]; omega
 simp only[go_sem,B];have N:=bZ l (show 0<8 by decide) (aE l 6 a).2;refine cR d T (o:=o) (n:=8) (a:=(aE l 6 a).2) (by decide) a1 rfl Sq ?_;have E:IntKind.i64.wrap (1+((aE l 8 (aE l 6 a).2).1:Int))=((1+(aE l 8 (aE l 6 a).2).1:Nat):Int):=by rw[wrap_i64 Om Om]; omega
 simp only[go_sem,E];refine aA (d.fmk ((1+(aE l 6 a).1:Nat):Int) ((1+(aE l 8 (aE l 6 a).2).1:Nat):Int) (by unfold dK; omega) (by unfold dK; omega)) rfl ?_;have J:¬ ((1+(aE l 8 (aE l 6 a).2).1:Nat):Int)=0:=Om;unfold xI;rw[if_neg J];simp only[go_sem];refine aO fun q w=>?_;have y:¬ q=o:=(jF.1 w).1;have A:¬ q=p:=(jF.1 (jF.1 w).2).1;have i:¬ p=q:=fun h=>A h.symm;have e:¬ o=q:=fun h=>y h.symm;simp only[go_sem,On,x,c,y,A,i];refine aX (vs:=[.agg (fK l a).1.cells]) (.inr rfl) (PH.nil.set o (bA v (fK l a).2)) ?_ (e_ a_ ?_) ⟨rfl,rfl⟩
 ·simp only[go_sem];rfl
 ·simp only[go_sem,c,e];rfl
structure Hv (C:Ctx):Prop extends tF C where
 frac:∀ (l:List Nat) (v:PV),Tp l v→∀ (o a:Nat),a≤l.length→aH C 1 [.ptr o 2 0 0] (PH.nil.set o (bA v a)) (aDJ l v o a)
abbrev gG (l:List RF):List (List PV):=l.map RF.cells
theorem yB (l:List RF) (x:RF):gG l++[x.cells]=gG (l++[x]):=by simp[gG]
theorem JN (l:List RF):Flat (gG l):=Flat.map l fun x c d q s rs=>by
 simp only[RF.cells,eM,aVC,aVK,or_false] at d;rcases d with rfl | rfl | rfl<;>rfl
theorem mT (l:List RF):(gG l).length=l.length:=by simp[gG]
theorem Tp.frz {l:List Nat} {v:PV} (T:Tp l v) (q s:Nat) (rs:List (List PV)):PV.dH q s rs v=v:=by
 rcases T.seen with ⟨_,rfl⟩ | rfl<;>rfl
theorem HU (l:List Nat) {a:Nat} (h:a≤l.length):∀ k,(kP l a k).2≤l.length
 | 0=>h
 | k+1=>vC l (HU l h k)
theorem Rr (l:List Nat) (a:Nat):∀ k,(kP l a k).1.length=k
 | 0=>rfl
 | k+1=>by simp only[kP,aUS,aUX,Rr l a k]
def aJQ (l:List Nat) (v:PV) (o a k:Nat) (r:PV) (H:PH):Prop:=r=frs (kP l a k).1∧H=PH.nil.set o (bA v (kP l a k).2)
def akG (o:Nat) (m:Nat) (w:PV) (i:Nat):PF:=((((PF.nil.set 0 (.ptr o 2 0 0)).set 1 (.int .i64 m)).set 5 (w)).set 6 (.int .i64 i))
theorem aGS {C:Ctx} (J:Hv C) {l:List Nat} {v:PV} (T:Tp l v) (o a m:Nat) (S:m≤1000) (N:a≤l.length):SV.wp C (aU azE.res (aJQ l v o a (max m 1))) (PF.args [.ptr o 2 0 0,.int .i64 m]) (PH.nil.set o (bA v a)):=by
 have p:∀ i:Nat,((i:Int)<(if (m:Int)<1 then 1 else (m:Int)))↔i<max m 1:=by intro i;split<;>omega
 simp only[go_sem,SV,aaO,aaP,aaQ,azE];have K:aM (PH.nil.set o (bA v a)) [(o,bA v a)] [(.aB,3,gG [])]:=(aM.nil.new (H:=PH.nil) rfl (bA v a)).mI 3;refine wp_loop (α:=Nat × PV × PH) (fun t=>akG o m t.2.1 t.1) (fun t=>t.2.2) (fun t=>t.1≤max m 1∧aM t.2.2 [(o,bA v (kP l a t.1).2)] [(t.2.1,3,gG (kP l a t.1).1)]) (fun t=>max m 1-t.1) (0,.aB,PH.nil.set o (bA v a)) ⟨aUT _,K⟩ ?_ b_ ?_
 ·unfold akG;exact Lq
 rintro⟨k,w,R⟩ ⟨O,d⟩;simp only at O d ⊢;simp only[go_sem,aaN,aaR,akG];have A:=HU l N k;have c:=Rr l a k;by_cases hlt:k<max m 1
 ·have y:=(p k).2 hlt;simp only[go_sem,y,aaS];refine lK (J.frac l v T o _ A) (d.at 0 rfl) rfl ?_;have x:=d.set 0 rfl (bA v (fK l (kP l a k).2).2);have u:(1:Nat)*3≤16777216:=by decide
  simp only[go_sem,u];refine x.append 0 (src:=[(fK l (kP l a k).2).1.cells]) rfl rfl (by unfold roomFor; rw[mT,c]; simp only[aUX,maxLen]; omega) fun Q H' E _=>?_;rw[yB] at E;simp only[go_sem,aaT,wZz k];refine aG (k+1,Q,H') ⟨hlt,E⟩ (by simp only; omega) ?_ b_;exact Lq
 ·have y:¬ ((k:Int)<(if (m:Int)<1 then 1 else (m:Int))):=fun h=>hlt ((p k).1 h);have e:k=max m 1:=Om;subst e;simp only[go_sem,y,aaU];have B:gG (kP l a (max m 1)).1≠[]:=fun h=>by have:=congrArg List.length h;rw[mT,c] at this;simp at this
  rcases d.own 0 rfl with ⟨M,_⟩ | ⟨q,rs,rfl,_⟩
  ·exact absurd M B
  obtain⟨rs,g1,g2,g3,-,g4⟩:=d.frz 0 rfl;refine vN (vs:=[.osl q 3 0 (gG (kP l a (max m 1)).1).length]) (.inr rfl) rfl (.step g1 (.done (H2:=PH.nil.set o (bA v (kP l a (max m 1)).2)) ?_ (e_ a_ ?_)))
  ·rw[bQ,g3];exact⟨rfl,rfl⟩
  ·have:=g4.at 0 rfl;rw[this];simp only[cB.frz,aVZ,aWS,T.frz];rfl
theorem ayZ {C:Ctx} (d:tF C) (s:List UInt8) (n:Nat) (p:s.length≤100) (e:n<100):LO.wp C (aU akF.res (aI (.str (s++cC n)))) (PF.args [.str s,.int .i64 n]) .nil:=by
 have i:(cC n).length≤2:=by
  unfold cC;rw[Lib.decDigits];split
  ·simp
  ·rw[Lib.decDigits,dif_pos Om]; simp
 have c:¬ (((s.length+(cC n).length:Nat):Int)>9223372036854775807):=Om;simp only[go_sem,LO,O9,Pa,akF];refine aA (d.itoa n e) rfl ?_;simp only[go_sem,ahG,c];refine aR (.inr rfl) rfl ?_;rfl
structure tG (C:Ctx):Prop extends Hv C where
 rep:∀ (l:List Nat) (v:PV),Tp l v→∀ (o a m:Nat),m≤1000→a≤l.length→aH C 5 [.ptr o 2 0 0,.int .i64 m] (PH.nil.set o (bA v a)) (aJQ l v o a (max m 1))
 name:∀ (s:List UInt8) (n:Nat),s.length≤100→n<100→aH C 29 [.str s,.int .i64 n] .nil (aI (.str (s++cC n)))
theorem avK (l:List Nat) (i j:Nat) {a:Nat} (h:a≤l.length):(jH l i j a).2≤l.length:=by
 unfold jH;split
 ·exact vC l h
 ·split
  ·exact h
  ·simp only;split
   ·exact vC l (bJ l 3 h)
   ·exact bJ l 3 h
theorem vz (l:List Nat) (i:Nat) {a:Nat} (h:a≤l.length):∀ j,(dS l i a j).2≤l.length
 | 0=>h
 | j+1=>avK l i j (vz l i h j)
theorem d7 (l:List Nat) (i a:Nat):∀ j,(dS l i a j).1.length=j
 | 0=>rfl
 | j+1=>by simp only[dS,aUS,aUX,d7 l i a j]
theorem b9 (l:List Nat) (n i:Nat) (s:DS) (h:s.a≤l.length):(dR l n i s).2≤l.length∧(dR l n i s).1≤s.left:=by
 unfold dR;split
 ·exact⟨bJ l _ h,by have:=bZ l (Om:0<s.left+1) s.a; omega⟩
 ·exact⟨h,aUU _⟩
theorem Kl (l:List Nat) (n i:Nat) {a:Nat} (h:a≤l.length):(fD l n i a).2≤l.length:=by
 unfold fD;simp only;split
 ·exact bJ l 3 (vC l h)
 ·exact vC l h
theorem ul (l:List Nat) (n:Nat) {a:Nat} (h:a≤l.length):∀ i,(fV l n a i).a≤l.length∧(fV l n a i).left≤8∧(fV l n a i).start.length=i∧(fV l n a i).exit.length=i∧(fV l n a i).aTH.length=i
 | 0=>⟨h,aUU _,rfl,rfl,rfl⟩
 | i+1=>by
  obtain⟨c,u,d,e,h5⟩:=ul l n h i;have p:=b9 l n i (fV l n a i) c;refine⟨?_,?_,?_,?_,?_⟩
  ·exact vz l i (Kl l n i p.1) n
  ·simp only[fV]; omega
  ·simp only[fV,aUS,aUX,d]
  ·simp only[fV,aUS,aUX,e]
  ·simp only[fV,aUS,aUX,h5]
abbrev vO (l:List (List RF)):List (List PV):=l.map fun r=>[frs r]
theorem Cc (l:List (List RF)):Flat (vO l):=Flat.map l fun x c d q s rs=>by
 simp only[aVC,aVK,or_false] at d;subst d; rfl
abbrev b8 (c d e:PV):cB:=.rows 4 [[.str [],c,d,e]]
abbrev Nt:cB:=.rows 4 [[.str [],.aB,.aB,.aB]]
def fM (o o4 o6 n left i:Nat) (w:PV) (j:Nat):PF:=((((((((PF.nil.set 0 (.ptr o 2 0 0)).set 4 (.ptr o4 4 0 0)).set 5 (.int .i64 n)).set 6 (.ptr o6 4 0 0)).set 7 (.int .i64 left)).set 8 (.int .i64 i)).set 13 (w)).set 14 (.int .i64 j))
def dC (o o4 o6 n left i:Nat):PF:=((((((PF.nil.set 0 (.ptr o 2 0 0)).set 4 (.ptr o4 4 0 0)).set 5 (.int .i64 n)).set 6 (.ptr o6 4 0 0)).set 7 (.int .i64 left)).set 8 (.int .i64 i))
theorem ce {l:List RF} (h:l.length≤1000):roomFor (gG l).length 1 56:=by
 unfold roomFor;rw[mT];simp only[maxLen]; omega
theorem ayV {C:Ctx} (V:tG C) {l:List Nat} {v:PV} (T:Tp l v) (o o4 o6 n left i a:Nat) (ha:a≤l.length) (hn:n≤100) (hi:i<n) (B:List BX) (L:List LI) (K:bR) (F:PF) (H:PH)
  (hF:(fM o o4 o6 n left i .aB 0).le F) (O:aM H ((o,bA v a)::B) L)
  (hK:∀ w d H',(fM o o4 o6 n left i w n).le d→aM H' ((o,bA v (dS l i a n).2)::B) (L++[(w,3,gG (dS l i a n).1)])→K (.exit 2) d H') :
  aC.wp C (.loop LJ) K F H:=by
 refine wp_loop (α:=Nat × PV × PH) (fun t=>fM o o4 o6 n left i t.2.1 t.1) (fun t=>t.2.2) (fun t=>t.1≤n∧aM t.2.2 ((o,bA v (dS l i a t.1).2)::B) (L++[(t.2.1,3,gG (dS l i a t.1).1)])) (fun t=>n-t.1) (0,.aB,H) ⟨aUT _,O.mI 3⟩ hF b_ ?_;rintro⟨j,w,H0⟩ ⟨hj,O⟩;simp only at hj O ⊢;have N:=vz l i ha j;have δ:=d7 l i a j;have e1:IntKind.i64.wrap ((i:Int)+1)=((i+1:Nat):Int):=dA Om;simp only[go_sem,LJ,O4,fM];by_cases hlt:j<n
 ·have A:(j:Int)<(n:Nat):=Om;simp only[go_sem,A,O5];refine aA (V.int 0 (by unfold dK; omega)) rfl ?_;simp only[go_sem];refine aO fun p hp=>?_;have e:=O.new hp (.rows 3 [jY.cells]);simp only[go_sem,O6,e1];have fin:∀ (d:PF) (H':PH),(fM o o4 o6 n left i w j).le d→d 15=some (.ptr p 3 0 0)→aM H' ((o,bA v (jH l i j (dS l i a j).2).2)::B++[(p,.rows 3 [(jH l i j (dS l i a j).2).1.cells])]) (L++[(w,3,gG (dS l i a j).1)]) →
    aC.wp C (.region cp) (eQ 3 (gD C (aC.wp C (.region cq)) (eY (fun (t:Nat × PV × PH)=>fM o o4 o6 n left i t.2.1 t.1) (fun t=>t.2.2) (fun t=>t.1≤n∧aM t.2.2 ((o,bA v (dS l i a t.1).2)::B) (L++[(t.2.1,3,gG (dS l i a t.1).1)])) (fun t=>n-t.1) (n-j) K))) d H':=by
   intro d H' c E Q;have f0:d 0=some (.ptr o 2 0 0):=c 0 _ (by unfold fM; simp only[go_sem]);have f4:d 4=some (.ptr o4 4 0 0):=c 4 _ (by unfold fM; simp only[go_sem]);have f5:d 5=some (.int .i64 n):=c 5 _ (by unfold fM; simp only[go_sem]);have f6:d 6=some (.ptr o6 4 0 0):=c 6 _ (by unfold fM; simp only[go_sem]);have f7:d 7=some (.int .i64 left):=c 7 _ (by unfold fM; simp only[go_sem]);have f8:d 8=some (.int .i64 i):=c 8 _ (by unfold fM; simp only[go_sem]);have f13:d 13=some w:=c 13 _ (by unfold fM; simp only[go_sem]);have f14:d 14=some (.int .i64 j):=c 14 _ (by unfold fM; simp only[go_sem]);have β:H' p=some (.rows 3 [(jH l i j (dS l i a j).2).1.cells]):=Q.box (p,.rows 3 [(jH l i j (dS l i a j).2).1.cells]) (by simp);have X:(1:Nat)*3≤16777216:=by decide
   simp only[go_sem,cp,f13,E,β,X];refine Q.append (v:=w) (s:=3) (rows:=gG (dS l i a j).1) L.length (src:=[(jH l i j (dS l i a j).2).1.cells]) (by simp) rfl (ce Om) fun w' H2 h2 _=>?_;rw[yB,aXO _ _ (aUU _),aXQ] at h2;simp only[go_sem,cq,f14,wZz j];refine aG (α:=Nat × PV × PH) (j+1,w',H2) ⟨hlt,h2.sub (List.sublist_append_left ..) (aWT.refl _)⟩ (by simp only; omega) ?_ b_;unfold fM;exact Lq
  simp only[aC.wp,go_sem] at fin;have U:∀ x:RF,PH.set (PH.set H0 p (.rows 3 [jY.cells])) p (.rows 3 [x.cells])=PH.set H0 p (.rows 3 [x.cells]):=fun x=>PH.set_set p _ _;have draw:∀ (d:PF) (R:PH) (a1:Nat),a1≤l.length→(fM o o4 o6 n left i w j).le d→d 15=some (.ptr p 3 0 0)→aM R ((o,bA v a1)::B++[(p,.rows 3 [jY.cells])]) (L++[(w,3,gG (dS l i a j).1)])→jH l i j (dS l i a j).2=fK l a1→∀ K',(∀ M H2,(fM o o4 o6 n left i w j).le M→M 15=some (.ptr p 3 0 0)→aM H2 ((o,bA v (jH l i j (dS l i a j).2).2)::B++[(p,.rows 3 [(jH l i j (dS l i a j).2).1.cells])]) (L++[(w,3,gG (dS l i a j).1)])→K' M H2) →
    wpOps C cn K' d R:=by
   intro d R a1 Z c E e J K' Y;have f0:d 0=some (.ptr o 2 0 0):=c 0 _ (by unfold fM; simp only[go_sem]);simp only[go_sem,cn,f0];refine lK (V.frac l v T o a1 Z) (e.at 0 rfl) rfl ?_;have y:aM (R.set o (bA v (fK l a1).2)) ((o,bA v (fK l a1).2)::B++[(p,.rows 3 [jY.cells])]) (L++[(w,3,gG (dS l i a j).1)]):=e.set 0 rfl _;have γ:=y.QN;simp only[go_sem,E,γ];refine Y _ _ ?_ (by simp only[go_sem,E]) ?_
   ·have g:=fun (q:Nat) u h=>c q u h;unfold fM at g ⊢;refine c_ (c_ (c_ (c_ (c_ (c_ (c_ (c_ d_ ?_) ?_) ?_) ?_) ?_) ?_) ?_) ?_
    ·simp only[go_sem,f0]
    ·simp only[go_sem,g 4 _ rfl]
    ·simp only[go_sem,g 5 _ rfl]
    ·simp only[go_sem,g 6 _ rfl]
    ·simp only[go_sem,g 7 _ rfl]
    ·simp only[go_sem,g 8 _ rfl]
    ·simp only[go_sem,g 13 _ rfl]
    ·simp only[go_sem,g 14 _ rfl]
   ·rw[J];exact y.v8 (.rows 3 [(fK l a1).1.cells])
  by_cases S:j=i+1
  ·have J:jH l i j (dS l i a j).2=fK l (dS l i a j).2:=by unfold jH; rw[if_pos S]
   simp only[go_sem,bP (Om:(j:Int)=((i+1:Nat):Int))];refine draw _ _ _ N (by unfold fM; exact Lq) rfl e J _ ?_;intro M H2 k1 k2 k3;exact fin M H2 k1 k2 k3
  ·simp only[go_sem,bG (Om:¬ (j:Int)=((i+1:Nat):Int))];by_cases W:j=i
   ·have J:jH l i j (dS l i a j).2=(jY,(dS l i a j).2):=by unfold jH; rw[if_neg S,if_pos W]
    simp only[go_sem,cA (Om:(j:Int)=(i:Int))];exact fin _ _ (by unfold fM; exact Lq) rfl (by rw[J]; exact e)
   ·simp only[go_sem,dO (Om:¬ (j:Int)=(i:Int))];refine cR V.totF T (o:=o) (n:=3) (a:=(dS l i a j).2) (by decide) N rfl (e.at 0 rfl) ?_;have y:aM _ ((o,bA v (aE l 3 (dS l i a j).2).2)::B++[(p,.rows 3 [jY.cells])]) (L++[(w,3,gG (dS l i a j).1)]):=e.set 0 rfl _;by_cases c3:(aE l 3 (dS l i a j).2).1=0
    ·have J:jH l i j (dS l i a j).2=fK l (aE l 3 (dS l i a j).2).2:=by unfold jH; rw[if_neg S,if_neg W]; simp only[c3,if_true]
     simp only[go_sem,bP (show (((aE l 3 (dS l i a j).2).1:Nat):Int)=0 by omega)];refine draw _ _ _ (bJ l 3 N) (by unfold fM; exact Lq) rfl y J _ ?_;intro M H2 k1 k2 k3;exact fin M H2 k1 k2 k3
    ·have J:jH l i j (dS l i a j).2=(jY,(aE l 3 (dS l i a j).2).2):=by unfold jH; rw[if_neg S,if_neg W]; simp only[c3,if_false]
     simp only[go_sem,bG (show ¬ (((aE l 3 (dS l i a j).2).1:Nat):Int)=0 by omega)];exact fin _ _ (by unfold fM; exact Lq) rfl (by rw[J]; exact y)
 ·have A:¬ (j:Int)<(n:Nat):=Om;have:j=n:=Om;subst this;simp only[go_sem,A];exact hK w _ _ (by unfold fM; exact Lq) O
abbrev rS (o o4 o6:Nat) (v c d e:PV) (a:Nat):List BX:=[(o,bA v a),(o4,Nt),(o6,b8 c d e)]
abbrev wB (s:DS) (c d e:PV):List LI:=[(c,3,gG s.start),(d,1,vO s.aTH),(e,3,gG s.exit)]
theorem apY {C:Ctx} (J:tG C) {l:List Nat} {v:PV} (T:Tp l v) (o o4 o6 n i:Nat) (s:DS) (E:s.a≤l.length) (U:s.left≤8) (V:n≤100) (hi:i<n) (B:List BX) (L:List LI) (rest:aC) (K:bR) (F:PF) (H:PH)
  (d:(dC o o4 o6 n s.left i).le F) (x:aM H ((o,bA v s.a)::B) L)
  (p:∀ u H',(dC o o4 o6 n (s.left-(dR l n i s).1) i).le u→u 9=some (.int .i64 ((dR l n i s).1:Nat))→aM H' ((o,bA v (dR l n i s).2)::B) L→aC.wp C rest K u H') :
  aC.wp C (.seq (.region ut) (.seq (.seq (.region uu) (.cond (.tmp 29) (.region uv) .skip)) (.seq (.region WP) rest))) K F H:=by
 have f0:F 0=some (.ptr o 2 0 0):=d 0 _ (by unfold dC; simp only[go_sem]);have R:F 4=some (.ptr o4 4 0 0):=d 4 _ (by unfold dC; simp only[go_sem]);have O:F 5=some (.int .i64 n):=d 5 _ (by unfold dC; simp only[go_sem]);have f6:F 6=some (.ptr o6 4 0 0):=d 6 _ (by unfold dC; simp only[go_sem]);have f7:F 7=some (.int .i64 s.left):=d 7 _ (by unfold dC; simp only[go_sem]);have Q:F 8=some (.int .i64 i):=d 8 _ (by unfold dC; simp only[go_sem]);have M:IntKind.i64.wrap ((i:Int)+1)=((i+1:Nat):Int):=dA Om;have S:=(b9 l n i s E).2;have e:IntKind.i64.wrap ((s.left:Int)-((dR l n i s).1:Int))=((s.left-(dR l n i s).1:Nat):Int):=by rw[wrap_i64 Om Om]; omega
 simp only[go_sem,ut,f7,uu,Q,O,M];by_cases c:i+1<n
 ·have w:((i+1:Nat):Int)<(n:Nat):=Om;have A:dR l n i s=aE l (s.left+1) s.a:=by unfold dR; rw[if_pos c]
  have N:IntKind.i64.wrap ((s.left:Int)+1)=((s.left+1:Nat):Int):=dA Om;rw[A] at p e;simp only[go_sem,w,uv,f0,f7,N];refine cR J.totF T (o:=o) (n:=s.left+1) (a:=s.a) Om E rfl x.aJY ?_;have y:=x.aHX (bA v (aE l (s.left+1) s.a).2);simp only[go_sem,WP,f7,e];refine p _ _ ?_ rfl y;unfold dC;exact Lq
 ·have w:¬ ((i+1:Nat):Int)<(n:Nat):=Om;have A:dR l n i s=(s.left,s.a):=by unfold dR; rw[if_neg c]
  rw[A] at p e;simp only at p e;simp only[go_sem,w,WP,f7,e];refine p _ _ ?_ rfl x;unfold dC;exact Lq
theorem akC {C:Ctx} (O:tG C) {l:List Nat} {v:PV} (o o4 o6 n i left k a:Nat) (hk:k≤8) (hi:i<n) (hn:n≤100) (s:DS) (hs:s.start.length=i) (N u w:PV) (B:List BX) (rest:aC) (K:bR) (F:PF) (H:PH)
  (e:(dC o o4 o6 n left i).le F) (Q:F 9=some (.int .i64 k)) (V:aM H (rS o o4 o6 v N u w a++B) (wB s N u w))
  (W:∀ d M H' B',(dC o o4 o6 n left i).le M→aM H' (rS o o4 o6 v d u w a++B') (wB { s with start:=s.start++[mkT (k:Nat) 8] } d u w)→aC.wp C rest K M H') :
  aC.wp C (.seq (.region cf) (.seq (.region cg) rest)) K F H:=by
 have f0:F 0=some (.ptr o 2 0 0):=e 0 _ (by unfold dC; simp only[go_sem]);have Z:F 4=some (.ptr o4 4 0 0):=e 4 _ (by unfold dC; simp only[go_sem]);have f5:F 5=some (.int .i64 n):=e 5 _ (by unfold dC; simp only[go_sem]);have f6:F 6=some (.ptr o6 4 0 0):=e 6 _ (by unfold dC; simp only[go_sem]);have f7:F 7=some (.int .i64 left):=e 7 _ (by unfold dC; simp only[go_sem]);have f8:F 8=some (.int .i64 i):=e 8 _ (by unfold dC; simp only[go_sem]);simp only[go_sem,cf,Q];refine aA (O.fmk (k:Int) 8 (by unfold dK; omega) (by unfold dK; omega)) rfl ?_;unfold xI;rw[if_neg (by decide)];simp only[go_sem];refine aO fun p X=>?_;have c:=V.new X (.rows 3 [(mkT (k:Nat) 8).cells]);have R:=c.at 2 rfl;have S:=c.QN;have A:(1:Nat)*3≤16777216:=by decide
 have Y:∀ y,PH.set (PH.set H p (.rows 3 [[PV.bool false,PV.aB,PV.aB]])) p y=PH.set H p y:=fun y=>PH.set_set p _ _;simp only[go_sem,cg,f6,R,S,A];refine c.append 0 (src:=[(mkT (k:Nat) 8).cells]) rfl rfl (ce Om) fun d H2 E J=>?_;rw[yB] at E J; rw[mT] at J;obtain⟨q,rfl⟩:=J (by simp);have x:=E.at 2 rfl;simp only[go_sem,x,aVC,aVK,or_false,forall_eq];have U:=E.set 2 rfl (b8 (.osl q 3 0 (s.start++[mkT (k:Nat) 8]).length) u w);refine W _ _ _ (B++[(p,.rows 3 [(mkT (k:Nat) 8).cells])]) ?_ U;unfold dC;exact Lq
theorem apX {C:Ctx} (O:tG C) {l:List Nat} {v:PV} (T:Tp l v) (o o4 o6 n i left a:Nat) (ha:a≤l.length) (hi:i<n) (hn:n≤100) (s:DS) (hs:s.exit.length=i) (u w M:PV) (B:List BX) (rest:aC) (K:bR) (F:PF) (H:PH)
  (J:(dC o o4 o6 n left i).le F) (hH:aM H (rS o o4 o6 v u w M a++B) (wB s u w M))
  (hK:∀ E d H' B',(dC o o4 o6 n left i).le d→aM H' (rS o o4 o6 v u w E (fD l n i a).2++B') (wB { s with exit:=s.exit++[(fD l n i a).1] } u w E)→aC.wp C rest K d H') :
  aC.wp C (.seq (.region ch) (.seq (.seq (.region ci) (.cond (.tmp 58) (.region cj) .skip)) (.seq (.region LK) rest))) K F H:=by
 have f0:F 0=some (.ptr o 2 0 0):=J 0 _ (by unfold dC; simp only[go_sem]);have f4:F 4=some (.ptr o4 4 0 0):=J 4 _ (by unfold dC; simp only[go_sem]);have f5:F 5=some (.int .i64 n):=J 5 _ (by unfold dC; simp only[go_sem]);have f6:F 6=some (.ptr o6 4 0 0):=J 6 _ (by unfold dC; simp only[go_sem]);have f7:F 7=some (.int .i64 left):=J 7 _ (by unfold dC; simp only[go_sem]);have f8:F 8=some (.int .i64 i):=J 8 _ (by unfold dC; simp only[go_sem]);have e1:IntKind.i64.wrap ((i:Int)+1)=((i+1:Nat):Int):=dA Om;simp only[go_sem,ch,f0];refine lK (O.frac l v T o a ha) (hH.at 0 rfl) rfl ?_;have X:=hH.set 0 rfl (bA v (fK l a).2);simp only[go_sem];refine aO fun p hp=>?_;have y:=X.new hp (.rows 3 [(fK l a).1.cells]);simp only[go_sem,ci,f8,f5,e1];have fin:∀ (d:PF) (H':PH),(dC o o4 o6 n left i).le d→d 12=some (.ptr p 3 0 0)→aM H' (rS o o4 o6 v u w M (fD l n i a).2++B++[(p,.rows 3 [(fD l n i a).1.cells])]) (wB s u w M)→wpOps C LK (aC.wp C rest K) d H':=by
  intro d H' e R x;have q0:d 0=some (.ptr o 2 0 0):=e 0 _ (by unfold dC; simp only[go_sem]);have q4:d 4=some (.ptr o4 4 0 0):=e 4 _ (by unfold dC; simp only[go_sem]);have q5:d 5=some (.int .i64 n):=e 5 _ (by unfold dC; simp only[go_sem]);have q6:d 6=some (.ptr o6 4 0 0):=e 6 _ (by unfold dC; simp only[go_sem]);have q7:d 7=some (.int .i64 left):=e 7 _ (by unfold dC; simp only[go_sem]);have q8:d 8=some (.int .i64 i):=e 8 _ (by unfold dC; simp only[go_sem]);have g6:=x.at 2 rfl;have U:=x.QN;have V:(1:Nat)*3≤16777216:=by decide
  simp only[go_sem,LK,q6,g6,R,U,V];refine x.append 2 (src:=[(fD l n i a).1.cells]) rfl rfl (ce Om) fun E H2 W Z=>?_;rw[yB] at W Z; rw[mT] at Z;obtain⟨q,rfl⟩:=Z (by simp);have S:=W.at 2 rfl;simp only[go_sem,S,aVC,aVK,or_false,forall_eq];have h3:=W.set 2 rfl (b8 u w (.osl q 3 0 (s.exit++[(fD l n i a).1]).length));refine hK _ _ _ (B++[(p,.rows 3 [(fD l n i a).1.cells])]) ?_ h3;unfold dC;exact Lq
 by_cases c:i+1<n
 ·have Q:((i+1:Nat):Int)<(n:Nat):=Om;have Y:=vC l ha;simp only[go_sem,Q,f0];refine cR O.totF T (o:=o) (n:=3) (a:=(fK l a).2) (by decide) Y rfl (y.at 0 rfl) ?_;have A:=y.set 0 rfl (bA v (aE l 3 (fK l a).2).2);by_cases c3:(aE l 3 (fK l a).2).1=0
  ·have N:fD l n i a=(jY,(aE l 3 (fK l a).2).2):=by unfold fD; simp only[if_pos c,c3,if_true]
   have U:=aM.QN (B:=rS o o4 o6 v u w M (aE l 3 (fK l a).2).2++B) A;simp only[go_sem,bP (show (((aE l 3 (fK l a).2).1:Nat):Int)=0 by omega),cj];refine aA (O.int 0 (by unfold dK; omega)) rfl ?_;simp only[go_sem,U];refine fin _ _ ?_ rfl ?_
   ·unfold dC;exact Lq
   ·rw[N];exact aM.v8 (B:=rS o o4 o6 v u w M (aE l 3 (fK l a).2).2++B) A (.rows 3 [jY.cells])
  ·have N:fD l n i a=((fK l a).1,(aE l 3 (fK l a).2).2):=by unfold fD; simp only[if_pos c,c3,if_false]
   simp only[go_sem,bG (show ¬ (((aE l 3 (fK l a).2).1:Nat):Int)=0 by omega)];refine fin _ _ ?_ rfl ?_
   ·unfold dC;exact Lq
   ·rw[N];exact A
 ·have Q:¬ ((i+1:Nat):Int)<(n:Nat):=Om;have N:fD l n i a=fK l a:=by unfold fD; simp only[if_neg c]
  simp only[go_sem,Q];refine fin _ _ ?_ rfl ?_
  ·unfold dC;exact Lq
  ·rw[N];exact y
def auZ (l:List Nat) (v:PV) (o dN a:Nat) (r:PV) (H:PH):Prop:=r=.agg (rE l dN a).1.cells∧H=PH.nil.set o (bA v (rE l dN a).2)
theorem arS {l:List (List RF)} (h:l.length≤1000):roomFor (vO l).length 1 24:=by
 unfold roomFor;simp only[aUN,maxLen]; omega
theorem arT (l:List (List RF)) (x:List RF):vO l++[[frs x]]=vO (l++[x]):=by simp[vO]
theorem akB {C:Ctx} (Z:tG C) {l:List Nat} {v:PV} (T:Tp l v) (o o4 o6 n left i a:Nat) (ha:a≤l.length) (hn:n≤100) (hi:i<n) (s:DS) (hs:s.aTH.length=i) (u M A:PV) (B:List BX) (K:bR) (F:PF) (H:PH)
  (E:(dC o o4 o6 n left i).le F) (hH:aM H (rS o o4 o6 v u M A a++B) (wB s u M A))
  (hK:∀ y x U H' B',(dC o o4 o6 n left i).le U→(∃ q,x=.osl q 3 0 n)→aM H' (rS o o4 o6 v u y A (dS l i a n).2++B') [(u,3,gG s.start),(y,1,vO s.aTH++[[x]]),(A,3,gG s.exit),(x,3,gG (dS l i a n).1)]→K .normal U H') :
  aC.wp C (.seq (.region ck) (.seq (.seq (.region cl) (.block 2 (.loop LJ))) (.region cr))) K F H:=by
 have f0:F 0=some (.ptr o 2 0 0):=E 0 _ (by unfold dC; simp only[go_sem]);have f4:F 4=some (.ptr o4 4 0 0):=E 4 _ (by unfold dC; simp only[go_sem]);have f5:F 5=some (.int .i64 n):=E 5 _ (by unfold dC; simp only[go_sem]);have f6:F 6=some (.ptr o6 4 0 0):=E 6 _ (by unfold dC; simp only[go_sem]);have f7:F 7=some (.int .i64 left):=E 7 _ (by unfold dC; simp only[go_sem]);have f8:F 8=some (.int .i64 i):=E 8 _ (by unfold dC; simp only[go_sem]);simp only[go_sem,ck,cl];refine ayV (C:=C) Z T o o4 o6 n left i a ha hn hi ([(o4,Nt),(o6,b8 u M A)]++B) (wB s u M A) _ _ H ?_ hH ?_
 ·unfold fM
  (repeat' (first|exact d_|refine c_ ?_ ?_))<;>first|(simp only[go_sem,f0,f4,f5,f6,f7,f8]<;>rfl)|rfl
 intro w e H1 c p;have d:=d7 l i a n;have hw:∃ q,w=.osl q 3 0 n:=by
  rcases p.own (v:=w) 3 rfl with ⟨J,_⟩ | ⟨q,rs,J,_⟩
  ·have:=congrArg List.length J;rw[mT,d] at this;simp at this; omega
  ·rw[mT,d] at J;exact⟨q,J⟩
 obtain⟨q,rfl⟩:=hw;have g0:e 0=some (.ptr o 2 0 0):=c 0 _ (by unfold fM; simp only[go_sem]);have g4:e 4=some (.ptr o4 4 0 0):=c 4 _ (by unfold fM; simp only[go_sem]);have g5:e 5=some (.int .i64 n):=c 5 _ (by unfold fM; simp only[go_sem]);have V:e 6=some (.ptr o6 4 0 0):=c 6 _ (by unfold fM; simp only[go_sem]);have g7:e 7=some (.int .i64 left):=c 7 _ (by unfold fM; simp only[go_sem]);have g8:e 8=some (.int .i64 i):=c 8 _ (by unfold fM; simp only[go_sem]);have O:e 13=some (.osl q 3 0 n):=c 13 _ (by unfold fM; simp only[go_sem]);have b6:=p.at 2 rfl;have Q:(1:Nat)*1≤16777216:=by decide
 simp only[go_sem,cr,V,b6,O,Q,aVC,aVK,or_false,forall_eq];refine p.append 1 (src:=[[.osl q 3 0 n]]) rfl Sq (arS Om) fun y H2 W S=>?_;obtain⟨Y,rfl⟩:=S (by simp);have N:=W.at 2 rfl;simp only[go_sem,N,aVC,aVK,or_false,forall_eq];have X:=W.set 2 rfl (b8 u (.osl Y 1 0 (vO s.aTH++[[PV.osl q 3 0 n]]).length) A);have R:(vO s.aTH++[[(PV.osl q 3 0 n:PV)]]).length=s.aTH.length+1:=by simp
 rw[R] at X ⊢;refine hK (.osl Y 1 0 (s.aTH.length+1)) (.osl q 3 0 n) _ _ B ?_ ⟨q,rfl⟩ X;unfold dC
 (repeat' (first|exact d_|refine c_ ?_ ?_))<;>first|(simp only[go_sem,g0,g4,g5,V,g7,g8]<;>rfl)|rfl
theorem aGL {C:Ctx} (J:tG C) {l:List Nat} {v:PV} (T:Tp l v) (o dN a:Nat) (hm:0<dN) (γ:dN≤50) (ha:a≤l.length):ST.wp C (aU ayU.res (auZ l v o dN a)) (PF.args [.ptr o 2 0 0,.int .i64 dN]) (PH.nil.set o (bA v a)):=by
 have h0:aM (PH.nil.set o (bA v a)) [(o,bA v a)] []:=aM.nil.new (H:=PH.nil) rfl (bA v a);simp only[go_sem,ST,aaE,ayU];refine aO fun o4 Z=>?_;have F:=h0.new Z Nt;simp only[go_sem,aaF];refine cR J.totF T (o:=o) (n:=dN) (a:=a) Om ha Sq (F.at 0 rfl) ?_;have h2:=F.set 0 rfl (bA v (aE l dN a).2);have hN:=bZ l hm a;have X:=bJ l dN ha;have e1:IntKind.i64.wrap (1+((aE l dN a).1:Int))=((1+(aE l dN a).1:Nat):Int):=by rw[wrap_i64 Om Om]; omega
 have Y:∀ s:DS,s=fV l (1+(aE l dN a).1) (aE l dN a).2 (1+(aE l dN a).1)→rE l dN a=(⟨[],s.start,s.aTH,s.exit⟩,s.a):=fun s hs=>by rw[hs]; rfl
 have W:∀ r H,auZ l v o dN a r H↔r=.agg (rE l dN a).1.cells∧H=PH.nil.set o (bA v (rE l dN a).2):=fun _ _=>Iff.rfl;generalize hn:1+(aE l dN a).1=n at *
 generalize hb:(aE l dN a).2=b at *
 have δ:0<n:=Om;have c:n≤100:=Om;simp only[go_sem,e1,aaG];refine aO fun o6 β=>?_;have h3:=((h2.new β Nt).mI 3).mI 1;have h4:=h3.mI 3;simp only[go_sem,aaH,aaI];refine wp_loop (α:=Nat × PV × PV × PV × PH) (fun t=>dC o o4 o6 n (fV l n b t.1).left t.1) (fun t=>t.2.2.2.2)
  (fun t=>t.1≤n∧aM t.2.2.2.2 (rS o o4 o6 v t.2.1 t.2.2.1 t.2.2.2.1 (fV l n b t.1).a) (wB (fV l n b t.1) t.2.1 t.2.2.1 t.2.2.2.1)) (fun t=>n-t.1) (0,.aB,.aB,.aB,_) ⟨aUT _,h4⟩ ?_ b_ ?_
 ·unfold dC
  (repeat' (first|exact d_|refine c_ ?_ ?_))<;>first|(simp only[go_sem,fV]<;>rfl)|rfl
 rintro⟨i,w1,K,M,H0⟩ ⟨hi,B⟩;simp only at hi B ⊢;obtain⟨k1,k2,k3,k4,k5⟩:=ul l n X i;simp only[go_sem,O3,aaJ,dC];by_cases hlt:i<n
 ·have y:(i:Int)<(n:Nat):=Om;have A:fV l n b (i+1)=⟨(fV l n b i).start++[mkT ((dR l n i (fV l n b i)).1:Nat) 8],(fV l n b i).exit++[(fD l n i (dR l n i (fV l n b i)).2).1],(fV l n b i).aTH++[(dS l i (fD l n i (dR l n i (fV l n b i)).2).2 n).1],(fV l n b i).left-(dR l n i (fV l n b i)).1,(dS l i (fD l n i (dR l n i (fV l n b i)).2).2 n).2⟩:=rfl;have kl:=b9 l n i (fV l n b i) k1;have ke:=Kl l n i kl.1;generalize hs:fV l n b i=s at *
  simp only[go_sem,y];refine apY (C:=C) J T o o4 o6 n i s k1 k2 c hlt [(o4,Nt),(o6,b8 w1 K M)] (wB s w1 K M) _ _ _ H0 (by unfold dC; exact Lq) B ?_;intro F1 H1 N f9 R;refine akC (C:=C) (l:=l) J o o4 o6 n i _ (dR l n i s).1 (dR l n i s).2 Om hlt c s k3 w1 K M [] _ _ F1 H1 N f9 R ?_;intro d F2 H2 B2 O S;refine apX (C:=C) J T o o4 o6 n i _ (dR l n i s).2 kl.1 hlt c { s with start:=s.start++[mkT ((dR l n i s).1:Nat) 8] } k4 d K M B2 _ _ F2 H2 O S ?_;intro e F3 H3 B3 Q U;refine akB (C:=C) J T o o4 o6 n _ i (fD l n i (dR l n i s).2).2 ke c hlt { s with start:=s.start++[mkT ((dR l n i s).1:Nat) 8],exit:=s.exit++[(fD l n i (dR l n i s).2).1] } k5 d K e B3 _ F3 H3 Q U ?_;rintro u ε E H4 B4 p ⟨q,rfl⟩ V;have g0:E 0=some (.ptr o 2 0 0):=p 0 _ (by unfold dC; simp only[go_sem]);have g4:E 4=some (.ptr o4 4 0 0):=p 4 _ (by unfold dC; simp only[go_sem]);have g5:E 5=some (.int .i64 n):=p 5 _ (by unfold dC; simp only[go_sem]);have g6:E 6=some (.ptr o6 4 0 0):=p 6 _ (by unfold dC; simp only[go_sem]);have g7:E 7=some (.int .i64 (s.left-(dR l n i s).1:Nat)):=p 7 _ (by unfold dC; simp only[go_sem]);have g8:E 8=some (.int .i64 i):=p 8 _ (by unfold dC; simp only[go_sem]);obtain⟨rs,z1,z2,z3,z4,z5⟩:=V.frz 3 rfl;have y1:=z4 0 _ (by decide) rfl;have y2:=z4 1 _ (by decide) rfl;have y3:=z4 2 _ (by decide) rfl;simp only at y1 y2 y3;have y4:=T.frz q 3 rs;simp only[go_sem,O7,g8,wZz i];refine SN (i+1,d,u,e,H4.frz q 3 rs) z1 ⟨hlt,?_⟩ (by simp only; omega) ?_ b_
  ·rw[A];have eB:(rS o o4 o6 v d u e (dS l i (fD l n i (dR l n i s).2).2 n).2).map (fun b=>(b.1,b.2.frz q 3 rs))=rS o o4 o6 v d u e (dS l i (fD l n i (dR l n i s).2).2 n).2:=by simp only[aVZ,aWS,cB.frz,y1,y2,y3,y4];rfl
   have eL:([(d,3,gG (s.start++[mkT ((dR l n i s).1:Nat) 8])),(u,1,vO s.aTH++[[.osl q 3 0 n]]),(e,3,gG (s.exit++[(fD l n i (dR l n i s).2).1]))]:List LI).map (fun x=>(x.1,x.2.1,x.2.2.map fun r=>r.map (PV.dH q 3 rs))) =
     wB ⟨s.start++[mkT ((dR l n i s).1:Nat) 8],s.exit++[(fD l n i (dR l n i s).2).1],s.aTH++[(dS l i (fD l n i (dR l n i s).2).2 n).1],s.left-(dR l n i s).1,(dS l i (fD l n i (dR l n i s).2).2 n).2⟩ d u e:=by
    have e2:(vO s.aTH++[[PV.osl q 3 0 n]]).map (fun r=>r.map (PV.dH q 3 rs))=vO (s.aTH++[(dS l i (fD l n i (dR l n i s).2).2 n).1]):=by rw[aVT,Cc,aVZ,aWS,aVZ,aWS,z2,arT]
    show ([(d,3,(gG (s.start++[mkT ((dR l n i s).1:Nat) 8])).map (fun r=>r.map (PV.dH q 3 rs))),(u,1,(vO s.aTH++[[PV.osl q 3 0 n]]).map (fun r=>r.map (PV.dH q 3 rs))),(e,3,(gG (s.exit++[(fD l n i (dR l n i s).2).1])).map (fun r=>r.map (PV.dH q 3 rs)))]:List LI)=_;rw[JN,e2,JN]
   rw[← eB,← eL];exact z5.sub (by rw[aVT]; exact List.sublist_append_left ..) (aWT.refl _)
  ·rw[A]
   (repeat' (first|exact d_|refine c_ ?_ ?_))<;>first|(simp only[go_sem,g0,g4,g5,g6,g7,g8]<;>rfl)|rfl
 ·have y:¬ (i:Int)<(n:Nat):=Om;have:i=n:=Om;subst this;simp only[go_sem,y,O8];have b4:=B.at 1 rfl;have b6:=B.at 2 rfl;have osl:∀ {w:PV} {z:Nat} {rows:List (List PV)},rows.length=i→bE H0 z w rows→∃ q,w=.osl q z 0 i:=by
   intro w z rows hr hO;rcases hO with ⟨F,_⟩ | ⟨q,rs,F,_⟩
   ·rw[F] at hr; simp at hr; omega
   ·exact⟨q,by rw[F,hr]⟩
  obtain⟨q1,rfl⟩:=osl (by rw[mT,k3]) (B.own 0 rfl);obtain⟨q2,rfl⟩:=osl (by rw[aUN,k5]) (B.own 1 rfl);obtain⟨q3,rfl⟩:=osl (by rw[mT,k4]) (B.own 2 rfl);have hR:=Y (fV l i b i) rfl;simp only[go_sem,b6,b4,aVC,aVK,or_false,forall_eq,forall_eq_or_imp];have x1:=B.set 1 rfl (b8 (.osl q1 3 0 i) (.osl q2 1 0 i) (.osl q3 3 0 i));obtain⟨r1,s1,s2,s3,s4,s5⟩:=x1.frz 0 rfl;have u2:=s4 1 _ (by decide) rfl;have u3:=s4 2 _ (by decide) rfl;simp only at u2 u3;have u4:=T.frz q1 3 r1;obtain⟨r2,t1,t2,t3,t4,t5⟩:=s5.frz 0 rfl;have m3:=t4 1 _ (by decide) rfl;simp only at m3;have m4:=T.frz q2 1 r2;obtain⟨r3,n1,n2,n3,n4,n5⟩:=t5.frz 0 rfl;have n4:=T.frz q3 3 r3;refine vN (vs:=[.agg [.str [],.osl q1 3 0 i,.osl q2 1 0 i,.osl q3 3 0 i]]) (.inr rfl) ?_ (.step s1 (.step t1 (.step n1 (.done (H2:=PH.nil.set o (bA v (fV l i b i).a)) ?_ (e_ a_ ?_)))))
  ·simp only[go_sem]
  ·rw[W,hR];refine⟨?_,rfl⟩;simp only[bQ,PV.frz,PV.tQ,aVZ,aWS,s2,u2,u3,t2,m3,n2];simp only[PV.dH,JN _ _ _ _,Cc _ _ _ _]
  ·have:=n5.at 0 rfl;rw[this];simp only[cB.frz,aVZ,aWS,u4,m4,n4];rfl
structure nK (C:Ctx):Prop extends tG C where
 law:∀ (l:List Nat) (v:PV),Tp l v→∀ (o dN a:Nat),0<dN→dN≤50→a≤l.length→aH C 2 [.ptr o 2 0 0,.int .i64 dN] (PH.nil.set o (bA v a)) (auZ l v o dN a)
structure GOk (l:List Nat) (aTC:Nat) (s:GS):Prop where
 aTL:s.aTL.length≤35
 aTV:s.aTV.length≤aTC
 a:s.a≤l.length
theorem bd {l:List Nat} {mc aTC dom:Nat} {s:GS} (h:GOk l aTC s):∀ i,GOk l aTC (jX l mc aTC dom s i)∧(jX l mc aTC dom s i).aTL=s.aTL
 | 0=>⟨h,rfl⟩
 | i+1=>by
  obtain⟨⟨c,p,d⟩,e⟩:=bd (mc:=mc) (dom:=dom) h i;simp only[jX];split
  ·exact⟨⟨c,by simp only[aUS,aUX]; omega,bJ l mc d⟩,e⟩
  ·exact⟨⟨c,p,d⟩,e⟩
theorem Yb {l:List Nat} {level dom aTC:Nat} {s:GS} (h:GOk l aTC s) (c:qM aTC s=false):GOk l aTC (nN l level dom s)∧∃ x:cF,(nN l level dom s).aTL=s.aTL++[x]∧x.level=(level:Int)∧x.parent=(dom:Int):=by
 obtain⟨i,d,e⟩:=h;unfold qM at c;rw[Bool.or_eq_false_iff] at c;have p:=of_decide_eq_false c.2;refine⟨⟨?_,d,?_⟩,_,rfl,rfl,rfl⟩
 ·simp only[nN,aUS,aUX]; omega
 ·have a1:=bJ l 3 (bJ l 16 e);simp only[nN];split
  ·exact bJ l 6 a1
  ·exact a1
theorem be {l:List Nat} {level aTC dom:Nat} {rec:Nat→GS→GS} (c:∀ d t,GOk l aTC t→GOk l aTC (rec d t)∧∃ u,(rec d t).aTL=t.aTL++u) {s:GS} (h:GOk l aTC s) :
  ∀ i,GOk l aTC (gJ l level aTC dom rec s i)∧∃ u,(gJ l level aTC dom rec s i).aTL=s.aTL++u
 | 0=>⟨h,[],by simp[gJ]⟩
 | i+1=>by
  obtain⟨e,u,p⟩:=be c h i;simp only[gJ];split
  ·exact⟨e,u,p⟩
  ·rename_i w;obtain⟨g1,x,g2,-⟩:=Yb (level:=level) (dom:=dom) e (by simpa using w);obtain⟨k1,y,k2⟩:=c ((nN l level dom (gJ l level aTC dom rec s i)).aTL.length-1) _ g1;exact⟨k1,u++[x]++y,by rw[k2,g2,p]; simp⟩
theorem JX {l:List Nat} {mc aTC:Nat}:∀ (k dom:Nat) {s:GS},GOk l aTC s→GOk l aTC (eX l mc aTC k dom s)∧∃ u,(eX l mc aTC k dom s).aTL=s.aTL++u
 | 0,dom,s,h=>by have c:GOk l aTC { s with a:=(aE l 2 s.a).2 }:=⟨h.aTL,h.aTV,bJ l 2 h.a⟩;obtain⟨e,i⟩:=bd (mc:=mc) (dom:=dom) c (1+(aE l 2 s.a).1);exact⟨e,[],by simp only[eX]; rw[i]; simp⟩
 | k+1,dom,s,h=>by have c:GOk l aTC { s with a:=(aE l 2 s.a).2 }:=⟨h.aTL,h.aTV,bJ l 2 h.a⟩;exact be (level:=4-k) (dom:=dom) (fun d t p=>JX k d p) c (if 4-k=2 then 1 else 1+(aE l 2 s.a).1)
theorem ajC {l : List Nat} {level aTC dom : Nat} {rec : Nat → GS → GS} {s : GS} {i : Nat} (h : qM aTC (gJ l level aTC dom rec s i) = true) : ∀ n, i ≤ n → gJ l level aTC dom rec s n = gJ l level aTC dom rec s i := by
  intro n hn
  induction n with
  | zero => have : i = 0 := Om
            subst this; rfl
  | succ n ih =>
    rcases aVL n i with h' | h'
    · have : i = n + 1 := Om
      subst this; rfl
    · have e := ih h'
      simp only [gJ];rw [e, if_pos h]
def mkS (l:List Nat) (v:PV):Spec:=fun name vs=>match name,vs with
 | 29,[.str s,.int _ i]=>some ([],fun _=>aI (.str (s++cC i.toNat)))
 | 47,[.int _ n]=>some ([],fun _=>aI (.agg (mkT n 1).cells))
 | 4,[.ptr o _ _ _,.int _ n]=>some ([o],fun c r H'=>∀ a,c o=some (bA v a)→gi l v o n.toNat a r H')
 | _,_=>none
section
variable {C:Ctx} {F:PF} {H Hs:PH} {l:List Nat} {v:PV} {o a:Nat}
theorem sD (u:tF C) (T:Tp l v) {n:Nat} {st:Bool} {args:List aQ} {d:Option Nat} {K:PF→PH→Prop} (B:n≤1000000) (w:a≤l.length) (e:aQ.evs F args=some [.ptr o 2 0 0,.int .i64 n]) (E:H o=some (bA v a))
  (i:Hs.le (H.set o (bA v (aE l n a).2))) (A:K (F.put d (.int .i64 ((aE l n a).1:Nat))) (H.set o (bA v (aE l n a).2))):dOp C Hs (mkS l v) st (.call 4 args) d K F H:=by
 refine awA (x:=bA v a) (y:=bA v (aE l n a).2) (r:=.int .i64 ((aE l n a).1:Nat)) (R:=fun p r H'=>∀ a,p o=some (bA v a)→gi l v o n a r H') rfl E (u.next l v T o n a B w) ?_ ?_ e i A
 ·intro b c;rw[cO] at c;injection c with c
  injection c with _ c
  injection c with c _
  injection c with _ c
  injection c with c _
  injection c with _ c
  have:a=b:=Om;subst this;exact⟨rfl,rfl⟩
 ·intro M H' J;exact J a (by rw[cO])
theorem JA (i:tG C) {s:List UInt8} {n:Nat} {st:Bool} {args:List aQ} {d:Option Nat} {K:PF→PH→Prop} (w:s.length≤100) (u:n<100) (c:aQ.evs F args=some [.str s,.int .i64 n]) (e:Hs.le H) (p:K (F.put d (.str (s++cC n))) H) :
  dOp C Hs (mkS l v) st (.call 29 args) d K F H :=
 bY (v:=.str (s++cC n)) rfl (i.name s n w u) c e p
theorem aEP (i:tF C) {n:Int} {st:Bool} {args:List aQ} {d:Option Nat} {K:PF→PH→Prop} (u:dK n) (c:aQ.evs F args=some [.int .i64 n]) (e:Hs.le H) (p:K (F.put d (.agg (mkT n 1).cells)) H) :
  dOp C Hs (mkS l v) st (.call 47 args) d K F H :=
 bY (v:=.agg (mkT n 1).cells) rfl (i.int n u) c e p
end
theorem bE.tT {H:PH} {s:Nat} {v:PV} {rows:List (List PV)} (h:bE H s v rows):PV.tT v=some (.int .i64 (rows.length:Nat)):=by
 rcases h with ⟨rfl,rfl⟩ | ⟨q,rs,rfl,_⟩<;>rfl
abbrev kL (l:List cF):List (List PV):=l.map cF.cells
abbrev mS (l:List dL):List (List PV):=l.map dL.cells
abbrev flB (ext wl d c e wp wv:PV):cB:=.rows 7 [[ext,wl,d,c,e,wp,wv]]
structure GE where
 o:Nat
 fo:Nat
 qm:Nat
 ext:PV
 wl:PV
 wp:PV
 wv:PV
abbrev GE.boxes (G:GE) (v:PV) (mc:Nat) (c d:PV) (a:Nat):List BX:=[(G.o,bA v a),(G.fo,flB G.ext G.wl (.osl G.qm 4 0 mc) c d G.wp G.wv)]
abbrev mE (s:GS) (c d:PV):List LI:=[(c,7,kL s.aTL),(d,3,mS s.aTV)]
def fE (G:GE) (dom aTC level n i:Nat):PF:=(((((((PF.nil.set 0 (.ptr G.o 2 0 0)).set 1 (.ptr G.fo 7 0 0)).set 2 (.int .i64 dom)).set 3 (.int .i64 aTC)).set 8 (.int .i64 level)).set 9 (.int .i64 n)).set 10 (.int .i64 i))
theorem bE.one {H:PH} {s:Nat} {v:PV} {rows:List (List PV)} (h:bE H s v rows) (c:0<rows.length):∃ q,v=.osl q s 0 rows.length:=by
 rcases h with ⟨rfl,_⟩ | ⟨q,rs,rfl,_⟩
 ·simp at c
 ·exact⟨q,rfl⟩
theorem Oo {C:Ctx} (Q:nK C) {l:List Nat} {v:PV} (T:Tp l v) (G:GE) (mc aTC dom n:Nat) (γ:0<mc) (W:mc≤1000) (β:aTC≤60) (hn:n≤10) (s:GS) (hs:GOk l aTC s) (p w:PV) (K:bR) (F:PF) (H:PH)
  (Z:(fE G dom aTC 5 n 0).le F) (u:aM H (G.boxes v mc p w s.a) (mE s p w))
  (hK:∀ E y X H',aM H' (G.boxes v mc E y (jX l mc aTC dom s n).a) (mE (jX l mc aTC dom s n) E y)→K (.exit 0) X H') :
  aC.wp C (.loop xC) K F H:=by
 refine wp_loop (α:=Nat × PV × PV × PH) (fun t=>fE G dom aTC 5 n t.1) (fun t=>t.2.2.2) (fun t=>t.1≤n∧aM t.2.2.2 (G.boxes v mc t.2.1 t.2.2.1 (jX l mc aTC dom s t.1).a) (mE (jX l mc aTC dom s t.1) t.2.1 t.2.2.1)) (fun t=>n-t.1) (0,p,w,H) ⟨aUT _,u⟩ Z b_ ?_;rintro⟨i,p,w,O⟩ ⟨hi,u⟩;simp only at hi u ⊢;obtain⟨M,-⟩:=bd (mc:=mc) (dom:=dom) hs i;have c:jX l mc aTC dom s (i+1)=(if (jX l mc aTC dom s i).aTV.length<aTC then { jX l mc aTC dom s i with aTV:=(jX l mc aTC dom s i).aTV++[⟨[100]++cC (jX l mc aTC dom s i).aTV.length,((aE l mc (jX l mc aTC dom s i).a).1:Nat),(dom:Nat)⟩],a:=(aE l mc (jX l mc aTC dom s i).a).2 } else jX l mc aTC dom s i):=rfl;simp only[go_sem,xC,cb,fE];by_cases hlt:i<n
 ·have d:(i:Int)<(n:Nat):=Om;generalize hg:jX l mc aTC dom s i=g at *
  have b1:=u.at 1 rfl;have N:=(u.own 1 rfl).tT;rw[aUN] at N;have R:=wZz i;simp only[go_sem,d,cc,show (((5:Nat):Int)==5)=true from rfl,Ow,b1,N];by_cases V:g.aTV.length<aTC
  ·have x:(g.aTV.length:Int)<(aTC:Nat):=Om;rw[if_pos V] at c;simp only[go_sem,x];have B:(PH.nil.set G.fo (flB G.ext G.wl (.osl G.qm 4 0 mc) p w G.wp G.wv)).le O:=e_ a_ b1;refine bS (PH.nil.set G.fo (flB G.ext G.wl (.osl G.qm 4 0 mc) p w G.wp G.wv)) (mkS l v) B ?_;simp only[go_sem,Ox,b1,N];refine JA Q.totG (s:=[100]) (n:=g.aTV.length) (by decide) (by have:=M.aTV; omega) rfl B ?_;simp only[go_sem];have ho:=u.at 0 rfl;have S:=u.set 0 rfl (bA v (aE l mc g.a).2);have J:=S.at 1 rfl;refine sD Q.totF T (o:=G.o) (n:=mc) (a:=g.a) Om M.a rfl ho (e_ a_ J) ?_;have A:(1:Nat)*3≤16777216:=by decide
   simp only[go_sem,A,aVC,aVK,or_false,forall_eq,forall_eq_or_imp];refine S.append 1 (src:=[(⟨[100]++cC g.aTV.length,((aE l mc g.a).1:Nat),(dom:Nat)⟩:dL).cells]) rfl rfl (by unfold roomFor; rw[aUN]; have:=M.aTV; simp only[aUX,maxLen]; omega) fun y H2 U hw=>?_;obtain⟨q,rfl⟩:=hw (by simp);have b2:=U.at 1 rfl;refine⟨e_ a_ b2,?_⟩;refine bS .nil dT a_ ?_;simp only[go_sem,Oy,b2,aVC,aVK,or_false,forall_eq];have Y:=U.set 1 rfl (flB G.ext G.wl (.osl G.qm 4 0 mc) p (.osl q 3 0 (mS g.aTV++[(⟨[100]++cC g.aTV.length,((aE l mc g.a).1:Nat),(dom:Nat)⟩:dL).cells]).length) G.wp G.wv);refine⟨a_,?_⟩;simp only[go_sem,xD,R];refine aG (i+1,p,.osl q 3 0 (mS g.aTV++[(⟨[100]++cC g.aTV.length,((aE l mc g.a).1:Nat),(dom:Nat)⟩:dL).cells]).length,_) ⟨hlt,?_⟩ (by simp only; omega) ?_ b_
   ·rw[c];have e:mS (g.aTV++[(⟨[100]++cC g.aTV.length,((aE l mc g.a).1:Nat),(dom:Nat)⟩:dL)])=mS g.aTV++[(⟨[100]++cC g.aTV.length,((aE l mc g.a).1:Nat),(dom:Nat)⟩:dL).cells]:=by simp[mS]
    unfold mE;simp only;rw[e];exact Y
   ·exact Lq
  ·have x:¬ (g.aTV.length:Int)<(aTC:Nat):=Om;rw[if_neg V] at c;simp only[go_sem,x,xD,R];refine aG (i+1,p,w,O) ⟨hlt,by rw[c]; exact u⟩ (by simp only; omega) ?_ b_;exact Lq
 ·have d:¬ (i:Int)<(n:Nat):=Om;have:i=n:=Om;subst this;simp only[go_sem,d];exact hK p w _ _ u
end Go.PM
