/-
  Texts of ours, joined. No condition.
-/
import Derived.Test.YtkknafmijabgaaaGreatDoorFG1
import Derived.Test.YtkknafmijabgaaaGreatDoorFG2
import Derived.Lib.ItoaNum
set_option linter.unusedSimpArgs false
set_option linter.unusedVariables false
open Nat renaming reduceEqDiff → γ, reduceAdd → δ, reduceSub → ε, reduceMul → ζ, reduceLT → η, reduceLeDiff → θ, reduceBEq → τ
open Int renaming reduceLT → ι, reduceLE → κ, reduceEq → μ, reduceToNat → ν, reduceAdd → ξ, reduceNeg → ο, reduceBEq → ρ, reduceBNe → σ
open List renaming reduceReplicate → υ
open List renaming length_map → aAA, range → aAB, replicate → aAC, length_append → aAE, getElem_mem → aAG, getElem?_eq_getElem → aAH, length_singleton → aAI, mem_cons → aAK, getD_eq_getElem?_getD → aAL, length_take → aAN, take_of_length_le → aAQ, getElem?_map → aAT, mem_range → aAU, mem_map → aAW, not_mem_nil → aAY, getElem?_eq_some_iff → aBD, append_assoc → aBE, map_cons → aBG, mem_append → aBH, all_eq_true → aBK, mem_singleton → aBL, drop_zero → aBM, getElem?_eq_none → aBN, map_append → aBO, take_length → aBT, append_nil → aBU, length_set → aBW, getElem_of_mem → aBZ, mem_of_getElem? → aCA, map_congr_left → aCC, Sublist → aCG, drop_eq_getElem_cons → aCK, length_nil → aCL, take_succ_eq_append_getElem → aCM, Perm → aCO, map_nil → aCP, range_succ → aCS, getElem?_range → aCV, getElem_map → aCW, nodup_append → aCZ, take_append_drop → aDA, map_map → aDE, map_set → aDL, mem_cons_of_mem → aDM, nil_append → aDN, set_append_right → aDQ, drop_of_length_le → aDW, set_cons_zero → aDX, sublist_append_left → aDY
open Nat renaming gcd → aAD, le_refl → aAF, zero_le → aAP, lt_or_ge → aAV, zero_add → aAX, add_zero → aBP, mod_eq_of_lt → aBQ, mod_lt → aBX, min_eq_left → aCF, eq_zero_or_pos → aCH, pos_of_ne_zero → aCT, le_trans → aCX
open Option renaming map_some → aBJ, some → aCI, getD_some → aCU
open Bool renaming and_eq_true → aAO, false_and → aAR, not_true → aAS, true_and → aBB, not_false → aBF, and_false → aBS, and_true → aCJ, false_eq_true → aDF
open Array renaming getElem?_eq_some_iff → aDZ
open Int renaming toNat_natCast → aDK
namespace Go.PM
open Go Go.Na
theorem aX {t:Nat} {b j:Bool} {F:PF} {H:PH} (h:F t=some (.bool b)) (e:b=j):aT [.tmp t] (cL (.bool j)) .ret F H:=by
 subst e;exact aV (.inr rfl) .nil (vs:=[.bool b]) (by rw[kP,nM,h,oS]) a_ ⟨.refl _,rfl⟩
theorem apI {C:Ctx} (n lo hi:Int):zE.wp C (aT gin.res (cL (.bool (within n lo hi)))) (PF.args [.int .i64 n,.int .i64 lo,.int .i64 hi]) .nil:=by
 by_cases a:lo≤n
 ·by_cases b:n≤hi
  ·simp only[go_sem,zE,ZO,ZP,gin,show n≥lo from a,b];exact aX Ev (by simp[within,a,b])
  ·simp only[go_sem,zE,ZO,ZP,gin,show n≥lo from a,b];exact aX Ev (by simp[within,a,b])
 ·have e:¬ n≥lo:=a;simp only[go_sem,zE,ZO,ZP,gin,e];exact aX Ev (by simp[within,a])
theorem Xp {C:Ctx} (L:sM C) (x:RF) (e:x.Ok):BK.wp C (aT yy.res (cL (.bool (bS x)))) (PF.args [.agg x.cells]) .nil:=by
 simp only[go_sem,BK,l8,l9,yy];refine aB (L.bits x.num e.1 e.2.2.1) Ev ?_;simp only[go_sem];refine aX Ev ?_;have:=@kD (val x.num);rw[bS,decide_eq_decide];omega
structure uc (C:Ctx):Prop extends EI C where
 frac:∀ n d:Int,dO n→dO d→aG C 115 [.int .i64 n,.int .i64 d] .nil (aM (ZZ n d))
 red:∀ x:RF,x.Ok→aG C 116 [.agg x.cells] .nil (aM (frV (uN x)))
 ord:∀ x y:RF,x.Ok→y.Ok→aG C 114 [.agg x.cells,.agg y.cells] .nil (aM (zZ x.neg (val x.num) (val x.den) y.neg (val y.num) (val y.den)))
 plus:∀ x y:RF,x.Ok→y.Ok→aG C 113 [.agg x.cells,.agg y.cells] .nil (aM (frV (kN x.v y.v)))
 tot:∀ l:List RF,oL l→aG C 117 [frs l] .nil (aM (frV (qM (l.map RF.v))))
theorem GM {neg:Bool} {a b:Nat} {e:Int} (h:kZ neg a b=.error e):e=2:=by
 unfold kZ at h;split at h
 ·injection h with h; exact h.symm
 ·cases h
theorem agC {x:RF} {e:Int} (h:uN x=.error e):e≠0:=by
 unfold uN at h;split at h
 ·rw[GM h]; decide
 ·injection h with h; subst h; decide
theorem anF {x:RF} {r:FV} (h:uN x=.ok r):r.rf.Ok:=by
 unfold uN at h;split at h
 ·exact (tC h).2
 ·cases h
theorem akR {C:Ctx} (L:uc C) (x:RF) (y:x.Ok):LN.wp C (aT acU.res (cL (.bool (fJ x)))) (PF.args [.agg x.cells]) .nil:=by
 simp only[go_sem,LN,M9,Nb,acU];refine aB (L.red x y) Ev ?_;unfold fJ;cases u:uN x with
 | error e =>have:=bC (agC u);simp only[go_sem,frV];refine aP fun o w=>?_;simp only[go_sem,PT,this];exact aX Ev rfl
 | ok r =>
  obtain⟨n,a,b⟩:=r;obtain⟨A,B,E,F⟩:=anF u;simp only[go_sem,frV];refine aP fun o w=>?_;cases n with
  | true =>simp only[go_sem,PT];exact aX Ev rfl
  | false =>
   simp only[go_sem,PT];refine aB (L.bits _ A E) Ev ?_;rw[show val (FV.rf (false,a,b)).num=a from aY a];by_cases l:cN a≤32
   ·have j:((cN a:Nat):Int)≤32:=Om;simp only[go_sem,j];refine aB (L.bits _ B F) Ev ?_;rw[show val (FV.rf (false,a,b)).den=b from aY b];simp only[go_sem];refine aX Ev ?_;rw[decide_eq_true l];simp;omega
   ·have j:¬ ((cN a:Nat):Int)≤32:=Om;simp only[go_sem,j];refine aX Ev ?_;rw[decide_eq_false l];rfl
theorem B9:kZ false 1 1=.ok (false,1,1):=by
 have:cN 1=1:=by rw[rA (by decide),lF]
 simp[kZ,this]
theorem Ce:ZZ 1 1=frV (.ok (false,1,1)):=by
 rw[ZZ,if_neg (by decide),i0];show frV (kZ false 1 1)=_;rw[B9]
theorem Ze:(FV.rf (false,1,1)).Ok:=(tC B9).2
theorem s8:dW 1 1=true:=by
 have:cN 1=1:=by rw[rA (by decide),lF]
 simp[dW,this]
theorem akV {C:Ctx} (L:uc C) (x:RF) (e:x.Ok):LP.wp C (aT gone.res (cL (.bool (WY x)))) (PF.args [.agg x.cells]) .nil:=by
 simp only[go_sem,LP,Ng,Nh,gone];refine aB (L.frac 1 1 (by decide) (by decide)) Ev ?_;rw[Ce];simp only[go_sem,frV];refine aP fun o j=>?_;simp only[go_sem,Ni];refine aB (L.ord x (FV.rf (false,1,1)) e Ze) Ev ?_;rw[show val (FV.rf (false,1,1)).num=1 from aY 1,show val (FV.rf (false,1,1)).den=1 from aY 1,show (FV.rf (false,1,1)).neg=false from rfl];unfold zZ WY;rw[s8,aCJ];cases l:dW (val x.num) (val x.den) with
 | false =>simp only[go_sem,ip];exact aX Ev rfl
 | true =>simp only[go_sem,ip];exact aX Ev rfl
theorem acM {C:Ctx} (p:RF→Bool) (fn:Nat) (l:List RF) (y:Fits l) (h:∀ x∈l,aG C fn [.agg x.cells] .nil (aM (.bool (p x)))) :
  FK.wp C (aT Tc.res (cL (.bool (l.all p)))) (PF.args [frs l,.fn fn []]) .nil:=by
 simp only[go_sem,FK,zf,zg,Tc];refine wp_loop (α:=Nat) (fun k=>((((PF.nil.set 1 (.fn fn [])).set 7 (frs l)).set 8 (.int .i64 (l.length:Nat))).set 9 (.int .i64 k))) (fun _=>.nil) (fun k=>k≤l.length∧(l.take k).all p=true) (fun k=>l.length-k) 0 ⟨aAP _,rfl⟩ ?_ a_ ?_
 ·(repeat' (first|exact c_|refine d_ ?_ ?_))<;>first|(simp only[go_sem,aAA]<;>rfl)|rfl
 rintro k ⟨A,j⟩;simp only[go_sem,ze,zh];by_cases hlt:k<l.length
 ·have e:(k:Int)<(l.length:Nat):=Om;have w:(l.map RF.cells)[k]?=some (l[k]).cells:=by simp[hlt]
  simp only[go_sem,e,zi,w];refine aP fun o B=>?_;simp only[go_sem,zj];refine aB (h _ (aAG hlt)) Ev ?_;cases u:p l[k] with
  | false =>simp only[go_sem,zk];exact aX (b:=false) Ev (EL (p:=p) hlt u).symm
  | true =>simp only[go_sem,zl,wZz k];refine aL (k+1) ⟨hlt,aBK.1 (EK hlt j u)⟩ Om ?_ a_;exact Lq
 ·have e:¬ (k:Int)<(l.length:Nat):=Om;simp only[go_sem,e,zm];have:k=l.length:=Om;subst this;rw[aAQ (aAF _)] at j;exact aX Ev j.symm
theorem acO {C:Ctx} (p:Int→Bool) (fn:Nat) (l:List Int) (y:Fits l) (h:∀ x∈l,aG C fn [.int .i64 x] .nil (aM (.bool (p x)))) :
  FL.wp C (aT Td.res (cL (.bool (l.all p)))) (PF.args [ints l,.fn fn []]) .nil:=by
 simp only[go_sem,FL,zo,zp,Td];refine wp_loop (α:=Nat) (fun k=>((((PF.nil.set 1 (.fn fn [])).set 7 (ints l)).set 8 (.int .i64 (l.length:Nat))).set 9 (.int .i64 k))) (fun _=>.nil) (fun k=>k≤l.length∧(l.take k).all p=true) (fun k=>l.length-k) 0 ⟨aAP _,rfl⟩ ?_ a_ ?_
 ·(repeat' (first|exact c_|refine d_ ?_ ?_))<;>first|(simp only[go_sem,aAA]<;>rfl)|rfl
 rintro k ⟨A,j⟩;simp only[go_sem,zn,zq];by_cases hlt:k<l.length
 ·have e:(k:Int)<(l.length:Nat):=Om;have w:(l.map fun n=>[PV.int .i64 n])[k]?=some [.int .i64 l[k]]:=by simp[hlt]
  simp only[go_sem,e,zr,w,zt];refine aB (h _ (aAG hlt)) Ev ?_;cases u:p l[k] with
  | false =>simp only[go_sem,zu];exact aX (b:=false) Ev (EL (p:=p) hlt u).symm
  | true =>simp only[go_sem,zw,wZz k];refine aL (k+1) ⟨hlt,aBK.1 (EK hlt j u)⟩ Om ?_ a_;exact Lq
 ·have e:¬ (k:Int)<(l.length:Nat):=Om;simp only[go_sem,e,zx];have:k=l.length:=Om;subst this;rw[aAQ (aAF _)] at j;exact aX Ev j.symm
abbrev kK (l:List Bool):PV:=.sl 1 (l.map fun b=>[PV.bool b])
theorem acK {C:Ctx} (p:Bool→Bool) (fn:Nat) (l:List Bool) (y:Fits l) (h:∀ x∈l,aG C fn [.bool x] .nil (aM (.bool (p x)))) :
  FJ.wp C (aT Tb.res (cL (.bool (l.all p)))) (PF.args [kK l,.fn fn []]) .nil:=by
 simp only[go_sem,FJ,y6,y7,Tb];refine wp_loop (α:=Nat) (fun k=>((((PF.nil.set 1 (.fn fn [])).set 7 (kK l)).set 8 (.int .i64 (l.length:Nat))).set 9 (.int .i64 k))) (fun _=>.nil) (fun k=>k≤l.length∧(l.take k).all p=true) (fun k=>l.length-k) 0 ⟨aAP _,rfl⟩ ?_ a_ ?_
 ·(repeat' (first|exact c_|refine d_ ?_ ?_))<;>first|(simp only[go_sem,aAA]<;>rfl)|rfl
 rintro k ⟨A,j⟩;simp only[go_sem,yz,y8];by_cases hlt:k<l.length
 ·have e:(k:Int)<(l.length:Nat):=Om;have w:(l.map fun b=>[PV.bool b])[k]?=some [.bool l[k]]:=by simp[hlt]
  simp only[go_sem,e,y9,w,za];refine aB (h _ (aAG hlt)) Ev ?_;cases u:p l[k] with
  | false =>simp only[go_sem,zb];exact aX (b:=false) Ev (EL (p:=p) hlt u).symm
  | true =>simp only[go_sem,zc,wZz k];refine aL (k+1) ⟨hlt,aBK.1 (EK hlt j u)⟩ Om ?_ a_;exact Lq
 ·have e:¬ (k:Int)<(l.length:Nat):=Om;simp only[go_sem,e,zd];have:k=l.length:=Om;subst this;rw[aAQ (aAF _)] at j;exact aX Ev j.symm
theorem Xr {C:Ctx} (b:Bool):BL.wp C (aT Aa.res (cL (.bool b))) (PF.args [.bool b]) .nil:=by
 simp only[go_sem,BL,ma,mb,Aa];exact aX Ev rfl
theorem acW {C:Ctx} (e:∀ n lo hi:Int,aG C 104 [.int .i64 n,.int .i64 lo,.int .i64 hi] .nil (aM (.bool (within n lo hi)))) (n:Int):FQ.wp C (aT Tj.res (cL (.bool (within n 0 8)))) (PF.args [.int .i64 n]) .nil:=by
 simp only[go_sem,FQ,Aj,Ak,Tj];refine aB (e n 0 8) Ev ?_;simp only[go_sem];exact aX Ev rfl
theorem Xu {C:Ctx} (j:∀ x:RF,x.Ok→aG C 105 [.agg x.cells] .nil (aM (.bool (fJ x)))) (l:∀ x:RF,x.Ok→aG C 97 [.agg x.cells] .nil (aM (.bool (bS x)))) (x:RF) (e:x.Ok) :
  BM.wp C (aT Ao.res (cL (.bool (fJ x&&bS x)))) (PF.args [.agg x.cells]) .nil:=by
 simp only[go_sem,BM,mi,mj,Ao];refine aB (j x e) Ev ?_;cases u:fJ x with
 | false =>simp only[go_sem];exact aX Ev rfl
 | true =>simp only[go_sem];refine aB (l x e) Ev ?_;simp only[go_sem];exact aX Ev rfl
structure sI (C:Ctx):Prop extends uc C where
 inn:∀ n lo hi:Int,aG C 104 [.int .i64 n,.int .i64 lo,.int .i64 hi] .nil (aM (.bool (within n lo hi)))
 uX:∀ x:RF,x.Ok→aG C 97 [.agg x.cells] .nil (aM (.bool (bS x)))
 lim:∀ x:RF,x.Ok→aG C 105 [.agg x.cells] .nil (aM (.bool (fJ x)))
 one:∀ x:RF,x.Ok→aG C 101 [.agg x.cells] .nil (aM (.bool (WY x)))
 allf:∀ (p:RF→Bool) (fn:Nat) (l:List RF),Fits l→(∀ x∈l,aG C fn [.agg x.cells] .nil (aM (.bool (p x))))→aG C 99 [frs l,.fn fn []] .nil (aM (.bool (l.all p)))
 alli:∀ (p:Int→Bool) (fn:Nat) (l:List Int),Fits l→(∀ x∈l,aG C fn [.int .i64 x] .nil (aM (.bool (p x))))→aG C 100 [ints l,.fn fn []] .nil (aM (.bool (l.all p)))
 allb:∀ (p:Bool→Bool) (fn:Nat) (l:List Bool),Fits l→(∀ x∈l,aG C fn [.bool x] .nil (aM (.bool (p x))))→aG C 98 [kK l,.fn fn []] .nil (aM (.bool (l.all p)))
 ends1:∀ b:Bool,aG C 103 [.bool b] .nil (aM (.bool b))
 num1:∀ n:Int,aG C 107 [.int .i64 n] .nil (aM (.bool (within n 0 8)))
 rate1:∀ x:RF,x.Ok→aG C 109 [.agg x.cells] .nil (aM (.bool (fJ x&&bS x)))
 name:∀ s:List UInt8,aG C 123 [.str s] .nil (aM (.bool (isName s)))
theorem sI.adQ {C:Ctx} (L:sI C) (l:List RF) (h:oL l):aG C 99 [frs l,.fn 105 []] .nil (aM (.bool (l.all fJ))) :=
 L.allf fJ 105 l h.fits fun x e=>L.lim x (h.all x e)
theorem within_iff {n lo hi:Int}:within n lo hi=true↔lo≤n∧n≤hi:=by simp[within]
theorem akT {C:Ctx} (L:sI C) (p:cC) (F:p.Ok) :
  LO.wp C (aT acV.res (cL (.bool (NH p)))) (PF.args [.int .i64 p.k,.int .i64 p.m,.int .i64 p.azL,.agg [.int .i64 p.s0,.int .i64 p.s1,.int .i64 p.s2,.int .i64 p.s3,.int .i64 p.s4]]) .nil:=by
 simp only[go_sem,LO,Nc,Nd,acV];refine aB (L.inn p.k 1 6) rfl ?_;unfold NH;cases y:within p.k 1 6 with
 | false =>simp only[go_sem,aBF,yN];exact aX rfl (by simp only[aAR])
 | true =>
  obtain⟨k1,k2⟩:=within_iff.1 y;simp only[go_sem,aAS];refine aB (L.inn p.m 0 4) rfl ?_;cases A:within p.m 0 4 with
  | false =>simp only[go_sem,aBF,yN];exact aX rfl (by simp only[aAR,aBS])
  | true =>
   obtain⟨I,J⟩:=within_iff.1 A;have w:IntKind.i64.wrap (p.k+p.m)=p.k+p.m:=wrap_i64 Om Om;by_cases u:p.k+p.m≤8
   ·have e:¬ p.k+p.m>8:=Om;simp only[go_sem,aAS,w,e];refine aB (L.inn p.azL p.k (p.k+p.m)) rfl ?_;cases E:within p.azL p.k (p.k+p.m) with
    | false =>simp only[go_sem,aBF,yN];exact aX rfl (by simp only[aAR,aBS])
    | true =>
     have j:(0:Int)<((5:Nat):Int):=by decide
     by_cases h5:p.s0=0
     ·have l:chunks 1 5 [PV.int .i64 p.s0,.int .i64 p.s1,.int .i64 p.s2,.int .i64 p.s3,.int .i64 p.s4]=([p.s0,p.s1,p.s2,p.s3,p.s4].map fun n=>[PV.int .i64 n]):=rfl;have B:5≤maxLen:=by decide
      simp only[go_sem,aAS,j,cM h5,Nf,l,B];refine aB (L.alli (fun n=>within n 0 8) 107 [p.s0,p.s1,p.s2,p.s3,p.s4] (show 5≤9223372036854775807 by decide) fun x _=>L.num1 x) rfl ?_;simp only[go_sem];exact aX rfl (by rw[decide_eq_true u,decide_eq_true h5]; simp only[aBB])
     ·simp only[go_sem,aAS,j,dP h5,yN];exact aX rfl (by rw[decide_eq_false h5]; simp only[aAR,aBS])
   ·have e:p.k+p.m>8:=Om;simp only[go_sem,aAS,w,e,yN];exact aX rfl (by rw[decide_eq_false u]; simp only[aAR,aBS])
theorem max_eq (a b:Int):(if a<b then b else a)=max a b:=by
 rw[Int.max_def];by_cases h:a<b
 ·rw[if_pos h,if_pos Om]
 ·by_cases e:a≤b
  ·rw[if_neg h,if_pos e]; omega
  ·rw[if_neg h,if_neg e]
theorem acZ {C:Ctx} (L:sI C) (p:cC) (e:p.Ok) :
  FS.wp C (aT Tk.res (cL (.bool (QL p)))) (PF.args [.int .i64 p.m,frs p.repair,.agg p.target.cells,.agg p.ayX.cells]) .nil:=by
 simp only[go_sem,FS,Ap,Aq,Tk,max_eq,aAA];unfold QL;by_cases j:(p.repair.length:Int)=max p.m 1
 ·simp only[go_sem,bO j];refine aB (L.allf (fun x=>fJ x&&bS x) 109 p.repair e.repair.fits fun x l=>L.rate1 x (e.repair.all x l)) rfl ?_;rw[decide_eq_true j,aBB];cases u:p.repair.all fun x=>fJ x&&bS x with
  | false =>simp only[go_sem];exact aX rfl rfl
  | true =>
   simp only[go_sem];refine aB (L.lim _ e.target) rfl ?_;cases w:fJ p.target with
   | false =>simp only[go_sem];exact aX rfl rfl
   | true =>
    simp only[go_sem];refine aB (L.one _ e.target) rfl ?_;cases y:WY p.target with
    | false =>simp only[go_sem];exact aX rfl rfl
    | true =>simp only[go_sem];refine aB (L.lim _ e.ayX) rfl ?_;simp only[go_sem];exact aX rfl rfl
 ·simp only[go_sem,bC j];exact aX rfl (by rw[decide_eq_false j]; rfl)
def qF (l:List (List UInt8)) (k:List KS):Option PV:=match k with
 | [.str s]=>if l.contains s then some (.bool true) else none
 | _=>none
theorem Zq (l:List (List UInt8)) (s:List UInt8):(fun k=>if k=[KS.str s] then some (PV.bool true) else qF l k)=qF (l++[s]):=by
 funext k
 match k with
 | []=>rfl
 | [.int a b]=>simp[qF]
 | [.bool a]=>simp[qF]
 | [.str t] =>
  by_cases h:t=s
  ·subst h; simp[qF]
  ·simp[qF,h]
 | a::b::c=>simp[qF]
abbrev texts (l:List (List UInt8)):PV:=.sl 1 (l.map fun s=>[PV.str s])
theorem Zp:qF []=(fun _=>none:jR):=by
 funext k
 match k with
 | []=>rfl
 | [.int a b]=>rfl
 | [.bool a]=>rfl
 | [.str t]=>rfl
 | a::b::c=>cases a<;>rfl
theorem Zr (l:List (List UInt8)) (s:List UInt8):jR.upd (qF l) [KS.str s] (.bool true)=qF (l++[s]):=Zq l s
theorem Gq (l:List (List UInt8)) (s:List UInt8):(qF l [KS.str s]).getD (.bool false)=.bool (l.contains s):=by
 show (if l.contains s then some (PV.bool true) else none).getD (.bool false)=_;cases l.contains s<;>rfl
theorem j6 {p:Nat→Bool} {k:Nat} (h:(aAB k).all p=true) (e:p k=true):(aAB (k+1)).all p=true:=by
 rw[aCS,List.all_append,h]; simp[e]
theorem fB {p:Nat→Bool} {n k:Nat} (e:k<n) (j:p k=false):(aAB n).all p=false:=by
 rw[List.all_eq_false];exact⟨k,aAU.2 e,by simp[j]⟩
def qS (p:Nat→Bool) (k:Nat):Prop:=(aAB k).all p=true
theorem qS.zero {p:Nat→Bool}:qS p 0:=rfl
theorem qS.step {p:Nat→Bool} {k:Nat} (h:qS p k) (e:p k=true):qS p (k+1):=j6 h e
def Vw (l:List (List UInt8)) (o k:Nat):PF:=((((PF.nil.set 3 (.map o)).set 7 (texts l)).set 8 (.int .i64 (l.length:Nat))).set 9 (.int .i64 k))
theorem adC {C:Ctx} (L:sI C) (l:List (List UInt8)) (F:Fits l):FU.wp C (aT To.res (cL (.bool (distinct l)))) (PF.args [texts l]) .nil:=by
 simp only[go_sem,FU,Ax,Ay,To];refine aP fun o J=>?_;simp only[go_sem,Az];have A:(PH.nil.set o (.map (false,[.str]) (fun _=>none)))=PH.nil.set o (.map (false,[.str]) (qF (l.take 0))):=by rw[List.take_zero,Zp]
 unfold distinct;generalize B:(fun i=>isName (l.getD i [])&&!(l.take i).contains (l.getD i []))=p;have w:∀ k (h:k<l.length),p k=(isName l[k]&&!(l.take k).contains l[k]):=by intro k h;rw[← B];simp only[aAL,aAH h,aCU]
 refine wp_loop (α:=Nat) (fun k=>Vw l o k) (fun k=>PH.nil.set o (.map (false,[.str]) (qF (l.take k)))) (fun k=>k≤l.length∧qS p k) (fun k=>l.length-k) 0 ⟨aAP _,.zero⟩ ?_ ?_ ?_
 ·unfold Vw
  (repeat' (first|exact c_|refine d_ ?_ ?_))<;>first|(simp only[go_sem,aAA]<;>rfl)|rfl
 ·rw[A]; exact b_
 rintro k ⟨I,y⟩;simp only[go_sem,Aw,A0,Vw];by_cases hlt:k<l.length
 ·have j:(k:Int)<(l.length:Nat):=Om;have E:(l.map fun s=>[PV.str s])[k]?=some [.str l[k]]:=by simp[hlt]
  simp only[go_sem,j,A1,E,A2];refine aB (L.name l[k]) rfl ?_;have e:=w k hlt;cases x:isName l[k] with
  | false =>rw[x,aAR] at e;simp only[go_sem,aBF,UK];exact aX (b:=false) rfl (fB hlt e).symm
  | true =>
   rw[x,aBB] at e;cases u:(l.take k).contains l[k] with
   | true =>rw[u] at e;simp only[go_sem,aAS,Gq,u,UK];exact aX (b:=false) rfl (fB hlt e).symm
   | false =>
    rw[u] at e;simp only[go_sem,aAS,Gq,u,A3,Zr,A4,wZz k];refine aL (k+1) ⟨hlt,y.step e⟩ Om ?_ ?_
    ·exact Lq
    ·rw[aCM hlt];exact e_ a_ Sq
 ·have j:¬ (k:Int)<(l.length:Nat):=Om;simp only[go_sem,j,ml];have:k=l.length:=Om;subst this;exact aX (b:=true) rfl (show qS p l.length from y).symm
def marks (n:Nat) (l:List Int):List Bool:=(aAB n).map fun (i:Nat)=>l.contains (i:Int)
theorem Ya (n:Nat) (l:List Int):(marks n l).length=n:=by simp[marks]
theorem na (n:Nat):marks n []=aAC n false:=by
 refine List.ext_getElem (by simp[marks]) fun i e j=>by simp[marks]
theorem VB {n:Nat} {l:List Int} {m:Int} (e:0≤m) (j:m<n):(marks n l)[m.toNat]?=some (l.contains m):=by
 have:m.toNat<n:=Om;simp only[marks,aAT,aCV this,aBJ];rw[Int.toNat_of_nonneg e]
theorem nb {n:Nat} {l:List Int} {m:Int} (j:0≤m) (u:m<n):(marks n l).set m.toNat true=marks n (l++[m]):=by
 refine List.ext_getElem (by simp[marks]) fun i w x=>?_;simp only[marks,aCW,List.getElem_range,List.getElem_set,List.contains_append];by_cases h:m.toNat=i
 ·subst h;rw[if_pos rfl,Int.toNat_of_nonneg j]; simp
 ·have e:((i:Nat):Int)≠m:=Om;rw[if_neg h]; simp[e]
abbrev bD (l:List Bool):List (List PV):=l.map fun b=>[PV.bool b]
theorem rQ (l:List Bool) (i:Nat) (b:Bool):(bD l).set i [.bool b]=bD (l.set i b):=by unfold bD; rw[aDL]
structure u5 (C:Ctx):Prop extends sI C where
 num:∀ p:cC,p.Ok→aG C 106 [.int .i64 p.k,.int .i64 p.m,.int .i64 p.azL,.agg [.int .i64 p.s0,.int .i64 p.s1,.int .i64 p.s2,.int .i64 p.s3,.int .i64 p.s4]] .nil (aM (.bool (NH p)))
 rate:∀ p:cC,p.Ok→aG C 108 [.int .i64 p.m,frs p.repair,.agg p.target.cells,.agg p.ayX.cells] .nil (aM (.bool (QL p)))
 uniq:∀ l:List (List UInt8),Fits l→aG C 110 [texts l] .nil (aM (.bool (distinct l)))
def afV (p:cC) (ayN:Nat) (o k:Nat):PF:=(((((PF.nil.set 1 (.int .i64 ayN)).set 5 (.osl o 1 0 ayN)).set 39 (ints p.ayN)).set 40 (.int .i64 (p.ayN.length:Nat))).set 41 (.int .i64 k))
theorem akX {C:Ctx} (L:u5 C) (p:cC) (I:p.Ok) (ayN:Nat) (V:ayN≤4):LQ.wp C (aT acY.res (cL (.bool (jL ayN p)))) (PF.args [.agg p.cells,.int .i64 ayN]) .nil:=by
 simp only[go_sem,LQ,Nj,Nk,acY];refine aB (L.num p I) rfl ?_;unfold jL;cases x:NH p with
 | false =>simp only[go_sem,aBF,PU];exact aX rfl (by simp only[aAR])
 | true =>
  by_cases w:p.ayN.length=0
  ·simp only[go_sem,aAS,aAA,bO (Om:(p.ayN.length:Int)=0),PU];refine aX rfl ?_;have:decide (p.ayN.length≠0)=false:=by simp[w]
   rw[this]; simp only[aAR,aBS]
  ·have B:decide (p.ayN.length≠0)=true:=by simp[w]
   simp only[go_sem,aAS,aAA,bC (Om:(p.ayN.length:Int)≠0)];refine aB (L.rate p I) rfl ?_;rw[B];cases S:QL p with
   | false =>simp only[go_sem,aBF,PU];exact aX rfl (by simp only[aAR,aBS])
   | true =>
    have E:((ayN:Nat):Int)*((1:Nat):Int)≤140737488355328:=Om;have F:((ayN:Nat):Int)≤9223372036854775807:=Om;simp only[aBB];simp only[go_sem,aAS,Nl,E,F];refine aP fun o W=>?_;simp only[go_sem,Nm];have N:aAC ayN [PV.bool false]=bD (marks ayN (p.ayN.take 0)):=by rw[List.take_zero,na]; simp[bD]
    rw[N];generalize hq:(fun j=>within (p.ayN.getD j 0) 0 ((ayN:Int)-1)&&!(p.ayN.take j).contains (p.ayN.getD j 0))=q;have J:∀ k (h:k<p.ayN.length),q k=(within p.ayN[k] 0 ((ayN:Int)-1)&&!(p.ayN.take k).contains p.ayN[k]):=by intro k h;rw[← hq];simp only[aAL,aAH h,aCU]
    refine wp_loop (α:=Nat) (fun k=>afV p ayN o k) (fun k=>PH.nil.set o (.rows 1 (bD (marks ayN (p.ayN.take k))))) (fun k=>k≤p.ayN.length∧qS q k) (fun k=>p.ayN.length-k) 0 ⟨aAP _,.zero⟩ ?_ (b_) ?_
    ·unfold afV
     (repeat' (first|exact c_|refine d_ ?_ ?_))<;>first|(simp only[go_sem,aAA]<;>rfl)|rfl
    rintro k ⟨U,K⟩;simp only[go_sem,Al,Nn,afV];have M:=I.ayN;by_cases hlt:k<p.ayN.length
    ·have l:(k:Int)<(p.ayN.length:Nat):=Om;have O:(p.ayN.map fun n=>[PV.int .i64 n])[k]?=some [.int .i64 p.ayN[k]]:=by simp[hlt]
     have R:IntKind.i64.wrap ((ayN:Int)-1)=(ayN:Int)-1:=wrap_i64 Om Om;simp only[go_sem,l,No,O,Np,R];refine aB (L.inn p.ayN[k] 0 ((ayN:Int)-1)) rfl ?_;have e:=J k hlt;cases x:within p.ayN[k] 0 ((ayN:Int)-1) with
     | false =>rw[x,aAR] at e;simp only[go_sem,aBF,iq];exact aX (b:=false) rfl (fB hlt e).symm
     | true =>
      rw[x,aBB] at e;obtain⟨y,X⟩:=within_iff.1 x;have A:p.ayN[k]<(ayN:Nat):=Om;have u:(bD (marks ayN (p.ayN.take k)))[p.ayN[k].toNat]?=some [.bool ((p.ayN.take k).contains p.ayN[k])]:=by unfold bD;rw[aAT,VB y A]; rfl
      cases w:(p.ayN.take k).contains p.ayN[k] with
      | true =>rw[w] at e u;simp only[go_sem,aAS,y,A,aAX,u,iq];exact aX (b:=false) rfl (fB hlt e).symm
      | false =>
       rw[w] at e u;simp only[go_sem,aAS,y,A,aAX,u,Nq,rQ,nb y A,Am,wZz k];refine aL (k+1) ⟨hlt,K.step e⟩ Om ?_ ?_
       ·exact Lq
       ·rw[aCM hlt];exact e_ a_ Sq
    ·have l:¬ (k:Int)<(p.ayN.length:Nat):=Om;simp only[go_sem,l,An];have:k=p.ayN.length:=Om;subst this;exact aX (b:=true) rfl (show qS q p.ayN.length from K).symm
def abM:PV→RF
 | .agg [.bool n,a,b]=>⟨n,lS a,lS b⟩
 | _=>⟨false,[],[]⟩
theorem Sm (x:RF):abM (.agg x.cells)=x:=by
 show (⟨x.neg,lS (aI x.num),lS (aI x.den)⟩:RF)=x;rw[fM,fM]
def flS:Spec:=fun name vs=>match name,vs with
 | 104,[.int _ n,.int _ lo,.int _ hi]=>some ([],fun _=>aM (.bool (within n lo hi)))
 | 105,[x]=>some ([],fun _=>aM (.bool (fJ (abM x))))
 | 97,[x]=>some ([],fun _=>aM (.bool (bS (abM x))))
 | _,_=>none
theorem wx (n lo hi:Int):flS 104 [.int .i64 n,.int .i64 lo,.int .i64 hi]=some ([],fun _=>aM (.bool (within n lo hi))):=rfl
theorem akC (x:RF):flS 105 [.agg x.cells]=some ([],fun _=>aM (.bool (fJ x))):=by
 show some _=_; rw[Sm]
def Tg (f:aC) (t:List cP) (k:Nat):PF:=((((PF.nil.set 1 (.dH f.cells)).set 45 (.sl 7 (t.map cP.cells))).set 46 (.int .i64 (t.length:Nat))).set 47 (.int .i64 k))
theorem akN {C:Ctx} (L:sI C) (f:aC) (hf:f.Ok):AC.wp C (aT Tf.res (cL (.bool (oX f)))) (PF.args [.agg f.cells]) .nil:=by
 obtain⟨azS,ayU,ayN,ayP,ayM,ayQ,ayO⟩:=f;cases ayP with
 | nil =>rw[show oX ⟨azS,ayU,ayN,[],ayM,ayQ,ayO⟩=false from rfl];simp only[go_sem,AC,im,io,Tf,aCP,aCL];have:(((0:Nat):Int)==0)=true:=rfl;simp only[go_sem,this,Mv];exact aX rfl rfl
 | cons r t =>
  generalize hF:(⟨azS,ayU,ayN,r::t,ayM,ayQ,ayO⟩:aC)=f at *
  have B:f.ayP=r::t:=by rw[← hF]
  have hP:oX f=PN f r t:=by unfold oX; rw[B]
  rw[hP];unfold PN;have j:f.ayP.length=t.length+1:=by rw[B]; rfl
  have β:=hf.ayP;have J:(f.ayP.map cP.cells)[0]?=some r.cells:=by rw[B]; rfl
  have γ:(f.ayP.map cP.cells)[Int.toNat 0]?=some r.cells:=J;have F:=hf.dom;have w:=F r (by rw[B]; exact List.mem_cons_self ..);simp only[go_sem,AC,im,io,Tf,aAA,j,bC (Om:((t.length+1:Nat):Int)≠0),Mw,J];refine aP fun o ho=>?_;by_cases x:r.name=[]
  ·rw[decide_eq_true x];by_cases A:r.level=0
   ·rw[decide_eq_true A];by_cases E:r.parent=-1
    ·rw[decide_eq_true E];by_cases K:r.azH=0
     ·rw[decide_eq_true K];simp only[go_sem,yL,pS x,aAS,cM A,cM E,cM K];refine aB (L.lim r.azC w.1) rfl ?_;cases c5:fJ r.azC with
      | false =>simp only[go_sem,aBF,uD];exact aX rfl (by simp only[aBS,aAR])
      | true =>
       simp only[go_sem,aAS];refine aB (L.uX r.azC w.1) rfl ?_;cases c6:bS r.azC with
       | true =>simp only[go_sem,uD];exact aX rfl (by simp only[aAS,aBS,aAR])
       | false =>
        have V:(0:Int)≤1∧(1:Int)≤((t.length+1:Nat):Int):=Om;have y:((f.ayP.map cP.cells).take (t.length+1)).drop (Int.toNat 1)=t.map cP.cells:=by rw[aAQ (by simp[j]),B]; rfl
        have u:((f.ayP.map cP.cells).take (t.length+1)).drop 1=t.map cP.cells:=y;simp only[go_sem,Mx,aAA,j,V,u,aDK];generalize hq:(fun i=>match t[i]? with | some d=>TL f i d | none=>false)=q;have S:∀ k (h:k<t.length),q k=TL f k t[k]:=by intro k h;rw[← hq];simp only[aAH h]
        refine wp_loop (α:=Nat) (fun k=>Tg f t k) (fun k=>.nil) (fun k=>k≤t.length∧qS q k) (fun k=>t.length-k) 0 ⟨aAP _,.zero⟩ ?_ a_ ?_
        ·unfold Tg
         (repeat' (first|exact c_|refine d_ ?_ ?_))<;>first|(simp only[go_sem,aAA]<;>rfl)|rfl
        rintro k ⟨hk,Z⟩;simp only[go_sem,zy,My,Tg];by_cases hlt:k<t.length
        ·have l:(k:Int)<(t.length:Nat):=Om;have U:(t.map cP.cells)[k]?=some (t[k]).cells:=by simp[hlt]
         have O:=F t[k] (by rw[B]; exact aDM _ (aAG hlt));have e:=S k hlt;unfold TL at e;simp only[go_sem,l,Mz,U];refine aP fun o2 δ=>?_;simp only[go_sem];refine bN .nil flS a_ ?_;simp only[go_sem,M0];refine dL (wx _ 0 k) (L.inn (t[k]).parent 0 k) rfl a_ ?_;cases N:within (t[k]).parent 0 k with
         | false =>simp only[N,aAR] at e;simp only[go_sem,aBF,uC];exact aX (b:=false) rfl (fB hlt e).symm
         | true =>
          obtain⟨i1,i2⟩:=within_iff.1 N;have i3:(t[k]).parent.toNat<f.ayP.length:=Om;have I:(f.ayP.map cP.cells)[(t[k]).parent.toNat]?=some (f.ayP[(t[k]).parent.toNat]).cells:=by simp[i3]
          have R:(f.ayP.map cP.level).getD (t[k]).parent.toNat 0=(f.ayP[(t[k]).parent.toNat]).level:=by simp[i3]
          rw[R,N,aBB] at e;by_cases M:(f.ayP[(t[k]).parent.toNat]).level=IntKind.i64.wrap ((t[k]).level-1)
          ·rw[decide_eq_true M,aBB] at e;simp only[go_sem,aAS,i1,I,cM M];refine dL (wx _ 1 4) (L.inn (t[k]).level 1 4) rfl a_ ?_;cases W:within (t[k]).level 1 4 with
           | false =>simp only[W,aAR] at e;simp only[go_sem,aBF,uC];exact aX (b:=false) rfl (fB hlt e).symm
           | true =>
            rw[W,aBB] at e;simp only[go_sem,aAS];refine dL (wx _ 1 64) (L.inn (t[k]).azH 1 64) rfl a_ ?_;cases X:within (t[k]).azH 1 64 with
            | false =>simp only[X,aAR] at e;simp only[go_sem,aBF,uC];exact aX (b:=false) rfl (fB hlt e).symm
            | true =>
             rw[X,aBB] at e;simp only[go_sem,aAS];refine dL (akC (t[k]).azC) (L.lim _ O.1) rfl a_ ?_;cases Y:fJ (t[k]).azC with
             | false =>rw[Y] at e;simp only[go_sem,aBF,uC];exact aX (b:=false) rfl (fB hlt e).symm
             | true =>rw[Y] at e;simp only[go_sem,aAS,zz,wZz k];refine aL (k+1) ⟨hlt,Z.step e⟩ Om ?_ a_;exact Lq
          ·simp only[decide_eq_false M,aAR] at e;simp only[go_sem,aAS,i1,I,dP M,uC];exact aX (b:=false) rfl (fB hlt e).symm
        ·have l:¬ (k:Int)<(t.length:Nat):=Om;simp only[go_sem,l,z8];have:k=t.length:=Om;subst this;exact aX (b:=true) rfl (show qS q t.length from Z).symm
     ·simp only[go_sem,yL,pS x,aAS,cM A,cM E,dP K,uD];exact aX rfl (by rw[decide_eq_false K]; simp only[aBS,aAR])
    ·simp only[go_sem,yL,pS x,aAS,cM A,dP E,uD];exact aX rfl (by rw[decide_eq_false E]; simp only[aBS,aAR])
   ·simp only[go_sem,yL,pS x,aAS,dP A,uD];exact aX rfl (by rw[decide_eq_false A]; simp only[aBS,aAR])
  ·simp only[go_sem,yL,YM x,aBF,uD];exact aX rfl (by rw[decide_eq_false x]; simp only[aBS,aAR])
theorem zN (R:List Bool) (i:Nat) (row:List RF):∀ k,(eE R i row k).length=R.length
 | 0=>rfl
 | k+1=>by simp only[eE,aBW,zN R i row k]
theorem Gf (l:cT) (R:List Bool) (i:Nat):(mC l R i).length=R.length:=by
 unfold mC; rw[zN,aBW]
theorem uM (l:cT) (R:List Bool):∀ i,(fE l R i).length=R.length
 | 0=>rfl
 | i+1=>by simp only[fE,Gf,uM l R i]
theorem df (l:cT):∀ r,(hZ l r).length=l.exit.length
 | 0=>by simp[hZ]
 | r+1=>by simp only[hZ,uM,df l r]
theorem lO {R:List Bool} {i:Nat} (h:i<R.length):(bD R)[i]?=some [.bool (R.getD i false)]:=by
 unfold bD;rw[aAT,aAH h,aAL,aAH h]; rfl
theorem iW (R:List Bool):(bD R).length=R.length:=by simp[bD]
def PO (l:cT) (o r:Nat):PF:=(((PF.nil.set 1 (.dH l.cells)).set 3 (.osl o 1 0 l.exit.length)).set 4 (.int .i64 r))
def EU (l:cT) (o r i:Nat):PF:=(((((PF.nil.set 1 (.dH l.cells)).set 3 (.osl o 1 0 l.exit.length)).set 4 (.int .i64 r)).set 19 (.int .i64 (l.exit.length:Nat))).set 20 (.int .i64 i))
def sV (l:cT) (o r i:Nat) (row:List RF) (k:Nat):PF:=(((((((((PF.nil.set 1 (.dH l.cells)).set 3 (.osl o 1 0 l.exit.length)).set 4 (.int .i64 r)).set 19 (.int .i64 (l.exit.length:Nat))).set 20 (.int .i64 i)).set 5 (.int .i64 i)).set 42 (frs row)).set 43 (.int .i64 (row.length:Nat))).set 44 (.int .i64 k))
def sW (o:Nat) (R:List Bool):PH:=PH.nil.set o (.rows 1 (bD R))
theorem Js {C:Ctx} (L:sI C) (l:cT) (o r i:Nat) (row:List RF) (I:oL row) (W:row.length=l.exit.length) (hi:i<l.exit.length) (hn:l.exit.length≤4) (e:List Bool) (X:e.length=l.exit.length) (K:cK) (F:PF) (H:PH)
  (N:(sV l o r i row 0).le F) (J:(sW o e).le H)
  (U:∀ F H,(sV l o r i row row.length).le F→(sW o (eE e i row row.length)).le H→K .normal F H) :
  aE.wp C (.block 4 (.loop AD)) K F H:=by
 simp only[go_sem];refine wp_loop (α:=Nat) (fun k=>sV l o r i row k) (fun k=>sW o (eE e i row k)) (fun k=>k≤row.length) (fun k=>row.length-k) 0 (aAP _) N J ?_;intro k Z;simp only[go_sem,AD,Ah,sV,sW];have O:=zN e i row k;by_cases hlt:k<row.length
 ·have j:(k:Int)<(row.length:Nat):=Om;have V:(row.map RF.cells)[k]?=some (row[k]).cells:=by simp[hlt]
  simp only[go_sem,j,mf,V];refine aP fun o7 E=>?_;have M:o≠o7:=by rintro rfl; simp only[aQ,if_true] at E; cases E
  have w:(i:Int)<(l.exit.length:Nat):=Om;have B:(k:Int)<(l.exit.length:Nat):=Om;have u:=lO (R:=eE e i row k) (i:=i) Om;have x:=lO (R:=eE e i row k) (i:=k) Om;have y:eE e i row (k+1)=(eE e i row k).set i ((eE e i row k).getD i false||bS row[k]&&(eE e i row k).getD k false):=by simp only[eE,aAL,aAT,aAH hlt,aBJ,aCU]
  have fin:∀ (b:Bool) (F:PF) (H:PH),b=((eE e i row k).getD i false||bS row[k]&&(eE e i row k).getD k false)→(sV l o r i row (k+1)).le F→H o=some (.rows 1 ((bD (eE e i row k)).set i [.bool b])) →
    jU (fun k=>sV l o r i row k) (fun k=>sW o (eE e i row k)) (fun k=>k≤row.length) (fun k=>row.length-k) (row.length-k) (fZ 4 K) .normal F H:=by
   intro b F H hb N J;refine aL (k+1) hlt Om N ?_;rw[rQ,hb,← y] at J;exact e_ a_ J
  unfold sV sW at fin;generalize hb:(eE e i row k).getD i false=b at *
  generalize Y:(eE e i row k).getD k false=c at *
  generalize S:bS row[k]=A at *
  cases b with
  | true =>simp only[go_sem,LK,M,w,aAX,u,AF,wZz k];exact fin true _ _ (by simp) Lq Sq
  | false =>
   simp only[go_sem,LK,M,w,aAX,u];refine aB (L.uX _ (I.all _ (aAG hlt))) rfl ?_;rw[S];cases A with
   | false =>simp only[go_sem,w,B,M,aAX,u,x,AF,wZz k];exact fin false _ _ (by simp) Lq Sq
   | true =>simp only[go_sem,w,B,M,aAX,u,x,AF,wZz k];exact fin c _ _ (by simp) Lq Sq
 ·have j:¬ (k:Int)<(row.length:Nat):=Om;simp only[go_sem,j];have:k=row.length:=Om;subst this;exact U _ _ (by unfold sV; exact Lq) (b_)
structure YA (l:cT):Prop where
 n:l.exit.length≤4
 ayR:l.ayR.length=l.exit.length
 row:∀ r∈l.ayR,r.length=l.exit.length
theorem Jt {C:Ctx} (L:sI C) (l:cT) (U:l.Ok) (he:YA l) (o r:Nat) (R:List Bool) (hR:R.length=l.exit.length) (K:cK) (F:PF) (H:PH)
  (x:(EU l o r 0).le F) (N:(sW o R).le H)
  (hK:∀ F H,(PO l o r).le F→(sW o (fE l R l.exit.length)).le H→K .normal F H) :
  aE.wp C (.block 2 (.loop AE)) K F H:=by
 simp only[go_sem];refine wp_loop (α:=Nat) (fun i=>EU l o r i) (fun i=>sW o (fE l R i)) (fun i=>i≤l.exit.length) (fun i=>l.exit.length-i) 0 (aAP _) x N ?_;intro i hi;have V:=uM l R i;have hn:=he.n;by_cases hlt:i<l.exit.length
 ·have e:(i:Int)<(l.exit.length:Nat):=Om;have w:i<l.ayR.length:=by rw[he.ayR]; exact hlt
  have y:=lO (R:=fE l R i) (i:=i) Om;have hx:(l.exit.map RF.cells)[i]?=some (l.exit[i]).cells:=by simp[hlt]
  have I:(l.ayR.map fun r=>[frs r])[i]?=some [frs l.ayR[i]]:=by simp[w]
  have S:(l.ayR[i]).length=l.exit.length:=he.row _ (aAG w);generalize u:(fE l R i).set i ((fE l R i).getD i false||bS l.exit[i])=J;have E:J.length=l.exit.length:=by rw[← u,aBW]; omega
  have A:fE l R (i+1)=eE J i l.ayR[i] (l.ayR[i]).length:=by
   simp only[fE,mC];have X:(l.exit.map bS).getD i false=bS l.exit[i]:=by simp[aAL,hlt]
   have Y:l.ayR.getD i []=l.ayR[i]:=by simp[aAL,w]
   rw[X,Y,u]
  have j:∀ (F:PF) (H:PH),(((((((PF.nil.set 1 (.dH l.cells)).set 3 (.osl o 1 0 l.exit.length)).set 4 (.int .i64 r)).set 19 (.int .i64 (l.exit.length:Nat))).set 20 (.int .i64 i)).set 5 (.int .i64 i)):PF).le F→H o=some (.rows 1 (bD J)) →
    aE.wp C (.seq (.region UG) (.block 4 (.loop AD))) (fZ 3 (mE C (aE.wp C (.region LL)) (jU (fun i=>EU l o r i) (fun i=>sW o (fE l R i)) (fun i=>i≤l.exit.length) (fun i=>l.exit.length-i) (l.exit.length-i) (fZ 2 K)))) F H:=by
   intro F H x N;have f1:F 1=some (.dH l.cells):=x 1 _ rfl;have f3:F 3=some (.osl o 1 0 l.exit.length):=x 3 _ rfl;have f4:F 4=some (.int .i64 r):=x 4 _ rfl;have Z:F 19=some (.int .i64 (l.exit.length:Nat)):=x 19 _ rfl;have β:F 20=some (.int .i64 i):=x 20 _ rfl;have f5:F 5=some (.int .i64 i):=x 5 _ rfl;rw[ko];simp only[go_sem,UG,f1,f5,I,aAA];have inner:=Js L l o r i l.ayR[i] (U.row _ (aAG w)) S hlt hn J E;simp only[aE.wp,go_sem] at inner;refine inner _ _ _ ?_ (e_ a_ N) ?_
   ·unfold sV;exact Lq
   ·intro W H' B O;have M:W 20=some (.int .i64 i):=B 20 _ (by unfold sV; simp only[go_sem]);simp only[go_sem,LL,M,wZz i];refine aL (i+1) hlt Om ?_ (by rw[A]; exact O);have g:=fun (q:Nat) v h=>B q v h;unfold EU;unfold sV at g;refine d_ (d_ (d_ (d_ (d_ c_ ?_) ?_) ?_) ?_) ?_
    ·simp only[go_sem]; exact g 1 _ rfl
    ·simp only[go_sem]; exact g 3 _ rfl
    ·simp only[go_sem]; exact g 4 _ rfl
    ·simp only[go_sem]; exact g 19 _ rfl
    ·simp only[go_sem]
  simp only[aE.wp,go_sem] at j;simp only[go_sem,AE,UE,EU,sW,e,Ag];generalize hb:(fE l R i).getD i false=b at *
  cases b with
  | true =>simp only[go_sem,UF,e,aAX,y];refine j _ _ Lq ?_;rw[← u];simp only[go_sem,rQ,Bool.true_or]
  | false =>simp only[go_sem,UF,e,aAX,y,hx];refine aB (L.uX _ (U.exit.all _ (aAG hlt))) rfl ?_;simp only[go_sem,e,aAX,y];refine j _ _ Lq ?_;rw[← u];simp only[go_sem,rQ,Bool.false_or]
 ·have e:¬ (i:Int)<(l.exit.length:Nat):=Om;simp only[go_sem,AE,UE,EU,sW,e];have:i=l.exit.length:=Om;subst this;exact hK _ _ (by unfold PO; exact Lq) b_
theorem acR {C:Ctx} (L:sI C) (l:cT) (I:l.Ok) (he:YA l):FN.wp C (aT Th.res (cL (.bool (sX l)))) (PF.args [.agg l.cells]) .nil:=by
 have J:=he.n;have A:(l.exit.length:Int)*((1:Nat):Int)≤140737488355328:=Om;have B:(l.exit.length:Int)≤9223372036854775807:=Om;simp only[go_sem,FN,Ab,Ac,Th,aAA,A,B];refine aP fun o K=>?_;simp only[go_sem,Ad];refine wp_loop (α:=Nat) (fun r=>PO l o r) (fun r=>sW o (hZ l r)) (fun r=>r≤l.exit.length+1) (fun r=>l.exit.length+1-r) 0 (aAP _) ?_ ?_ ?_
 ·unfold PO;exact Lq
 ·refine e_ a_ ?_;simp only[go_sem,hZ];simp[bD]
 intro r M;have j:=df l r;simp only[go_sem,me,Ae,PO,sW];by_cases hlt:r≤l.exit.length
 ·have e:(r:Int)≤(l.exit.length:Nat):=Om;simp only[go_sem,e,Af];have inner:=Jt L l I he o r (hZ l r) j;simp only[aE.wp,go_sem] at inner;refine inner _ _ _ ?_ b_ ?_
  ·unfold EU;exact Lq
  ·intro E H' w y;have g:=fun (q:Nat) v h=>w q v h;unfold PO at g;have g4:E 4=some (.int .i64 r):=g 4 _ rfl;simp only[go_sem,mg,g4,wZz r];refine aL (r+1) Om Om ?_ y;refine d_ (d_ (d_ c_ ?_) ?_) ?_
   ·simp only[go_sem]; exact g 1 _ rfl
   ·simp only[go_sem]; exact g 3 _ rfl
   ·simp only[go_sem]
 ·have e:¬ (r:Int)≤(l.exit.length:Nat):=Om;have:r=l.exit.length+1:=Om;subst this;simp only[go_sem,e,mh];have u:=L.allb id 103 (hZ l (l.exit.length+1)) (Om:(hZ l (l.exit.length+1)).length≤_) fun x _=>L.ends1 x;have F:(bD (hZ l (l.exit.length+1))).length=l.exit.length:=by rw[iW,j]
  refine qR u (rs:=bD (hZ l (l.exit.length+1))) (o:=o) (s:=1) Sq ?_ ?_
  ·simp only[go_sem,rT (show l.exit.length≤(bD (hZ l (l.exit.length+1))).length by omega),aAQ (show (bD (hZ l (l.exit.length+1))).length≤l.exit.length by omega)]
  ·simp only[go_sem];exact aX rfl rfl
structure YB (C:Ctx):Prop extends u5 C where
 ends:∀ l:cT,l.Ok→YA l→aG C 102 [.agg l.cells] .nil (aM (.bool (sX l)))
def NU (l:cT) (i:Nat):Bool:=decide ((l.ayR.getD i []).length=l.start.length)&&(l.ayR.getD i []).all fJ&&!((l.ayR.getD i []).map bS).getD i false
def XO (l:cT):Bool:=match qM (l.start.map RF.v) with
 | .ok (n,a,b)=>decide (wT n a b false 1 1=0)
 | .error _=>false
theorem alK (l:cT):rF l=(within l.start.length 1 4&&decide (l.exit.length=l.start.length)&&decide (l.ayR.length=l.start.length)&&l.start.all fJ&&l.exit.all fJ&&(aAB l.ayR.length).all (NU l)&&XO l&&sX l):=rfl
theorem agL {l:List FV} {e:Int} (h:qM l=.error e):e≠0:=by
 have:∀ (l:List FV) (b:FV) (e:Int),l.foldlM kN b=.error e→e≠0:=by
  intro l
  induction l with
  | nil=>intro b e h; cases h
  | cons x t w =>
   intro b e h;rw[List.foldlM_cons] at h;cases j:kN b x with
   | error u =>
    rw[j] at h;have:u=e:=by injection h
    subst this;obtain⟨E,a1,A⟩:=b;obtain⟨F,a2,B⟩:=x;simp only[kN] at j;split at j
    ·split at j
     ·rw[GM j]; decide
     ·split at j
      ·rw[GM j]; decide
      ·rw[GM j]; decide
    ·injection j with j; subst j; decide
   | ok y=>rw[j] at h; exact w y e h
 exact this l _ e h
theorem anP {l:List FV} {r:FV} (h:qM l=.ok r):r.rf.Ok:=by
 have:∀ (l:List FV) (b r:FV),b.rf.Ok→l.foldlM kN b=.ok r→r.rf.Ok:=by
  intro l
  induction l with
  | nil=>intro b r hb h; injection h with h; subst h; exact hb
  | cons x t j =>
   intro b r hb h;rw[List.foldlM_cons] at h;cases e:kN b x with
   | error u=>rw[e] at h; cases h
   | ok y=>rw[e] at h; exact j y r (Kj e) h
 refine this l _ r ⟨bA _,bA _,?_,?_⟩ h
 ·show (aJ 0).length≤_;rw[gS]; simp
 ·show (aJ 1).length≤_;rw[oN (by decide) (by decide)]; simp
theorem GN {neg:Bool} {a b:Nat} {r:FV} (hb:b≠0) (h:kZ neg a b=.ok r):dW r.2.1 r.2.2=true:=by
 unfold kZ at h;split at h
 ·cases h
 ·rename_i u;injection h with h
  subst h;have e:aAD a b ∣ b:=Nat.gcd_dvd_right _ _;have j:b/aAD a b≠0:=by have:=Nat.div_pos (Nat.le_of_dvd (aCT hb) e) (aCT fun h=>hb (Nat.gcd_eq_zero_iff.1 h).2);omega
  have l:=@kD (b/aAD a b);simp only[dW,aAO,decide_eq_true_eq];omega
theorem R6 {x y r:FV} (h:kN x y=.ok r):dW r.2.1 r.2.2=true:=by
 obtain⟨w,a1,l⟩:=x;obtain⟨A,a2,u⟩:=y;simp only[kN] at h;split at h
 ·rename_i j;rw[aAO] at j;have e:l*u≠0:=Nat.mul_ne_zero (mX.1 j.1).1 (mX.1 j.2).1;split at h
  ·exact GN e h
  ·split at h
   ·exact GN e h
   ·exact GN e h
 ·cases h
theorem V1:dW 0 1=true:=by
 have:cN 1=1:=by rw[rA (by decide),lF]
 simp[dW,this,lF]
theorem Vk {l:List FV} {r:FV} (h:qM l=.ok r):dW r.2.1 r.2.2=true:=by
 have:∀ (l:List FV) (b r:FV),dW b.2.1 b.2.2=true→l.foldlM kN b=.ok r→dW r.2.1 r.2.2=true:=by
  intro l
  induction l with
  | nil=>intro b r hb h; injection h with h; subst h; exact hb
  | cons x t j =>
   intro b r hb h;rw[List.foldlM_cons] at h;cases e:kN b x with
   | error u=>rw[e] at h; cases h
   | ok y=>rw[e] at h; exact j y r (R6 e) h
 exact this l _ r V1 h
theorem abP:(⟨false,[],[]⟩:RF).Ok:=⟨fun _ h=>absurd h (aAY),fun _ h=>absurd h (aAY),show 0≤35184372087808 by decide,show 0≤35184372087808 by decide⟩
def adK (l:cT) (k:Nat):PF:=(((((PF.nil.set 1 (.dH l.cells)).set 3 (.int .i64 (l.start.length:Nat))).set 45 (Vb l.ayR)).set 46 (.int .i64 (l.ayR.length:Nat))).set 47 (.int .i64 k))
theorem Xt {C:Ctx} (L:YB C) (l:cT) (E:l.Ok) (he:YA l) (F:PF) (B:F 1=some (.dH l.cells)) :
  aE.wp C (.seq (.region UH) (.seq (.region FO) (.seq (.region FP) (.seq (.region uE) .ret)))) (aT [.tmp 2] (cL (.bool (XO l&&sX l)))) F .nil:=by
 simp only[go_sem,UH,B];refine aB (L.tot l.start E.start) rfl ?_;obtain⟨I,x,y,e,S⟩:=PQ (qM (l.start.map RF.v));have go:∀ (z:RF) (e:Int),z.Ok→(e=0→(zZ z.neg (val z.num) (val z.den) false 1 1=.tup [.int .i64 (wT z.neg (val z.num) (val z.den) false 1 1),.int .i64 0])∧XO l=decide (wT z.neg (val z.num) (val z.den) false 1 1=0))→(e≠0→XO l=false) →
   frV (qM (l.start.map RF.v))=.tup [.agg z.cells,.int .i64 e] →
   wpOps C [⟨(some 69),.mv (.tmp 72),none⟩,⟨(some 73),.extract (.tmp 69) 0,none⟩,⟨(some 74),.extract (.tmp 69) 1,none⟩,⟨(some 6),.alloc [(.bool false),.aA,.aA],none⟩,⟨none,.store 3 (.tmp 6) (.tmp 73),none⟩,⟨(some 7),.mv (.tmp 74),none⟩]
    (aE.wp C (.seq (.region FO) (.seq (.region FP) (.seq (.region uE) .ret))) (aT [.tmp 2] (cL (.bool (XO l&&sX l))))) ((((F.set 70 (.dH [frs l.start,Vb l.ayR,frs l.exit])).set 71 (frs l.start))).set 72 (.tup [.agg z.cells,.int .i64 e])) .nil:=by
  intro z e O J K _;simp only[go_sem];refine aP fun o6 M=>?_;simp only[go_sem,FO];refine aB (L.frac 1 1 (by decide) (by decide)) rfl ?_;rw[Ce];simp only[go_sem,frV];refine aP fun o8 u=>?_;have R:o6≠o8:=by rintro rfl; simp only[aQ,if_true] at u; cases u
  simp only[go_sem,FP,R];refine aB (L.ord z (FV.rf (false,1,1)) O Ze) rfl ?_;rw[show val (FV.rf (false,1,1)).num=1 from aY 1,show val (FV.rf (false,1,1)).den=1 from aY 1,show (FV.rf (false,1,1)).neg=false from rfl];by_cases c:e=0
  ·obtain⟨g1,g2⟩:=J c;rw[g1,g2];by_cases d:wT z.neg (val z.num) (val z.den) false 1 1=0
   ·simp only[go_sem,uE,bO c,bO d,B];refine aB (L.ends l E he) rfl ?_;simp only[go_sem];exact aX rfl (by rw[decide_eq_true d,aBB])
   ·simp only[go_sem,uE,bO c,bC d];exact aX rfl (by rw[decide_eq_false d,aAR])
  ·rw[K c];have:∃ v w,zZ z.neg (val z.num) (val z.den) false 1 1=.tup [.int .i64 v,.int .i64 w]:=by
    unfold zZ;split
    ·exact⟨_,_,rfl⟩
    ·exact⟨_,_,rfl⟩
   obtain⟨v,w,A⟩:=this;rw[A];simp only[go_sem,uE,bC c];exact aX rfl rfl
 cases j:qM (l.start.map RF.v) with
 | error e =>rw[j] at go;exact go ⟨false,[],[]⟩ e abP (fun h=>absurd h (agL j)) (fun _=>by rw[XO,j]) rfl
 | ok r =>obtain⟨n,a,b⟩:=r;rw[j] at go;have N:=anP j;refine go (FV.rf (n,a,b)) 0 N (fun _=>?_) (fun h=>absurd rfl h) rfl;rw[show val (FV.rf (n,a,b)).num=a from aY a,show val (FV.rf (n,a,b)).den=b from aY b,show (FV.rf (n,a,b)).neg=n from rfl];refine⟨?_,by rw[XO,j]⟩;have A:dW a b=true:=Vk j;rw[zZ,A,s8];rfl
theorem akP {C:Ctx} (L:YB C) (l:cT) (A:l.Ok):LM.wp C (aT acT.res (cL (.bool (rF l)))) (PF.args [.agg l.cells]) .nil:=by
 rw[alK];simp only[go_sem,LM,M1,M2,acT,M3,aAA];refine aB (L.inn l.start.length 1 4) rfl ?_;cases O:within l.start.length 1 4 with
 | false =>simp only[go_sem,aBF,yM];exact aX rfl (by simp only[aAR])
 | true =>
  obtain⟨W,X⟩:=within_iff.1 O;by_cases F:l.exit.length=l.start.length
  ·rw[decide_eq_true F];by_cases I:l.ayR.length=l.start.length
   ·rw[decide_eq_true I];simp only[go_sem,aAS,aAA,cM (Om:(l.exit.length:Int)=(l.start.length:Nat)),cM (Om:(l.ayR.length:Int)=(l.start.length:Nat))];refine aB (L.adQ l.start A.start) rfl ?_;cases S:l.start.all fJ with
    | false =>simp only[go_sem,aBF,yM];exact aX rfl (by simp only[aAR])
    | true =>
     simp only[go_sem,aAS];refine aB (L.adQ l.exit A.exit) rfl ?_;cases U:l.exit.all fJ with
     | false =>simp only[go_sem,aBF,yM];exact aX rfl (by simp only[aAR])
     | true =>
      simp only[go_sem,aAS,M4,aAA];have y:∀ k (h:k<l.ayR.length),NU l k=(decide ((l.ayR[k]).length=l.start.length)&&(l.ayR[k]).all fJ&&!((l.ayR[k]).map bS).getD k false):=by
       intro k h;have:l.ayR.getD k []=l.ayR[k]:=by simp[aAL,h]
       rw[NU,this]
      refine wp_loop (α:=Nat) (fun k=>adK l k) (fun _=>.nil) (fun k=>k≤l.ayR.length∧qS (NU l) k) (fun k=>l.ayR.length-k) 0 ⟨aAP _,.zero⟩ ?_ a_ ?_
      ·unfold adK
       (repeat' (first|exact c_|refine d_ ?_ ?_))<;>first|(simp only[go_sem,aAA]<;>rfl)|rfl
      rintro k ⟨V,N⟩;simp only[go_sem,Ai,M5,adK];by_cases hlt:k<l.ayR.length
      ·have j:(k:Int)<(l.ayR.length:Nat):=Om;have E:(l.ayR.map fun r=>[frs r])[k]?=some [frs l.ayR[k]]:=by simp[hlt]
       have e:=y k hlt;have w:=A.row l.ayR[k] (aAG hlt);simp only[go_sem,j,M6,E,M7,aAA];by_cases J:(l.ayR[k]).length=l.start.length
       ·rw[decide_eq_true J,aBB] at e;simp only[go_sem,cM (show (((l.ayR[k]).length:Nat):Int)=(l.start.length:Nat) by omega)];refine aB (L.adQ _ w) rfl ?_;cases K:(l.ayR[k]).all fJ with
        | false =>rw[K,aAR] at e;simp only[go_sem,aBF,PS];refine aX (b:=false) rfl ?_;have:(aAB l.ayR.length).all (NU l)=false:=fB hlt e;rw[this]; simp only[aAR,aBS]
        | true =>
         have x:k<(l.ayR[k]).length:=Om;have R:((l.ayR[k]).map RF.cells)[k]?=some ((l.ayR[k])[k]).cells:=by simp[x]
         have B:((l.ayR[k]).map bS).getD k false=bS (l.ayR[k])[k]:=by simp[aAL,x]
         rw[K,aBB,B] at e;simp only[go_sem,aAS,R];refine aB (L.uX _ (w.all _ (aAG x))) rfl ?_;cases M:bS (l.ayR[k])[k] with
         | true =>rw[M] at e;simp only[go_sem,PS];refine aX (b:=false) rfl ?_;have:(aAB l.ayR.length).all (NU l)=false:=fB hlt e;rw[this]; simp only[aAR,aBS]
         | false =>rw[M] at e;simp only[go_sem,M8,wZz k];refine aL (k+1) ⟨hlt,N.step e⟩ Om ?_ a_;exact Lq
       ·simp only[decide_eq_false J,aAR] at e;simp only[go_sem,dP (show (((l.ayR[k]).length:Nat):Int)≠(l.start.length:Nat) by omega),PS];refine aX (b:=false) rfl ?_;have:(aAB l.ayR.length).all (NU l)=false:=fB hlt e;rw[this]; simp only[aAR,aBS]
      ·have j:¬ (k:Int)<(l.ayR.length:Nat):=Om;have:k=l.ayR.length:=Om;subst this;have u:(aAB l.ayR.length).all (NU l)=true:=N;have he:YA l:=⟨by omega,by omega,fun r E=>by obtain⟨i,hi,rfl⟩:=aBZ E;have:=aBK.1 u i (aAU.2 hi);rw[y i hi] at this;simp only[aAO,decide_eq_true_eq] at this;omega⟩
       have tail:=Xt L l A he;simp only[aE.wp,go_sem] at tail;rw[u];simp only[go_sem,j,aBB,aCJ];exact tail _ rfl
   ·simp only[go_sem,aAS,aAA,cM (Om:(l.exit.length:Int)=(l.start.length:Nat)),dP (Om:(l.ayR.length:Int)≠(l.start.length:Nat)),yM];exact aX rfl (by rw[decide_eq_false I]; simp only[aAR,aBS])
  ·simp only[go_sem,aAS,aAA,dP (Om:(l.exit.length:Int)≠(l.start.length:Nat)),yM];exact aX rfl (by rw[decide_eq_false F]; simp only[aAR,aBS])
structure kT (C:Ctx):Prop extends YB C where
 law:∀ l:cT,l.Ok→aG C 95 [.agg l.cells] .nil (aM (.bool (rF l)))
 pol:∀ (p:cC) (n:Nat),p.Ok→n≤4→aG C 112 [.agg p.cells,.int .i64 n] .nil (aM (.bool (jL n p)))
 ayW:∀ f:aC,f.Ok→aG C 111 [.agg f.cells] .nil (aM (.bool (oX f)))
abbrev fF (l:List (List UInt8)):List (List PV):=l.map fun s=>[PV.str s]
theorem wK (l:List (List UInt8)) {k:Nat} (h:k<l.length):fF (l.take k)++[[.str l[k]]]=fF (l.take (k+1)):=by
 unfold fF;rw[aCM h,aBO]; rfl
theorem sB {l:List (List UInt8)} (h:l.length≤1000):roomFor (fF l).length 1 16:=by
 unfold roomFor fF;simp only[aAA,maxLen]; omega
def jD {α:Type} (l:List α) (p:α→Bool) (k:Nat):Bool:=(l.take k).all p
theorem sP {α:Type} (l:List α) (p:α→Bool):jD l p 0=true:=rfl
theorem sO {α:Type} (l:List α) (p:α→Bool) {k:Nat} (h:k<l.length):jD l p (k+1)=(jD l p k&&p l[k]):=by
 unfold jD;rw[aCM h,List.all_append]; simp
theorem vT {α:Type} (l:List α) (p:α→Bool):jD l p l.length=l.all p:=by unfold jD; rw[aBT]
def jG (f:aC) (e j l u w:PV) (ok:Bool):PF:=(((((((PF.nil.set 1 (.dH f.cells)).set 3 (e)).set 4 (j)).set 5 (l)).set 6 (u)).set 7 (w)).set 8 (.bool ok))
structure kX (F:PF) (f:aC) (w3 w4 w5 w6 w7:PV) (ok:Bool):Prop where
 a1:F 1=some (.dH f.cells)
 a3:F 3=some w3
 a4:F 4=some w4
 a5:F 5=some w5
 a6:F 6=some w6
 a7:F 7=some w7
 a8:F 8=some (.bool ok)
theorem Tq {C:Ctx} (L:kT C) (f:aC) (S:f.Ok) (Y:f.ayU.length≤4) (I J M N:PV) (K:cK) (F:PF) (H:PH) (u:kX F f .aA I J M N true)
  (A:F 67=some (.sl 4 (f.ayU.map cT.cells))) (B:F 68=some (.int .i64 (f.ayU.length:Nat))) (E:F 69=some (.int .i64 0))
  (R:∀ v O H',kX O f v I J M N (f.ayU.all rF)→bY H' 1 v (fF (f.ayU.map cT.name))→K (.exit 0) O H') :
  aE.wp C (.loop FW) K F H:=by
 refine wp_loop (α:=Nat × PV × PH) (fun t=>(((jG f t.2.1 I J M N (jD f.ayU rF t.1)).set 67 (.sl 4 (f.ayU.map cT.cells))).set 68 (.int .i64 (f.ayU.length:Nat))).set 69 (.int .i64 t.1)) (fun t=>t.2.2)
  (fun t=>t.1≤f.ayU.length∧bY t.2.2 1 t.2.1 (fF ((f.ayU.map cT.name).take t.1))) (fun t=>f.ayU.length-t.1) (0,.aA,.nil) ⟨aAP _,.nil⟩ ?_ a_ ?_
 ·unfold jG
  (repeat' (first|exact c_|refine d_ ?_ ?_))<;>first|(simp only[go_sem,u.a1,u.a3,u.a4,u.a5,u.a6,u.a7,u.a8,A,B,E,sP]<;>rfl)|rfl
 rintro⟨k,v,X⟩ ⟨U,y⟩;simp only at U y ⊢;simp only[go_sem,FW,Nv,jG];by_cases hlt:k<f.ayU.length
 ·have j:(k:Int)<(f.ayU.length:Nat):=Om;have W:(f.ayU.map cT.cells)[k]?=some (f.ayU[k]).cells:=by simp[hlt]
  have x:=wK (f.ayU.map cT.name) (k:=k) (by simpa using hlt);rw[aCW] at x;simp only[go_sem,j,Nw,W];refine aP fun o V=>?_;simp only[go_sem,Nx];refine nF y V (sB (by simp; omega)) fun v' H' l w=>?_;rw[x] at l;have e:=sO f.ayU rF hlt;cases hb:jD f.ayU rF k with
  | false =>rw[hb,aAR] at e;simp only[go_sem,iu,w,UL,wZz k];refine aL (k+1,v',H') ⟨hlt,l⟩ (by simp only; omega) ?_ b_;simp only[e];exact Lq
  | true =>rw[hb,aBB] at e;simp only[go_sem,iu,w];refine aB (L.law _ (S.law _ (aAG hlt))) Ev ?_;simp only[go_sem,UL,wZz k];refine aL (k+1,v',H') ⟨hlt,l⟩ (by simp only; omega) ?_ b_;simp only[e];exact Lq
 ·have j:¬ (k:Int)<(f.ayU.length:Nat):=Om;have:k=f.ayU.length:=Om;subst this;rw[aAQ (by simp)] at y;rw[vT];simp only[go_sem,j];exact R v _ _ ⟨by simp only[go_sem],by simp only[go_sem],by simp only[go_sem],by simp only[go_sem],by simp only[go_sem],by simp only[go_sem],by simp only[go_sem]⟩ y
theorem BB {n:Nat} (h:n≤1000):IntKind.i64.wrap ((n:Int)-1)=(n:Int)-1:=wrap_i64 Om Om
theorem Tr {C:Ctx} (L:kT C) (f:aC) (hs:f.ayN.length≤4) (hl:f.ayU.length≤4) (x:Bool) (E I J M:PV) (K:cK) (F:PF) (H:PH) (u:kX F f E .aA I J M x)
  (R:F 85=some (.sl 4 (f.ayN.map dD.cells))) (S:F 86=some (.int .i64 (f.ayN.length:Nat))) (U:F 87=some (.int .i64 0))
  (X:∀ v w H',kX w f E v I J M (x&&f.ayN.all (mT f))→bY H' 1 v (fF (f.ayN.map dD.name))→K (.exit 2) w H') :
  aE.wp C (.loop FX) K F H:=by
 refine wp_loop (α:=Nat × PV × PH) (fun t=>(((jG f E t.2.1 I J M (x&&jD f.ayN (mT f) t.1)).set 85 (.sl 4 (f.ayN.map dD.cells))).set 86 (.int .i64 (f.ayN.length:Nat))).set 87 (.int .i64 t.1)) (fun t=>t.2.2)
  (fun t=>t.1≤f.ayN.length∧bY t.2.2 1 t.2.1 (fF ((f.ayN.map dD.name).take t.1))) (fun t=>f.ayN.length-t.1) (0,.aA,.nil) ⟨aAP _,.nil⟩ ?_ a_ ?_
 ·unfold jG
  (repeat' (first|exact c_|refine d_ ?_ ?_))<;>first|(simp only[go_sem,u.a1,u.a3,u.a4,u.a5,u.a6,u.a7,u.a8,R,S,U,sP,aCJ]<;>rfl)|rfl
 rintro⟨k,v,H0⟩ ⟨Z,N⟩;simp only at Z N ⊢;simp only[go_sem,FX,A5,jG];by_cases hlt:k<f.ayN.length
 ·have e:(k:Int)<(f.ayN.length:Nat):=Om;have hr:(f.ayN.map dD.cells)[k]?=some (f.ayN[k]).cells:=by simp[hlt]
  have B:=wK (f.ayN.map dD.name) (k:=k) (by simpa using hlt);rw[aCW] at B;simp only[go_sem,e,A6,hr];refine aP fun o ho=>?_;simp only[go_sem,A7];refine nF N ho (sB (by simp; omega)) fun v' H' y j=>?_;rw[B] at y;have l:=sO f.ayN (mT f) hlt;have fin:∀ (c:Bool) (w:PF),c=(x&&jD f.ayN (mT f) (k+1))→((((jG f E v' I J M c).set 85 (.sl 4 (f.ayN.map dD.cells))).set 86 (.int .i64 (f.ayN.length:Nat))).set 87 (.int .i64 (k+1:Nat))).le w →
    jU (fun (t:Nat × PV × PH)=>(((jG f E t.2.1 I J M (x&&jD f.ayN (mT f) t.1)).set 85 (.sl 4 (f.ayN.map dD.cells))).set 86 (.int .i64 (f.ayN.length:Nat))).set 87 (.int .i64 t.1)) (fun (t:Nat × PV × PH)=>t.2.2)  (fun (t:Nat × PV × PH)=>t.1≤f.ayN.length∧bY t.2.2 1 t.2.1 (fF ((f.ayN.map dD.name).take t.1))) (fun (t:Nat × PV × PH)=>f.ayN.length-t.1) (f.ayN.length-k) K .normal w H':=by
   intro c w Y A;refine aL (α:=Nat × PV × PH) (k+1,v',H') ⟨hlt,y⟩ (by simp only; omega) ?_ b_;rw[Y] at A;exact A
  unfold jG at fin;rw[l,← Bool.and_assoc] at fin;have V:mT f f.ayN[k]=(within (f.ayN[k]).azD 1 16&&within (f.ayN[k]).port 1 64&&within (f.ayN[k]).law 0 ((f.ayU.length:Int)-1)):=rfl;cases hb:(x&&jD f.ayN (mT f) k) with
  | false =>rw[hb,aAR] at fin;simp only[go_sem,UN,j,zH,wZz k];refine fin false _ rfl ?_;exact Lq
  | true =>
   rw[hb,aBB] at fin;simp only[go_sem,UN,j];refine aB (L.inn _ 1 16) Ev ?_;cases O:within (f.ayN[k]).azD 1 16 with
   | false =>simp only[go_sem,zH,wZz k];refine fin false _ (by rw[V,O]; simp only[aAR]) ?_;exact Lq
   | true =>
    simp only[go_sem,j];refine aB (L.inn _ 1 64) Ev ?_;cases W:within (f.ayN[k]).port 1 64 with
    | false =>simp only[go_sem,zH,wZz k];refine fin false _ (by rw[V,O,W]; simp only[aAR,aBS]) ?_;exact Lq
    | true =>simp only[go_sem,j,aAA,BB (Om:f.ayU.length≤1000)];refine aB (L.inn _ 0 _) Ev ?_;simp only[go_sem,zH,wZz k];refine fin (within (f.ayN[k]).law 0 ((f.ayU.length:Int)-1)) _ (by rw[V,O,W]; simp only[aBB]) ?_;exact Lq
 ·have e:¬ (k:Int)<(f.ayN.length:Nat):=Om;have:k=f.ayN.length:=Om;subst this;rw[aAQ (by simp)] at N;rw[vT];simp only[go_sem,e];exact X v _ _ ⟨by simp only[go_sem],by simp only[go_sem],by simp only[go_sem],by simp only[go_sem],by simp only[go_sem],by simp only[go_sem],by simp only[go_sem]⟩ N
theorem Ts {C:Ctx} (L:kT C) (f:aC) (t:List cP) (X:t.length≤40) (x:Bool) (E I J M:PV) (K:cK) (F:PF) (H:PH) (j:kX F f E I .aA J M x)
  (y:F 119=some (.sl 7 (t.map cP.cells))) (A:F 120=some (.int .i64 (t.length:Nat))) (B:F 121=some (.int .i64 0))
  (O:∀ v N H',kX N f E I v J M x→bY H' 1 v (fF (t.map cP.name))→K (.exit 4) N H') :
  aE.wp C (.loop FY) K F H:=by
 refine wp_loop (α:=Nat × PV × PH) (fun a=>(((jG f E I a.2.1 J M x).set 119 (.sl 7 (t.map cP.cells))).set 120 (.int .i64 (t.length:Nat))).set 121 (.int .i64 a.1)) (fun a=>a.2.2)
  (fun a=>a.1≤t.length∧bY a.2.2 1 a.2.1 (fF ((t.map cP.name).take a.1))) (fun a=>t.length-a.1) (0,.aA,.nil) ⟨aAP _,.nil⟩ ?_ a_ ?_
 ·unfold jG
  (repeat' (first|exact c_|refine d_ ?_ ?_))<;>first|(simp only[go_sem,j.a1,j.a3,j.a4,j.a5,j.a6,j.a7,j.a8,y,A,B]<;>rfl)|rfl
 rintro⟨k,v,W⟩ ⟨R,w⟩;simp only at R w ⊢;simp only[go_sem,FY,A8,jG];by_cases hlt:k<t.length
 ·have e:(k:Int)<(t.length:Nat):=Om;have V:(t.map cP.cells)[k]?=some (t[k]).cells:=by simp[hlt]
  have u:=wK (t.map cP.name) (k:=k) (by simpa using hlt);rw[aCW] at u;simp only[go_sem,e,A9,V];refine aP fun o S=>?_;simp only[go_sem,Ba];refine nF w S (sB (by simp; omega)) fun v' H' l U=>?_;rw[u] at l;simp only[go_sem,Bb,wZz k];refine aL (k+1,v',H') ⟨hlt,l⟩ (by simp only; omega) ?_ b_;exact Lq
 ·have e:¬ (k:Int)<(t.length:Nat):=Om;have:k=t.length:=Om;subst this;rw[aAQ (by simp)] at w;simp only[go_sem,e];exact O v _ _ ⟨by simp only[go_sem],by simp only[go_sem],by simp only[go_sem],by simp only[go_sem],by simp only[go_sem],by simp only[go_sem],by simp only[go_sem]⟩ w
theorem Tt {C:Ctx} (L:kT C) (f:aC) (e:List (List UInt8)) (hn:e.length≤40) (hs:f.ayM.length≤24) (hm:f.ayN.length≤4) (hd:f.ayP.length≤40) (A:Bool) (J M v0 N O:PV) (K:cK) (F:PF) (H:PH) (x:kX F f J M v0 N O A)
  (h0:bY H 1 v0 (fF e))
  (W:F 132=some (.sl 3 (f.ayM.map cZ.cells))) (X:F 133=some (.int .i64 (f.ayM.length:Nat))) (Y:F 134=some (.int .i64 0))
  (hK:∀ v y H',kX y f J M v N O (A&&f.ayM.all (kV f))→bY H' 1 v (fF (e++f.ayM.map cZ.name))→K (.exit 6) y H') :
  aE.wp C (.loop FZ) K F H:=by
 refine wp_loop (α:=Nat × PV × PH) (fun t=>(((jG f J M t.2.1 N O (A&&jD f.ayM (kV f) t.1)).set 132 (.sl 3 (f.ayM.map cZ.cells))).set 133 (.int .i64 (f.ayM.length:Nat))).set 134 (.int .i64 t.1)) (fun t=>t.2.2)
  (fun t=>t.1≤f.ayM.length∧bY t.2.2 1 t.2.1 (fF (e++(f.ayM.map cZ.name).take t.1))) (fun t=>f.ayM.length-t.1) (0,v0,H) ⟨aAP _,by rw[List.take_zero,aBU]; exact h0⟩ ?_ b_ ?_
 ·unfold jG
  (repeat' (first|exact c_|refine d_ ?_ ?_))<;>first|(simp only[go_sem,x.a1,x.a3,x.a4,x.a5,x.a6,x.a7,x.a8,W,X,Y,sP,aCJ]<;>rfl)|rfl
 rintro⟨k,v,H0⟩ ⟨hk,V⟩;simp only at hk V ⊢;simp only[go_sem,FZ,Bc,jG];by_cases hlt:k<f.ayM.length
 ·have j:(k:Int)<(f.ayM.length:Nat):=Om;have hr:(f.ayM.map cZ.cells)[k]?=some (f.ayM[k]).cells:=by simp[hlt]
  have β:fF (e++(f.ayM.map cZ.name).take k)++[[.str (f.ayM[k]).name]]=fF (e++(f.ayM.map cZ.name).take (k+1)):=by rw[aCM (by simpa using hlt),← aBE,aCW];unfold fF;simp only[aBO,aBG,aCP]
  simp only[go_sem,j,Bd,hr];refine aP fun o ho=>?_;simp only[go_sem,Be];refine nF V ho (sB (by simp; omega)) fun v' H' B u=>?_;rw[β] at B;have w:=sO f.ayM (kV f) hlt;have fin:∀ (c:Bool) (y:PF),c=(A&&jD f.ayM (kV f) (k+1))→((((jG f J M v' N O c).set 132 (.sl 3 (f.ayM.map cZ.cells))).set 133 (.int .i64 (f.ayM.length:Nat))).set 134 (.int .i64 (k+1:Nat))).le y →
    jU (fun (t:Nat × PV × PH)=>(((jG f J M t.2.1 N O (A&&jD f.ayM (kV f) t.1)).set 132 (.sl 3 (f.ayM.map cZ.cells))).set 133 (.int .i64 (f.ayM.length:Nat))).set 134 (.int .i64 t.1)) (fun (t:Nat × PV × PH)=>t.2.2)  (fun (t:Nat × PV × PH)=>t.1≤f.ayM.length∧bY t.2.2 1 t.2.1 (fF (e++(f.ayM.map cZ.name).take t.1))) (fun (t:Nat × PV × PH)=>f.ayM.length-t.1) (f.ayM.length-k) K .normal y H':=by
   intro c y hc E;refine aL (α:=Nat × PV × PH) (k+1,v',H') ⟨hlt,B⟩ (by simp only; omega) ?_ b_;rw[hc] at E;exact E
  unfold jG at fin;rw[w,← Bool.and_assoc] at fin;have l:kV f f.ayM[k]=(within (f.ayM[k]).model 0 ((f.ayN.length:Int)-1)&&within (f.ayM[k]).machine 0 ((f.ayP.length:Int)-1)&&decide ((f.ayP.map cP.level).getD (f.ayM[k]).machine.toNat 0=4)):=rfl;cases hb:(A&&jD f.ayM (kV f) k) with
  | false =>rw[hb,aAR] at fin;simp only[go_sem,UQ,u,uF,wZz k];refine fin false _ rfl ?_;exact Lq
  | true =>
   rw[hb,aBB] at fin;simp only[go_sem,UQ,u,aAA,BB (Om:f.ayN.length≤1000)];refine aB (L.inn _ 0 _) Ev ?_;cases R:within (f.ayM[k]).model 0 ((f.ayN.length:Int)-1) with
   | false =>simp only[go_sem,uF,wZz k];refine fin false _ (by rw[l,R]; simp only[aAR]) ?_;exact Lq
   | true =>
    simp only[go_sem,u,aAA,BB (Om:f.ayP.length≤1000)];refine aB (L.inn _ 0 _) Ev ?_;cases S:within (f.ayM[k]).machine 0 ((f.ayP.length:Int)-1) with
    | false =>simp only[go_sem,uF,wZz k];refine fin false _ (by rw[l,R,S]; simp only[aAR,aBS]) ?_;exact Lq
    | true =>
     obtain⟨i1,i2⟩:=within_iff.1 S;have i3:(f.ayM[k]).machine.toNat<f.ayP.length:=Om;have I:(f.ayP.map cP.cells)[(f.ayM[k]).machine.toNat]?=some (f.ayP[(f.ayM[k]).machine.toNat]).cells:=by simp[i3]
     have Z:(f.ayP.map cP.level).getD (f.ayM[k]).machine.toNat 0=(f.ayP[(f.ayM[k]).machine.toNat]).level:=by simp[i3]
     rw[Z] at l;by_cases U:(f.ayP[(f.ayM[k]).machine.toNat]).level=4
     ·simp only[go_sem,u,i1,I,bO U,uF,wZz k];refine fin true _ (by rw[l,R,S,decide_eq_true U]; rfl) ?_;exact Lq
     ·simp only[go_sem,u,i1,I,bC U,uF,wZz k];refine fin false _ (by rw[l,R,S,decide_eq_false U]; rfl) ?_;exact Lq
 ·have j:¬ (k:Int)<(f.ayM.length:Nat):=Om;have:k=f.ayM.length:=Om;subst this;rw[aAQ (by simp)] at V;rw[vT];simp only[go_sem,j];exact hK v _ _ ⟨by simp only[go_sem],by simp only[go_sem],by simp only[go_sem],by simp only[go_sem],by simp only[go_sem],by simp only[go_sem],by simp only[go_sem]⟩ V
theorem Tu {C:Ctx} (L:kT C) (f:aC) (W:f.Ok) (hs:f.ayQ.length≤4) (Y:f.ayN.length≤4) (w:Bool) (E I J M:PV) (K:cK) (F:PF) (H:PH) (l:kX F f E I J .aA M w)
  (O:F 174=some (.sl 17 (f.ayQ.map cC.cells))) (R:F 175=some (.int .i64 (f.ayQ.length:Nat))) (S:F 176=some (.int .i64 0))
  (U:∀ v u H',kX u f E I J v M (w&&f.ayQ.all (jL f.ayN.length))→bY H' 1 v (fF (f.ayQ.map cC.name))→K (.exit 8) u H') :
  aE.wp C (.loop GA) K F H:=by
 refine wp_loop (α:=Nat × PV × PH) (fun t=>(((jG f E I J t.2.1 M (w&&jD f.ayQ (jL f.ayN.length) t.1)).set 174 (.sl 17 (f.ayQ.map cC.cells))).set 175 (.int .i64 (f.ayQ.length:Nat))).set 176 (.int .i64 t.1)) (fun t=>t.2.2)
  (fun t=>t.1≤f.ayQ.length∧bY t.2.2 1 t.2.1 (fF ((f.ayQ.map cC.name).take t.1))) (fun t=>f.ayQ.length-t.1) (0,.aA,.nil) ⟨aAP _,.nil⟩ ?_ a_ ?_
 ·unfold jG
  (repeat' (first|exact c_|refine d_ ?_ ?_))<;>first|(simp only[go_sem,l.a1,l.a3,l.a4,l.a5,l.a6,l.a7,l.a8,O,R,S,sP,aCJ]<;>rfl)|rfl
 rintro⟨k,v,H0⟩ ⟨X,N⟩;simp only at X N ⊢;simp only[go_sem,GA,Bf,jG];by_cases hlt:k<f.ayQ.length
 ·have e:(k:Int)<(f.ayQ.length:Nat):=Om;have hr:(f.ayQ.map cC.cells)[k]?=some (f.ayQ[k]).cells:=by simp[hlt]
  have B:=wK (f.ayQ.map cC.name) (k:=k) (by simpa using hlt);rw[aCW] at B;simp only[go_sem,e,Bg,hr];refine aP fun o Z=>?_;simp only[go_sem,Bh];refine nF N Z (sB (by simp; omega)) fun v' H' x A=>?_;rw[B] at x;have j:=sO f.ayQ (jL f.ayN.length) hlt;have fin:∀ (c:Bool) (u:PF),c=(w&&jD f.ayQ (jL f.ayN.length) (k+1))→((((jG f E I J v' M c).set 174 (.sl 17 (f.ayQ.map cC.cells))).set 175 (.int .i64 (f.ayQ.length:Nat))).set 176 (.int .i64 (k+1:Nat))).le u →
    jU (fun (t:Nat × PV × PH)=>(((jG f E I J t.2.1 M (w&&jD f.ayQ (jL f.ayN.length) t.1)).set 174 (.sl 17 (f.ayQ.map cC.cells))).set 175 (.int .i64 (f.ayQ.length:Nat))).set 176 (.int .i64 t.1)) (fun (t:Nat × PV × PH)=>t.2.2)  (fun (t:Nat × PV × PH)=>t.1≤f.ayQ.length∧bY t.2.2 1 t.2.1 (fF ((f.ayQ.map cC.name).take t.1))) (fun (t:Nat × PV × PH)=>f.ayQ.length-t.1) (f.ayQ.length-k) K .normal u H':=by
   intro c u V y;refine aL (α:=Nat × PV × PH) (k+1,v',H') ⟨hlt,x⟩ (by simp only; omega) ?_ b_;rw[V] at y;exact y
  unfold jG at fin;rw[j,← Bool.and_assoc] at fin;cases hb:(w&&jD f.ayQ (jL f.ayN.length) k) with
  | false =>rw[hb,aAR] at fin;simp only[go_sem,US,A,UT,wZz k];refine fin false _ rfl ?_;exact Lq
  | true =>rw[hb,aBB] at fin;simp only[go_sem,US,A,aAA];refine aB (L.pol _ _ (W.ayZ _ (aAG hlt)) Y) Ev ?_;simp only[go_sem,UT,wZz k];refine fin _ _ rfl ?_;exact Lq
 ·have e:¬ (k:Int)<(f.ayQ.length:Nat):=Om;have:k=f.ayQ.length:=Om;subst this;rw[aAQ (by simp)] at N;rw[vT];simp only[go_sem,e];exact U v _ _ ⟨by simp only[go_sem],by simp only[go_sem],by simp only[go_sem],by simp only[go_sem],by simp only[go_sem],by simp only[go_sem],by simp only[go_sem]⟩ N
theorem Tv {C:Ctx} (L:kT C) (f:aC) (hs:f.ayO.length≤12) (hl:f.ayQ.length≤4) (w:Bool) (E I J M:PV) (K:cK) (F:PF) (H:PH) (l:kX F f E I J M .aA w)
  (O:F 195=some (.sl 2 (f.ayO.map gI.cells))) (R:F 196=some (.int .i64 (f.ayO.length:Nat))) (S:F 197=some (.int .i64 0))
  (U:∀ v u H',kX u f E I J M v (w&&f.ayO.all (oW f))→bY H' 1 v (fF (f.ayO.map gI.name))→K (.exit 10) u H') :
  aE.wp C (.loop GB) K F H:=by
 refine wp_loop (α:=Nat × PV × PH) (fun t=>(((jG f E I J M t.2.1 (w&&jD f.ayO (oW f) t.1)).set 195 (.sl 2 (f.ayO.map gI.cells))).set 196 (.int .i64 (f.ayO.length:Nat))).set 197 (.int .i64 t.1)) (fun t=>t.2.2)
  (fun t=>t.1≤f.ayO.length∧bY t.2.2 1 t.2.1 (fF ((f.ayO.map gI.name).take t.1))) (fun t=>f.ayO.length-t.1) (0,.aA,.nil) ⟨aAP _,.nil⟩ ?_ a_ ?_
 ·unfold jG
  (repeat' (first|exact c_|refine d_ ?_ ?_))<;>first|(simp only[go_sem,l.a1,l.a3,l.a4,l.a5,l.a6,l.a7,l.a8,O,R,S,sP,aCJ]<;>rfl)|rfl
 rintro⟨k,v,H0⟩ ⟨W,N⟩;simp only at W N ⊢;simp only[go_sem,GB,Bi,jG];by_cases hlt:k<f.ayO.length
 ·have e:(k:Int)<(f.ayO.length:Nat):=Om;have Z:(f.ayO.map gI.cells)[k]?=some (f.ayO[k]).cells:=by simp[hlt]
  have B:=wK (f.ayO.map gI.name) (k:=k) (by simpa using hlt);rw[aCW] at B;simp only[go_sem,e,Bj,Z];refine aP fun o Y=>?_;simp only[go_sem,Bk];refine nF N Y (sB (by simp; omega)) fun v' H' x A=>?_;rw[B] at x;have j:=sO f.ayO (oW f) hlt;have fin:∀ (c:Bool) (u:PF),c=(w&&jD f.ayO (oW f) (k+1))→((((jG f E I J M v' c).set 195 (.sl 2 (f.ayO.map gI.cells))).set 196 (.int .i64 (f.ayO.length:Nat))).set 197 (.int .i64 (k+1:Nat))).le u →
    jU (fun (t:Nat × PV × PH)=>(((jG f E I J M t.2.1 (w&&jD f.ayO (oW f) t.1)).set 195 (.sl 2 (f.ayO.map gI.cells))).set 196 (.int .i64 (f.ayO.length:Nat))).set 197 (.int .i64 t.1)) (fun (t:Nat × PV × PH)=>t.2.2)  (fun (t:Nat × PV × PH)=>t.1≤f.ayO.length∧bY t.2.2 1 t.2.1 (fF ((f.ayO.map gI.name).take t.1))) (fun (t:Nat × PV × PH)=>f.ayO.length-t.1) (f.ayO.length-k) K .normal u H':=by
   intro c u V y;refine aL (α:=Nat × PV × PH) (k+1,v',H') ⟨hlt,x⟩ (by simp only; omega) ?_ b_;rw[V] at y;exact y
  unfold jG at fin;rw[j,← Bool.and_assoc] at fin;have X:oW f f.ayO[k]=within (f.ayO[k]).ayZ 0 ((f.ayQ.length:Int)-1):=rfl;cases hb:(w&&jD f.ayO (oW f) k) with
  | false =>rw[hb,aAR] at fin;simp only[go_sem,UV,A,UW,wZz k];refine fin false _ rfl ?_;exact Lq
  | true =>rw[hb,aBB,X] at fin;simp only[go_sem,UV,A,aAA,BB (Om:f.ayQ.length≤1000)];refine aB (L.inn _ 0 _) Ev ?_;simp only[go_sem,UW,wZz k];refine fin _ _ rfl ?_;exact Lq
 ·have e:¬ (k:Int)<(f.ayO.length:Nat):=Om;have:k=f.ayO.length:=Om;subst this;rw[aAQ (by simp)] at N;rw[vT];simp only[go_sem,e];exact U v _ _ ⟨by simp only[go_sem],by simp only[go_sem],by simp only[go_sem],by simp only[go_sem],by simp only[go_sem],by simp only[go_sem],by simp only[go_sem]⟩ N
theorem nO {f:aC} (h:¬ (f.ayU.length≤4∧f.ayN.length≤4∧f.ayP.length≤40∧f.ayM.length≤24∧f.ayQ.length≤4∧f.ayO.length≤12)):pO f=false:=by
 rw[← Bool.not_eq_true];intro e;simp only[pO,aAO,decide_eq_true_eq] at e;omega
theorem J8 {f:aC} (h:f.ayU.length≤4∧f.ayN.length≤4∧f.ayP.length≤40∧f.ayM.length≤24∧f.ayQ.length≤4∧f.ayO.length≤12):pO f=within f.azS 1 4:=by
 obtain⟨e,j,l,u,h5,w⟩:=h;simp[pO,e,j,l,u,h5,w]
theorem oH {t:Nat} {n m:Int} {F:PF} {H:PH} (h:F t=some (.int .i64 n)) (e:n=m):aT [.tmp t] (cL (.int .i64 m)) .ret F H:=by
 subst e;exact aV (.inr rfl) .nil (vs:=[.int .i64 n]) (by rw[kP,nM,h,oS]) a_ ⟨.refl _,rfl⟩
def wW (f:aC):Int:=if cV f then 0 else 1
theorem fj {f:aC} (h:cV f=false):wW f=1:=by rw[wW,h]; rfl
theorem tU {C:Ctx} {F:PF} {H:PH} {name t s:Nat} {v r:PV} {rows:List (List PV)} {d:Option Nat} {K:PF→PH→Prop} (h:aG C name [.sl s rows] .nil (aM r)) (x:bY H s v rows) (l:F t=some v)
  (j:∀ (e:PF) (w:PH),(∀ i u,F i=some u→Pure u→e i=some u)→K (e.put d r) w):fU C name [.tmp t] [] d K F H:=by
 rcases x with ⟨rfl,rfl⟩ | ⟨q,rs,rfl,h1,h2,h3⟩
 ·refine aB (h.Vc (.inl ⟨rfl,rfl⟩)) (by rw[nZ,vZ,l,yG]) ?_;exact j F H fun i u hi _=>hi
 ·rw[← h3] at h;refine qG (k:=rows.length) h l h1 h2 (j _ _ fun i u hi y=>?_);rw[kF,hi,aBJ,y q s rs]
theorem Seen.pure {s:Nat} {v:PV} {rows:List (List PV)} (h:Seen s v rows):Pure v:=by
 rcases h with ⟨_,rfl⟩ | rfl
 ·exact fun _ _ _=>rfl
 ·exact fun _ _ _=>rfl
def bI (b:Bool):Int:=if b then 0 else 1
abbrev QF (f:aC):List (List UInt8):=(f.ayP.drop 1).map cP.name++f.ayM.map cZ.name
def vP (f:aC):Bool:=distinct (f.ayU.map cT.name)&&distinct (f.ayN.map dD.name)&&distinct (QF f)&&distinct (f.ayQ.map cC.name)&&distinct (f.ayO.map gI.name)
structure Small (f:aC):Prop where
 ayU:f.ayU.length≤4
 ayN:f.ayN.length≤4
 ayP:f.ayP.length≤40
 ayM:f.ayM.length≤24
 ayQ:f.ayQ.length≤4
 ayO:f.ayO.length≤12
theorem AR {C:Ctx} (L:kT C) {v:PV} {l:List (List UInt8)} (h:Seen 1 v (fF l)) (e:l.length≤1000):aG C 110 [v] .nil (aM (.bool (distinct l))) :=
 (L.uniq l (Om:l.length≤9223372036854775807)).Vc h
theorem adF {C:Ctx} (L:kT C) (f:aC) (J:Small f) (j l u w x:PV) (ok:Bool) (F:PF) (H:PH) (e:kX F f j l u w x ok)
  (A:Seen 1 j (fF (f.ayU.map cT.name))) (B:Seen 1 l (fF (f.ayN.map dD.name))) (h5:Seen 1 u (fF (QF f))) (E:Seen 1 w (fF (f.ayQ.map cC.name))) (h7:bY H 1 x (fF (f.ayO.map gI.name))) :
  aE.wp C (.seq (.seq (.region zJ) (.cond (.tmp 243) (.seq (.region oG) .ret) .skip)) (.seq (.region GC) .ret)) (aT [.tmp 2] (cL (.int .i64 (bI (ok&&vP f))))) F H:=by
 obtain⟨s1,s2,s3,s4,Z,s6⟩:=J;have K:(f.ayU.map cT.name).length≤1000:=by simp; omega
 have M:(f.ayN.map dD.name).length≤1000:=by simp; omega
 have N:(QF f).length≤1000:=by simp; omega
 have O:(f.ayQ.map cC.name).length≤1000:=by simp; omega
 have R:(f.ayO.map gI.name).length≤9223372036854775807:=by simp; omega
 cases ok with
 | false =>simp only[go_sem,zJ,e.a8,oG];exact oH rfl rfl
 | true =>
  simp only[go_sem,zJ,e.a8,e.a3];refine aB (AR L A K) rfl ?_;unfold vP;cases U:distinct (f.ayU.map cT.name) with
  | false =>simp only[go_sem,oG,aBF];exact oH rfl rfl
  | true =>
   simp only[go_sem,e.a4,aAS];refine aB (AR L B M) rfl ?_;cases V:distinct (f.ayN.map dD.name) with
   | false =>simp only[go_sem,oG,aBF];exact oH rfl rfl
   | true =>
    simp only[go_sem,e.a5,aAS];refine aB (AR L h5 N) rfl ?_;cases W:distinct (QF f) with
    | false =>simp only[go_sem,oG,aBF];exact oH rfl rfl
    | true =>
     simp only[go_sem,e.a6,aAS];refine aB (AR L E O) rfl ?_;cases X:distinct (f.ayQ.map cC.name) with
     | false =>simp only[go_sem,oG,aBF];exact oH rfl rfl
     | true =>
      simp only[go_sem,e.a7,aAS];refine tU (L.uniq _ R) h7 rfl fun y S I=>?_;have g:y 239=some (.bool false):=I 239 _ rfl fun _ _ _=>rfl;cases Y:distinct (f.ayO.map gI.name) with
      | false =>simp only[go_sem,oG,aBF,g];exact oH rfl rfl
      | true =>simp only[go_sem,GC,aAS,g];exact oH rfl rfl
abbrev kh (b:Bool):cK:=aT [.tmp 2] (cL (.int .i64 (bI b)))
def uw:aE:=.seq (.seq (.region UU) (.block 10 (.loop GB))) (.seq (.seq (.region zJ) (.cond (.tmp 243) (.seq (.region oG) .ret) .skip)) (.seq (.region GC) .ret))
def uv:aE:=.seq (.seq (.region UR) (.block 8 (.loop GA))) uw
def uu:aE:=.seq (.seq (.region UP) (.block 6 (.loop FZ))) uv
def ut:aE:=.seq (.seq (.region UO) (.block 4 (.loop FY))) uu
def uq:aE:=.seq (.seq (.region UM) (.block 2 (.loop FX))) ut
def V0:aE:=.seq (.seq (.region ir) (.block 0 (.loop FW))) uq
theorem alH {C:Ctx} (L:kT C) (f:aC) (y:Small f) (u w x K:PV) (ok:Bool) (F:PF) (H:PH) (l:kX F f u w x K .aA ok)
  (E:Seen 1 u (fF (f.ayU.map cT.name))) (I:Seen 1 w (fF (f.ayN.map dD.name))) (h5:Seen 1 x (fF (QF f))) (R:bY H 1 K (fF (f.ayQ.map cC.name))) :
  aE.wp C uw (kh (ok&&f.ayO.all (oW f)&&vP f)) F H:=by
 unfold uw;simp only[go_sem,UU,l.a1,aAA];refine qH R fun J B N O U j=>?_;refine Tv L f y.ayO y.ayQ ok u w x J _ N O ⟨j 1 _ (by simp only[go_sem,l.a1]) fun _ _ _=>rfl,j 3 _ (by simp only[go_sem,l.a3]) E.pure,j 4 _ (by simp only[go_sem,l.a4]) I.pure,j 5 _ (by simp only[go_sem,l.a5]) h5.pure,U 6 (by simp only[go_sem,l.a6]),j 7 _ (by simp only[go_sem,l.a7]) fun _ _ _=>rfl,j 8 _ (by simp only[go_sem,l.a8]) fun _ _ _=>rfl⟩
  (j 195 _ rfl fun _ _ _=>rfl) (j 196 _ rfl fun _ _ _=>rfl) (j 197 _ rfl fun _ _ _=>rfl) fun v M H' A S=>?_
 have e:=adF L f y u w x J v _ M H' A E I h5 B S;simp only[aE.wp,go_sem] at e;simp only[go_sem];exact e
theorem alG {C:Ctx} (L:kT C) (f:aC) (O:f.Ok) (w:Small f) (l u I:PV) (ok:Bool) (F:PF) (H:PH) (j:kX F f l u I .aA .aA ok)
  (A:Seen 1 l (fF (f.ayU.map cT.name))) (B:Seen 1 u (fF (f.ayN.map dD.name))) (h5:bY H 1 I (fF (QF f))) :
  aE.wp C uv (kh (ok&&f.ayQ.all (jL f.ayN.length)&&f.ayO.all (oW f)&&vP f)) F H:=by
 unfold uv;simp only[go_sem,UR,j.a1,aAA];refine qH h5 fun E y K M R e=>?_;refine Tu L f O w.ayQ w.ayN ok l u E .aA _ K M ⟨e 1 _ (by simp only[go_sem,j.a1]) fun _ _ _=>rfl,e 3 _ (by simp only[go_sem,j.a3]) A.pure,e 4 _ (by simp only[go_sem,j.a4]) B.pure,R 5 (by simp only[go_sem,j.a5]),e 6 _ (by simp only[go_sem,j.a6]) fun _ _ _=>rfl,e 7 _ (by simp only[go_sem,j.a7]) fun _ _ _=>rfl,e 8 _ (by simp only[go_sem,j.a8]) fun _ _ _=>rfl⟩
  (e 174 _ rfl fun _ _ _=>rfl) (e 175 _ rfl fun _ _ _=>rfl) (e 176 _ rfl fun _ _ _=>rfl) fun v J H' x N=>?_
 simp only[go_sem];exact alH L f w l u E v _ J H' x A B y N
theorem alF {C:Ctx} (L:kT C) (f:aC) (I:f.Ok) (j:Small f) (l u x:PV) (ok:Bool) (F:PF) (H:PH) (e:kX F f l u x .aA .aA ok)
  (A:Seen 1 l (fF (f.ayU.map cT.name))) (B:Seen 1 u (fF (f.ayN.map dD.name))) (h5:bY H 1 x (fF ((f.ayP.drop 1).map cP.name))) :
  aE.wp C uu (kh (ok&&f.ayM.all (kV f)&&f.ayQ.all (jL f.ayN.length)&&f.ayO.all (oW f)&&vP f)) F H:=by
 unfold uu;simp only[go_sem,UP,e.a1,aAA];refine Tt L f ((f.ayP.drop 1).map cP.name) (by have:=j.ayP; simp; omega) j.ayM j.ayN j.ayP ok l u x .aA .aA _ _ H ⟨by simp only[go_sem,e.a1],by simp only[go_sem,e.a3],by simp only[go_sem,e.a4],by simp only[go_sem,e.a5],by simp only[go_sem,e.a6],by simp only[go_sem,e.a7],by simp only[go_sem,e.a8]⟩ h5
  rfl rfl rfl fun v y H' w E=>?_
 simp only[go_sem];exact alG L f I j l u v _ y H' w A B E
theorem alE {C:Ctx} (L:kT C) (f:aC) (R:f.Ok) (B:Small f) (V:0<f.ayP.length) (u I:PV) (ok:Bool) (F:PF) (H:PH) (j:kX F f u I .aA .aA .aA ok)
  (A:Seen 1 u (fF (f.ayU.map cT.name))) (N:bY H 1 I (fF (f.ayN.map dD.name))) :
  aE.wp C ut (kh (ok&&f.ayM.all (kV f)&&f.ayQ.all (jL f.ayN.length)&&f.ayO.all (oW f)&&vP f)) F H:=by
 unfold ut;have w:(1:Int)≤(f.ayP.length:Nat):=Om;have S:=B.ayP;have l:((f.ayP.map cP.cells).take f.ayP.length).drop 1=(f.ayP.drop 1).map cP.cells:=by rw[aAQ (by simp),List.map_drop]
 simp only[go_sem,UO,j.a1,aAA,w,aDK,l];refine qH N fun E y K M U e=>?_;refine Ts L f (f.ayP.drop 1) (by simp; omega) ok u E .aA .aA _ K M ⟨e 1 _ (by simp only[go_sem,j.a1]) fun _ _ _=>rfl,e 3 _ (by simp only[go_sem,j.a3]) A.pure,U 4 (by simp only[go_sem,j.a4]),e 5 _ (by simp only[go_sem,j.a5]) fun _ _ _=>rfl,e 6 _ (by simp only[go_sem,j.a6]) fun _ _ _=>rfl,e 7 _ (by simp only[go_sem,j.a7]) fun _ _ _=>rfl,e 8 _ (by simp only[go_sem,j.a8]) fun _ _ _=>rfl⟩
  (e 119 _ rfl fun _ _ _=>rfl) (e 120 _ rfl fun _ _ _=>rfl) (e 121 _ rfl fun _ _ _=>rfl) fun v J H' x O=>?_
 simp only[go_sem];exact alF L f R B u E v _ J H' x A y O
theorem alD {C:Ctx} (L:kT C) (f:aC) (M:f.Ok) (l:Small f) (K:0<f.ayP.length) (y:PV) (ok:Bool) (F:PF) (H:PH) (j:kX F f y .aA .aA .aA .aA ok)
  (I:bY H 1 y (fF (f.ayU.map cT.name))) :
  aE.wp C uq (kh (ok&&f.ayN.all (mT f)&&f.ayM.all (kV f)&&f.ayQ.all (jL f.ayN.length)&&f.ayO.all (oW f)&&vP f)) F H:=by
 unfold uq;simp only[go_sem,UM,j.a1,aAA];refine qH I fun x w B E N e=>?_;refine Tr L f l.ayN l.ayU ok x .aA .aA .aA _ B E ⟨e 1 _ (by simp only[go_sem,j.a1]) fun _ _ _=>rfl,N 3 (by simp only[go_sem,j.a3]),e 4 _ (by simp only[go_sem,j.a4]) fun _ _ _=>rfl,e 5 _ (by simp only[go_sem,j.a5]) fun _ _ _=>rfl,e 6 _ (by simp only[go_sem,j.a6]) fun _ _ _=>rfl,e 7 _ (by simp only[go_sem,j.a7]) fun _ _ _=>rfl,e 8 _ (by simp only[go_sem,j.a8]) fun _ _ _=>rfl⟩
  (e 85 _ rfl fun _ _ _=>rfl) (e 86 _ rfl fun _ _ _=>rfl) (e 87 _ rfl fun _ _ _=>rfl) fun v A H' u J=>?_
 simp only[go_sem];exact alE L f M l K x v _ A H' u w J
theorem alC {C:Ctx} (L:kT C) (f:aC) (l:f.Ok) (u:Small f) (y:0<f.ayP.length) (F:PF) (H:PH) (e:kX F f .aA .aA .aA .aA .aA true) :
  aE.wp C V0 (kh (f.ayU.all rF&&f.ayN.all (mT f)&&f.ayM.all (kV f)&&f.ayQ.all (jL f.ayN.length)&&f.ayO.all (oW f)&&vP f)) F H:=by
 unfold V0;simp only[go_sem,ir,e.a1,aAA];refine Tq L f l u.ayU .aA .aA .aA .aA _ _ H ⟨by simp only[go_sem,e.a1],by simp only[go_sem,e.a3],by simp only[go_sem,e.a4],by simp only[go_sem,e.a5],by simp only[go_sem,e.a6],by simp only[go_sem,e.a7],by simp only[go_sem,e.a8]⟩ rfl rfl rfl fun v w H' j x=>?_;simp only[go_sem];exact alD L f l u y v _ w H' j x
theorem alA {C:Ctx} (L:kT C) (f:aC) (J:f.Ok):LS.wp C (aT adE.res (cL (.int .i64 (wW f)))) (PF.args [.agg f.cells]) .nil:=by
 have he:cV f=(pO f&&oX f&&(f.ayU.all rF&&f.ayN.all (mT f)&&f.ayM.all (kV f)&&f.ayQ.all (jL f.ayN.length)&&f.ayO.all (oW f))&&vP f):=rfl;simp only[go_sem,LS,Nr,Ns,adE];refine aB (L.inn f.azS 1 4) rfl ?_;have j:∀ (F:PF) (H:PH),cV f=false→F 2=some (.int .i64 1)→aT [.tmp 2] (cL (.int .i64 (wW f))) .ret F H:=fun F H N O=>oH O (fj N).symm;cases I:within f.azS 1 4 with
 | false =>
  have:pO f=false:=by simp[pO,I]
  simp only[go_sem,aBF,pW];exact j _ _ (by rw[he,this]; simp only[aAR]) rfl
 | true =>
  by_cases s1:f.ayU.length≤4
  ·have l:¬ (f.ayU.length:Int)>4:=Om;by_cases s2:f.ayN.length≤4
   ·have u:¬ (f.ayN.length:Int)>4:=Om;by_cases s3:f.ayP.length≤40
    ·have w:¬ (f.ayP.length:Int)>40:=Om;by_cases s4:f.ayM.length≤24
     ·have x:¬ (f.ayM.length:Int)>24:=Om;by_cases K:f.ayQ.length≤4
      ·have y:¬ (f.ayQ.length:Int)>4:=Om;by_cases M:f.ayO.length≤12
       ·have A:¬ (f.ayO.length:Int)>12:=Om;have B:=J8 ⟨s1,s2,s3,s4,K,M⟩;rw[I] at B;simp only[go_sem,aAS,aAA,l,u,w,x,y,A];refine aB (L.ayW f J) rfl ?_;cases E:oX f with
        | false =>simp only[go_sem,aBF,pW];exact j _ _ (by rw[he,E]; simp only[aBS,aAR]) rfl
        | true =>
         have R:0<f.ayP.length:=by
          rcases aCH f.ayP.length with h | h
          ·have:f.ayP=[]:=List.eq_nil_of_length_eq_zero h;rw[oX,this] at E;cases E
          ·exact h
         have U:wW f=bI (f.ayU.all rF&&f.ayN.all (mT f)&&f.ayM.all (kV f)&&f.ayQ.all (jL f.ayN.length)&&f.ayO.all (oW f)&&vP f):=by rw[wW,he,B,E]; rfl
         rw[U];simp only[go_sem,aAS,Nt,Nu];have e:=fun F H S=>alC L f J ⟨s1,s2,s3,s4,K,M⟩ R F H S;simp only[V0,uq,ut,uu,uv,uw,aE.wp,go_sem] at e;exact e _ _ ⟨by simp only[go_sem],by simp only[go_sem],by simp only[go_sem],by simp only[go_sem],by simp only[go_sem],by simp only[go_sem],by simp only[go_sem]⟩
       ·have A:(f.ayO.length:Int)>12:=Om;simp only[go_sem,aAS,aAA,l,u,w,x,y,A,pW];exact j _ _ (by rw[he,nO Om]; simp only[aAR]) rfl
      ·have y:(f.ayQ.length:Int)>4:=Om;simp only[go_sem,aAS,aAA,l,u,w,x,y,pW];exact j _ _ (by rw[he,nO Om]; simp only[aAR]) rfl
     ·have x:(f.ayM.length:Int)>24:=Om;simp only[go_sem,aAS,aAA,l,u,w,x,pW];exact j _ _ (by rw[he,nO Om]; simp only[aAR]) rfl
    ·have w:(f.ayP.length:Int)>40:=Om;simp only[go_sem,aAS,aAA,l,u,w,pW];exact j _ _ (by rw[he,nO Om]; simp only[aAR]) rfl
   ·have u:(f.ayN.length:Int)>4:=Om;simp only[go_sem,aAS,aAA,l,u,pW];exact j _ _ (by rw[he,nO Om]; simp only[aAR]) rfl
  ·have l:(f.ayU.length:Int)>4:=Om;simp only[go_sem,aAS,aAA,l,pW];exact j _ _ (by rw[he,nO Om]; simp only[aAR]) rfl
def lvl (f:aC) (i:Nat):Int:=(f.ayP.map cP.level).getD i 0
def par (f:aC) (i:Nat):Int:=(f.ayP.map cP.parent).getD i 0
def fX (f:aC) (i:Nat):Nat:=(par f i).toNat
def eW (f:aC) (d:Nat):Nat:=((f.ayM.map cZ.machine).getD d 0).toNat
def mdl (f:aC) (d:Nat):Nat:=((f.ayM.map cZ.model).getD d 0).toNat
def ext (f:aC) (d:Nat):Int:=(f.ayN.map dD.azD).getD (mdl f d) 0
def uL (f:aC) (v:Nat):Nat:=((f.ayO.map gI.ayZ).getD v 0).toNat
def aiK:cC:=⟨[],0,0,0,0,0,0,0,0,[],[],⟨false,[],[]⟩,⟨false,[],[]⟩⟩
def cR (f:aC) (v:Nat):cC:=f.ayQ.getD (uL f v) aiK
def upN (f:aC):Nat→Nat→Nat
 | 0,i=>i
 | k+1,i=>fX f (upN f k i)
theorem getD_at {α β:Type} {l:List α} {g:α→β} {i:Nat} {b:β} (h:i<l.length):(l.map g).getD i b=g l[i]:=by
 simp[aAL,h]
structure VF (f:aC):Prop where
 small:Small f
 root:0<f.ayP.length∧lvl f 0=0∧par f 0=-1
 dom:∀ i,0<i→i<f.ayP.length→0≤par f i∧fX f i<i∧lvl f (fX f i)=lvl f i-1∧1≤lvl f i∧lvl f i≤4
 drive:∀ d (h:d<f.ayM.length),0≤(f.ayM[d]).model∧mdl f d<f.ayN.length∧0≤(f.ayM[d]).machine∧eW f d<f.ayP.length∧lvl f (eW f d)=4
 ayZ:∀ p∈f.ayQ,1≤p.k∧p.k≤6∧0≤p.m∧p.m≤4∧p.k+p.m≤8∧p.s0=0∧(∀ l,0≤p.spread l∧p.spread l≤8)∧∀ m∈p.ayN,0≤m∧m<f.ayN.length
 volume:∀ v (h:v<f.ayO.length),0≤(f.ayO[v]).ayZ∧uL f v<f.ayQ.length
 model:∀ m∈f.ayN,1≤m.azD∧m.azD≤16
theorem Qs {p:cC} {n:Nat} (h:jL n p=true):∀ m∈p.ayN,0≤m∧m<n:=by
 intro m j;simp only[jL,aAO] at h;obtain⟨i,hi,rfl⟩:=aBZ j;have:=aBK.1 h.2 i (aAU.2 hi);rw[aAO] at this;have e:=within_iff.1 this.1;simp only[aAL,aAH hi,aCU] at e;omega
theorem fx {x:Int} (e:1≤x) (j:x≤4):IntKind.i64.wrap (x-1)=x-1:=wrap_i64 Om Om
theorem VF.of {f:aC} (h:cV f=true):VF f:=by
 simp only[cV,aAO] at h;obtain⟨⟨⟨U,j⟩,⟨⟨⟨R,A⟩,y⟩,B⟩,E⟩,-⟩:=h;simp only[pO,aAO,decide_eq_true_eq] at U;obtain⟨⟨⟨⟨⟨⟨s0,s1⟩,s2⟩,s3⟩,s4⟩,s5⟩,s6⟩:=U;cases e:f.ayP with
 | nil=>rw[oX,e] at j; cases j
 | cons r t =>
  rw[oX,e] at j;simp only[PN,aAO,decide_eq_true_eq] at j;obtain⟨⟨⟨⟨⟨⟨r1,r2⟩,r3⟩,r4⟩,r5⟩,r6⟩,x⟩:=j;have S:f.ayP.length=t.length+1:=by rw[e]; rfl
  refine⟨⟨s1,s2,s3,s4,s5,s6⟩,⟨by omega,by rw[lvl,e]; exact r2,by rw[par,e]; exact r3⟩,?_,?_,?_,?_,?_⟩
  ·intro i h0 hi;obtain⟨k,rfl⟩:∃ k,i=k+1:=⟨i-1,by omega⟩;have I:k<t.length:=Om;have:=aBK.1 x k (aAU.2 I);rw[aAH I] at this;simp only[TL,aAO,decide_eq_true_eq] at this;obtain⟨⟨⟨⟨J,F⟩,K⟩,d4⟩,d5⟩:=this;obtain⟨p0,p1⟩:=within_iff.1 J;obtain⟨W,X⟩:=within_iff.1 K;have u:par f (k+1)=(t[k]).parent:=by rw[par,e]; simp[aAL,I]
   have w:lvl f (k+1)=(t[k]).level:=by rw[lvl,e]; simp[aAL,I]
   rw[fx W X] at F;have Y:lvl f (t[k]).parent.toNat=(t[k]).level-1:=F;refine⟨by rw[u]; exact p0,?_,?_,by rw[w]; exact W,by rw[w]; exact X⟩
   ·rw[fX,u]; omega
   ·rw[fX,u,w]; exact Y
  ·intro d j;have:=aBK.1 y _ (aAG j);simp only[kV,aAO,decide_eq_true_eq] at this;obtain⟨⟨J,F⟩,K⟩:=this;have a1:=within_iff.1 J;have a2:=within_iff.1 F;have u:mdl f d=(f.ayM[d]).model.toNat:=by rw[mdl,getD_at j]
   have w:eW f d=(f.ayM[d]).machine.toNat:=by rw[eW,getD_at j]
   refine⟨a1.1,by rw[u]; omega,a2.1,by rw[w]; omega,by rw[w]; exact K⟩
  ·intro p hp;have M:=aBK.1 B p hp;have Z:=Qs M;simp only[jL,NH,aAO,decide_eq_true_eq,List.all_cons,List.all_nil,aCJ] at M;obtain⟨⟨⟨⟨⟨⟨⟨⟨k1,m1⟩,km⟩,q1⟩,z0⟩,sp⟩,-⟩,-⟩,-⟩:=M;obtain⟨g0,g1,g2,g3,g4⟩:=sp;have N:=within_iff.1 k1;have O:=within_iff.1 m1;have b3:=within_iff.1 g0;have b4:=within_iff.1 g1;have b5:=within_iff.1 g2;have b6:=within_iff.1 g3;have b7:=within_iff.1 g4;refine⟨N.1,N.2,O.1,O.2,km,z0,fun l=>?_,Z⟩;unfold cC.spread;split<;>omega
  ·intro v V;have:=aBK.1 E _ (aAG V);have a1:=within_iff.1 this;have u:uL f v=(f.ayO[v]).ayZ.toNat:=by rw[uL,getD_at V]
   exact⟨a1.1,by rw[u]; omega⟩
  ·intro m hm;have:=aBK.1 A m hm;simp only[mT,aAO] at this;exact within_iff.1 this.1.1
theorem fe {f:aC} (h:VF f) {d:Nat} (j:d<f.ayM.length):∀ {k:Nat},k≤4→upN f k (eW f d)<f.ayP.length∧lvl f (upN f k (eW f d))=4-(k:Int)
 | 0,_=>⟨(h.drive d j).2.2.2.1,by rw[upN,(h.drive d j).2.2.2.2]; rfl⟩
 | k+1,y=>by
  obtain⟨w,u⟩:=fe h j (k:=k) Om;have l:0<upN f k (eW f d):=by
   rcases aCH (upN f k (eW f d)) with e | e
   ·rw[e,h.root.2.1] at u; omega
   ·exact e
  obtain⟨g1,g2,g3,g4,x⟩:=h.dom _ l w;refine⟨by rw[upN]; omega,?_⟩;rw[upN,g3,u]; omega
def jX (f:aC) (d:Nat) (level:Int):Nat:=upN f (4-level.toNat) (eW f d)
def oE (f:aC) (v:Nat):Int:=(cR f v).k+(cR f v).m
def rt:Rg:=[iA 1 (.box true (Tm 0)),iT 2 false]
def ru:Rg:=[iO 3 7 1,iK 4 96 3,iC 5 .eql 4 0,iM 2 5]
def CN:aE:=(sq rt (sq ru .ret))
def Z2:List Nat:=[1]
def Hg:bB:=⟨1,6,CN,[.tmp 2]⟩
def G2:Rg:=[iA 2 (.box true (Tm 0)),iI 4 0]
def G3:Rd:=[(iF 6 5 2,false),(iL 7 6,false),(iF 8 6 2,false),(iL 9 8,false),(iM 10 1,false),(iX 11 2 9 10,false),(iF 12 1 11,false),(iL 13 12,false),(iX 14 17 7 13,false),(iO 15 17 14,false),(iA 5 (.alloc [(.str []),zI,zI,zI,zI,zI,zI,zI,zI,.aA,.aA,zB,.aA,.aA,zB,.aA,.aA]),true),(iS 17 5 15,true)]
def G4:Rg:=[iF 16 1 5,iL 17 16,iF 18 2 5,iL 19 18,iB 20 .add 17 19,iM 4 20]
def IJ:aE:=(sq G2 (dq G3 (sq G4 .ret)))
def agP:List Nat:=[2]
def Vm:bB:=⟨2,21,IJ,[.tmp 4]⟩
def G6:Rg:=[iA 2 (.box true (Tm 0)),iZ 4]
def G7:Rg:=[iO 7 7 2,iK 8 161 7,iA 9 (.un .not (Tm 8))]
def G8:Rg:=[iZ 4]
def G9:Rg:=[iF 10 4 2,iL 11 10,iN 12 11,iA 13 (.ayV 1 8 [zI] (Tm 12) (Tm 12)),iM 5 13]
def Ha:Rg:=[iM 14 5,iN 15 14,iI 16 0]
def Hb:Rg:=[iB 17 .lss 16 15]
def Hc:Rg:=[iM 18 16,iM 6 18]
def Hd:Rd:=[(iM 19 5,false),(iM 20 6,false),(iF 21 2 2,false),(iL 22 21,false),(iF 23 4 2,false),(iL 24 23,false),(iM 25 6,false),(iX 26 3 24 25,false),(iF 27 1 26,false),(iL 28 27,false),(iX 29 4 22 28,false),(iF 30 1 29,false),(iL 31 30,false),(iX 32 1 19 20,false),(iS 1 32 31,true)]
def He:Rg:=[iM 33 1,iN 34 33,iM 35 5,iN 36 35,iB 37 .eql 34 36]
def Hf:Rd:=[(iM 38 5,false),(iM 39 6,false),(iM 40 1,false),(iM 41 6,false),(iX 42 1 40 41,false),(iL 43 42,false),(iA 44 (.azI true (Tm 43) (Ci 0)),false),(iM 45 5,false),(iM 46 6,false),(iX 47 1 45 46,false),(iL 48 47,false),(iA 49 (.azI false (Tm 44) (Tm 48)),false),(iX 50 1 38 39,false),(iS 1 50 49,true)]
def OD:Rg:=[iC 51 .add 16 1,iM 16 51]
def rk:aE:=(sq Hb (.seq (.cond (Tm 17) .skip (.exit 0)) (.seq (.block 1 (sq Hc (dq Hd (sq He (.cond (Tm 37) (.draw Hf) .skip))))) (.region OD))))
def rp:Rg:=[iM 52 5,iM 4 52]
def IK:aE:=(sq G6 (.seq (sq G7 (.cond (Tm 9) (sq G8 .ret) .skip)) (sq G9 (.seq (sq Ha (.block 0 (.loop rk))) (sq rp .ret)))))
def agT:List Nat:=[2]
def QQ:bB:=⟨2,53,IK,[.tmp 4]⟩
theorem Z1 {C:Ctx} (h:∀ f:aC,f.Ok→aG C 96 [.agg f.cells] .nil (aM (.int .i64 (wW f)))) (f:aC) (e:f.Ok) :
  CN.wp C (aT Hg.res (cL (.bool (cV f)))) (PF.args [.agg f.cells]) .nil:=by
 simp only[go_sem,CN,rt,ru,Hg];refine aB (h f e) Ev ?_;simp only[go_sem];refine aX Ev ?_;unfold wW;cases cV f<;>rfl
theorem kr {f:aC} {d:Nat} (h:d<f.ayM.length):(f.ayM.map cZ.cells)[d]?=some (f.ayM[d]).cells:=by simp[h]
theorem So {f:aC} {d:Nat} (h:d<f.ayP.length):(f.ayP.map cP.cells)[d]?=some (f.ayP[d]).cells:=by simp[h]
theorem JE {f:aC} {d:Nat} (h:d<f.ayO.length):(f.ayO.map gI.cells)[d]?=some (f.ayO[d]).cells:=by simp[h]
theorem CL {f:aC} {d:Nat} (h:d<f.ayQ.length):(f.ayQ.map cC.cells)[d]?=some (f.ayQ[d]).cells:=by simp[h]
theorem Yh {f:aC} {d:Nat} (h:d<f.ayN.length):(f.ayN.map dD.cells)[d]?=some (f.ayN[d]).cells:=by simp[h]
theorem apP {f:aC} {d:Nat} (h:d<f.ayP.length):(f.ayP[d]).level=lvl f d:=by rw[lvl,getD_at h]
theorem apX {f:aC} {d:Nat} (h:d<f.ayP.length):(f.ayP[d]).parent=par f d:=by rw[par,getD_at h]
theorem VF.alQ {f:aC} (h:VF f) {d:Nat} (e:d<f.ayM.length):(f.ayM[d]).machine=((eW f d:Nat):Int):=by
 have:=(h.drive d e).2.2.1;rw[eW,getD_at e]; omega
theorem VF.Yb {f:aC} (h:VF f) {d:Nat} (e:d<f.ayM.length):(f.ayM[d]).model=((mdl f d:Nat):Int):=by
 have:=(h.drive d e).1;rw[mdl,getD_at e]; omega
theorem VF.F9 {f:aC} (h:VF f) {v:Nat} (e:v<f.ayO.length):(f.ayO[v]).ayZ=((uL f v:Nat):Int):=by
 have:=(h.volume v e).1;rw[uL,getD_at e]; omega
theorem VF.anC {f:aC} (h:VF f) {i:Nat} (e:0<i) (hi:i<f.ayP.length):par f i=((fX f i:Nat):Int):=by
 have:=(h.dom i e hi).1;rw[fX]; omega
theorem pM {f:aC} (h:VF f) {v:Nat} (j:v<f.ayO.length):∃ e:uL f v<f.ayQ.length,f.ayQ[uL f v]=cR f v:=by
 have e:=(h.volume v j).2;exact⟨e,by simp[cR,aAL,e]⟩
theorem agO {C:Ctx} (f:aC) (j:VF f) (v:Nat) (h:v<f.ayO.length) :
  IJ.wp C (aT Vm.res (cL (.int .i64 (oE f v)))) (PF.args [.agg f.cells,.int .i64 v]) .nil:=by
 obtain⟨l,he⟩:=pM j h;have e:=j.ayZ _ (aAG l);rw[he] at e;have u:IntKind.i64.wrap ((cR f v).k+(cR f v).m)=(cR f v).k+(cR f v).m:=wrap_i64 Om Om;simp only[go_sem,IJ,G2,Vm];refine bN .nil dC a_ ?_;simp only[go_sem,G3,JE h,j.F9 h,CL l,he];refine aP fun o w=>?_;simp only[go_sem,G4,u];refine⟨a_,?_⟩;exact oH (n:=(cR f v).k+(cR f v).m) Ev rfl
structure aiA (C:Ctx):Prop where
 valid:∀ f:aC,f.Ok→aG C 161 [.agg f.cells] .nil (aM (.bool (cV f)))
 apG:∀ (f:aC) (v:Nat),VF f→v<f.ayO.length→aG C 156 [.agg f.cells,.int .i64 v] .nil (aM (.int .i64 (oE f v)))
def pick (n:Nat) (p:Nat→Bool):List Int:=((aAB n).filter p).map fun (i:Nat)=>(i:Int)
theorem eU (l:List Int):(bT l).length=l.length:=by unfold bT; rw[aAA]
section
variable (o s:Nat) (rs:List (List PV))
@[go_sem] theorem avQ (k:IntKind) (n:Int):PV.frz o s rs (.int k n)=.int k n:=(rfl)
@[go_sem] theorem atY (b:Bool):PV.frz o s rs (.bool b)=.bool b:=(rfl)
@[go_sem] theorem avU (l:List UInt8):PV.frz o s rs (.str l)=.str l:=(rfl)
@[go_sem] theorem atZ:PV.frz o s rs .aA=.aA:=(rfl)
@[go_sem] theorem awW (n:Nat) (r:List (List PV)):PV.frz o s rs (.sl n r)=.sl n r:=(rfl)
@[go_sem] theorem auA (c:List PV):PV.frz o s rs (.dH c)=.dH c:=(rfl)
@[go_sem] theorem avT (q z i c:Nat):PV.frz o s rs (.ptr q z i c)=.ptr q z i c:=(rfl)
@[go_sem] theorem awV (n:Nat) (c:List PV):PV.frz o s rs (.fn n c)=.fn n c:=(rfl)
@[go_sem] theorem avR (q:Nat):PV.frz o s rs (.map q)=.map q:=(rfl)
@[go_sem] theorem avS (q z e len:Nat):PV.frz o s rs (.osl q z e len)=if q=o then (if z=s∧e+len≤rs.length then .sl s ((rs.drop e).take len) else .junk) else .osl q z e len:=(rfl)
end
def mN (s:Nat) (rows:List (List PV)) (r:PV) (H:PH):Prop :=
 (rows=[]∧r=.aA∧H=PH.nil)∨∃ q rs,r=.osl q s 0 rows.length∧H=PH.nil.set q (.rows s rs)∧rows.length≤rs.length∧rs.take rows.length=rows
theorem ii (q s:Nat) (rs:List (List PV)):(PH.nil.set q (.rows s rs)).frz q s rs=PH.nil:=PH.ext fun o=>by
 rw[uG];by_cases e:o=q
 ·rw[if_pos e]; rfl
 ·rw[if_neg e,aQ,if_neg e]; rfl
section
variable {C:Ctx} {K:cK} {F:PF} {H:PH} {s:Nat} {v:PV} {rows:List (List PV)}
theorem mN.over {r:PV} {H':PH} (h:mN s rows r H') (u:kJ H .nil H'):bY (H.over .nil H') s r rows∧∀ o x,H o=some x→(H.over .nil H') o=some x:=by
 rcases h with ⟨e,l,rfl⟩ | ⟨q,rs,e,rfl,h3,h4⟩
 ·rw[PH.jK]; exact⟨.inl ⟨e,l⟩,fun o x h=>h⟩
 ·rw[PH.nL];have hq:H q=none:=u q (.rows s rs) (by simp only[aQ,if_true]) rfl;refine⟨.inr ⟨q,rs,e,by simp only[aQ,if_true],h3,h4⟩,fun o x j=>?_⟩;have:o≠q:=by rintro rfl; rw[hq] at j; cases j
  simp only[aQ,if_neg this,j]
theorem HY {t:Nat} {e:kC} (he:e=.normal∨e=.ret) (h:bY H s v rows) (j:F t=some v):aT [.tmp t] (mN s rows) e F H:=by
 rcases h with ⟨rfl,rfl⟩ | ⟨q,rs,rfl,h1,h2,h3⟩
 ·exact aV (vs:=[.aA]) he .nil (by rw[kP,nM,j,oS]) a_ (.inl ⟨rfl,rfl,rfl⟩)
 ·exact aV (vs:=[.osl q s 0 rows.length]) he (PH.nil.set q (.rows s rs)) (by rw[kP,nM,j,oS]) (e_ a_ h1) (.inr ⟨q,rs,rfl,rfl,h2,h3⟩)
theorem DZ {t:Nat} {e:kC} (he:e=.normal∨e=.ret) (j:F t=some .aA):aT [.tmp t] (mN s []) e F H:=HY he .nil j
theorem Zl {t:Nat} {e:kC} {r:PV} {H':PH} (he:e=.normal∨e=.ret) (h:mN s rows r H') (l:F t=some r):aT [.tmp t] (mN s rows) e F (H.over .nil H'):=by
 refine aV (vs:=[r]) he H' (by rw[kP,nM,l,oS]) (fun o x j=>?_) h;rw[oP,j]
theorem aG.freeze {name:Nat} {args:List PV} (h:aG C name args H (mN s rows)):aG C name args H (aM (.sl s rows)) :=
 ⟨h.1,fun E w vs J hW x=>(h.2 E w vs J hW x).mono fun e R he=>by
  obtain⟨u,pv,B,H',rfl,j,A,y,M⟩:=he;rcases M with ⟨rfl,rfl,rfl⟩ | ⟨q,rs,rfl,rfl,h3,h4⟩
  ·exact⟨u,_,B,_,rfl,j,(Co.nil s).sound A,y,rfl,rfl⟩
  ·have N:iU (PF.nil.set 0 (.osl q s 0 rows.length)) (PH.nil.set q (.rows s rs)) _ _:=.step q (s:=s) (rs:=rs) (by simp only[aQ,if_true]) (.refl _ _);obtain⟨I,k1,k2,O⟩:=N.sound j;have l:=O (fun _=>u) (fun i p hi=>by
    rw[mF] at hi;split at hi
    ·cases hi; exact A
    ·cases hi) 0 (.sl s rows) (by rw[kF,mF,if_pos rfl,aBJ,rT h3,h4])
   rw[ii] at k1 k2;exact⟨u,_,I,_,rfl,k1,l,y.trans k2,rfl,rfl⟩⟩
theorem eO.of:∀ {E:Env} (ps:List PV) (vs:List Value),vs.length=ps.length→(∀ (i:Nat) p v,ps[i]?=some p→vs[i]?=some v→aR E p v)→eO E ps vs
 | _,[],[],_,_=>.nil
 | _,[],_::_,h,_=>by simp at h
 | _,_::_,[],h,_=>by simp at h
 | _,p::ps,v::vs,h,k=>.cons (k 0 p v rfl rfl) (eO.of ps vs (by simpa using h) fun i q u a b=>k (i+1) q u (by simpa using a) (by simpa using b))
theorem bK.same {E:Env} {w y:World} (hW:bK E H w) (J:w.heap.size≤y.heap.size) (hb:∀ b,b<w.heap.size→H b=none→y.heap[b]?=w.heap[b]?) (I:∀ o x,H o=some x→y.heap[o]?=w.heap[o]?):bK E H y:=by
 have l:∀ b,b<w.heap.size→y.heap[b]?=w.heap[b]?:=fun b hlt=>by
  cases e:H b with
  | none=>exact hb b hlt e
  | some x=>exact I b x e
 refine⟨fun b cs h=>?_,fun o x h=>?_,fun o n h=>?_⟩
 ·obtain⟨j,ty,B,u⟩:=hW.g b cs h;exact⟨j,ty,B,(l b (aDZ.1 u).1).trans u⟩
 ·obtain⟨j,u⟩:=hW.h o x h;exact⟨Nat.lt_of_lt_of_le j J,u.mono (.refl E) (l o j)⟩
 ·obtain⟨A,ty,B,j,u⟩:=hW.s o n h;exact⟨A,ty,B,(l o (aDZ.1 j).1).trans j,u⟩
inductive Plain:PV→Prop
 | int (k:IntKind) (n:Int):Plain (.int k n)
 | bool (b:Bool):Plain (.bool b)
 | str (l:List UInt8):Plain (.str l)
theorem Plain.rep {v:PV} (h:Plain v) {E e:Env} {u:Value} (r:aR E v u):aR e v u:=by
 cases h<;>cases r
 ·exact .int _ _
 ·exact .bool _
 ·exact .str _
theorem aG.avW {name o:Nat} {rs:List (List PV)} {args:List PV} (X:Plain v) (h:aG C name (args.map (PV.frz o s rs)) .nil (aM v)) :
  aG C name args (PH.nil.set o (.rows s rs)) (fun r H'=>r=v∧H'=PH.nil.set o (.rows s rs)):=by
 refine⟨h.1,fun E w vs O hW I=>?_⟩;have Y:iU (PF.args args) (PH.nil.set o (.rows s rs)) _ _:=.step o (s:=s) (rs:=rs) (by simp only[aQ,if_true]) (.refl _ _);obtain⟨M,k1,k2,Z⟩:=Y.sound hW;rw[ii] at k1 k2;have B:=I.len;have J:eO M (args.map (PV.frz o s rs)) vs.toList:=by
  refine eO.of _ _ (by rw[aAA]; exact B) fun i p u U W=>?_;have:=Z (fun i=>(vs.toList[i]?).getD undef) (fun j q N=>by have S:=(aBD.1 N).1;have A:j<vs.toList.length:=Om;simp only[aAH A,aCU];exact I.at_ j q _ N (aAH A)) i p (by rw[kF,args_at,← aAT]; exact U)
  simp only[W,aCU] at this;exact this
 refine (h.2 M w vs (k2.env.num.trans O) k1 J).mono fun e w' he=>?_;obtain⟨u,pv,E2,H2,rfl,R,V,y,rfl,rfl⟩:=he;have l:∀ b,b<w.heap.size→w'.heap[b]?=w.heap[b]?:=fun b hb=>y.block b hb rfl;refine⟨u,pv,E,_,rfl,hW.same y.size (fun b hb _=>l b hb) (fun q x hq=>l q (hW.h q x hq).1),X.rep V,⟨.refl E,y.os,y.tape,y.output,y.size,fun b hb _=>l b hb,fun q x hq=>.inl ⟨x,hq⟩,fun b cs hb=>.inl hb⟩,rfl,rfl⟩
theorem abK {Hs:PH} {S:Spec} {name o:Nat} {rs:List (List PV)} {vs:List PV} {R:PH→PV→PH→Prop} {args:List aN} {st:Bool} {d:Option Nat} {K:PF→PH→Prop} (u:S name vs=some ([o],R)) (A:Plain v) (y:H o=some (.rows s rs))
  (h:aG C name (vs.map (PV.frz o s rs)) .nil (aM v)) (e:R (PH.nil.set o (.rows s rs)) v (PH.nil.set o (.rows s rs))) (j:∀ r H',R (PH.nil.set o (.rows s rs)) r H'→r=v∧H'=PH.nil.set o (.rows s rs)) (w:aN.evs F args=some vs) (l:Hs.le H) (x:K (F.put d v) H) :
  dOp C Hs S st (.call name args) d K F H:=ER u y (h.avW A) e j w l x
theorem t6 {name t:Nat} {R:PV→PH→Prop} {d:Option Nat} {K:PF→PH→Prop} (h:aG C name [.sl s rows] .nil R) (x:bY H s v rows) (w:F t=some v)
  (l:∀ (e:PF) (j:PH),(∀ i u,F i=some u→Pure u→e i=some u)→∀ r H',R r H'→kJ j .nil H'→K (e.put d r) (j.over .nil H')):fU C name [.tmp t] [] d K F H:=by
 rcases x with ⟨rfl,rfl⟩ | ⟨q,rs,rfl,h1,h2,h3⟩
 ·exact .inl ⟨[.aA],.nil,R,by rw[nZ,vZ,w,yG]; rfl,a_,h.Vc (.inl ⟨rfl,rfl⟩),l F H fun i u hi _=>hi⟩
 ·refine .inr ⟨_,_,.step q h1 (.refl _ _),[.sl s rows],.nil,R,?_,a_,h,l _ _ fun i u hi y=>?_⟩
  ·simp only[nZ,yG,vZ,kF,w,aBJ,rT h2,h3,aBU]
  ·rw[kF,hi,aBJ,y q s rs]
end
def nI (A:List Int) (k:Nat):List Int:=A.take k++aAC (A.length-k) 0
theorem Jn (A:List Int):nI A 0=aAC A.length 0:=by simp[nI]
theorem Sv (A:List Int):nI A A.length=A:=by simp[nI]
theorem ti (A:List Int) {k:Nat} (h:k≤A.length):(nI A k).length=A.length:=by simp[nI]; omega
theorem Sw (A:List Int) {k:Nat} (h:k<A.length):(nI A k).set k A[k]=nI A (k+1):=by
 unfold nI;rw[aDQ _ _ (by simp; omega),aAN,aCF Om,Nat.sub_self,show A.length-k=(A.length-(k+1))+1 by omega,List.replicate_succ,aDX,
  aCM h,aBE]
 rfl
theorem AG (l:List Int) (i:Nat) (x:Int):(bT l).set i [.int .i64 x]=bT (l.set i x):=by unfold bT; rw[aDL]
theorem Jv (n:Nat):aAC n [PV.int .i64 0]=bT (aAC n 0):=by simp[bT]
theorem UY {l:List Int} {i:Nat} (h:i<l.length):(bT l)[i]?=some [.int .i64 l[i]]:=by simp[bT,h]
def mD (f:aC) (room:List Int) (d:Nat):Int:=if room.length=f.ayM.length then min (max (room.getD d 0) 0) (ext f d) else ext f d
def lE (f:aC) (room:List Int):List Int:=(aAB f.ayM.length).map (mD f room)
def QO (f:aC) (room:List Int):List Int:=if cV f then lE f room else []
theorem wJ (f:aC) (room:List Int):(lE f room).length=f.ayM.length:=by simp[lE]
theorem XG (f:aC) (room:List Int) {d:Nat} (h:d<(lE f room).length):(lE f room)[d]=mD f room d:=by simp[lE]
theorem VF.W2 {f:aC} (h:VF f) {d:Nat} (j:d<f.ayM.length):∃ e:mdl f d<f.ayN.length,(f.ayN[mdl f d]).azD=ext f d:=by
 have e:=(h.drive d j).2.1;exact⟨e,by rw[ext,getD_at e]⟩
def trF (f:aC) (room:List Int) (o k:Nat):PF:=(((((PF.nil.set 1 (ints room)).set 2 (.dH f.cells)).set 5 (.osl o 1 0 f.ayM.length)).set 15 (.int .i64 (f.ayM.length:Nat))).set 16 (.int .i64 k))
theorem alW (a b:Int):(if b<a then b else a)=min a b:=by
 rw[Int.min_def];by_cases h:b<a
 ·rw[if_pos h,if_neg Om]
 ·rw[if_neg h,if_pos Om]
theorem agS {C:Ctx} (L:aiA C) (f:aC) (N:f.Ok) (room:List Int) :
  IK.wp C (aT QQ.res (mN 1 (bT (QO f room)))) (PF.args [.agg f.cells,ints room]) .nil:=by
 simp only[go_sem,IK,G6,G7,QQ];refine aB (L.valid f N) Ev ?_;unfold QO;cases S:cV f with
 | false =>simp only[go_sem,aBF,G8];exact DZ (.inr rfl) Ev
 | true =>
  have hV:=VF.of S;have M:=hV.small.ayM;have F:(f.ayM.length:Int)*((8:Nat):Int)≤140737488355328:=Om;have I:(f.ayM.length:Int)≤9223372036854775807:=Om;simp only[go_sem,aAS,G9,aAA,F,I];refine aP fun o X=>?_;simp only[go_sem,Ha];have u:=wJ f room;have E:=fun d h=>XG f room (d:=d) h;generalize V:lE f room=A at *
  refine wp_loop (α:=Nat) (fun k=>trF f room o k) (fun k=>PH.nil.set o (.rows 1 (bT (nI A k)))) (fun k=>k≤f.ayM.length) (fun k=>f.ayM.length-k) 0 (aAP _) ?_ ?_ ?_
  ·unfold trF;exact Lq
  ·refine e_ a_ ?_;simp only[go_sem];rw[Jn,u,Jv]
  intro k W;simp only[go_sem,rk,Hb,trF];by_cases hlt:k<f.ayM.length
  ·have e:(k:Int)<(f.ayM.length:Nat):=Om;obtain⟨R,he⟩:=hV.W2 hlt;have O:=ti A (k:=k) Om;have w:k<A.length:=Om;have U:=UY (l:=nI A k) (i:=k) Om;have j:=Sw A w;rw[E k w] at j;simp only[go_sem,e,Hc];refine bN .nil dC a_ ?_;simp only[go_sem,Hd,kr hlt,hV.Yb hlt,Yh R,he,e,aAX,U];refine⟨a_,?_⟩;simp only[go_sem,He,aAA];by_cases c:room.length=f.ayM.length
   ·have y:((room.length:Int)==(f.ayM.length:Int))=true:=bO Om;have x:k<room.length:=Om;have J:(room.map fun n=>[PV.int .i64 n])[k]?=some [.int .i64 room[k]]:=by simp[x]
    simp only[go_sem,y];refine bN .nil dC a_ ?_;have K:(bT ((nI A k).set k (ext f k)))[k]?=some [.int .i64 (ext f k)]:=by rw[← AG,List.getElem?_set_self (by rw[eU]; omega)]
    simp only[go_sem,Hf,J,e,aAX,K,max_eq,alW,List.set_set,AG];refine⟨a_,?_⟩;simp only[go_sem,OD,wZz k];refine aL (k+1) hlt Om ?_ ?_
    ·exact Lq
    ·refine e_ a_ ?_;rw[← j,mD,if_pos c,aAL,aAH x,aCU];simp only[go_sem]
   ·have y:((room.length:Int)==(f.ayM.length:Int))=false:=bC Om;simp only[go_sem,y,OD,wZz k,AG];refine aL (k+1) hlt Om ?_ ?_
    ·exact Lq
    ·refine e_ a_ ?_;rw[← j,mD,if_neg c];simp only[go_sem]
  ·have e:¬ (k:Int)<(f.ayM.length:Nat):=Om;have:k=f.ayM.length:=Om;subst this;simp only[go_sem,e,rp];have B:nI A f.ayM.length=A:=by rw[← u,Sv]
   rw[B];exact HY (.inr rfl) (v:=.osl o 1 0 f.ayM.length) (.inr ⟨o,bT A,by rw[eU,u],by simp only[go_sem],aAF _,aAQ (aAF _)⟩) Sq
def vx (n:Nat) (xs:List Int):List Int:=(aAB n).map fun (d:Nat)=>((xs.count (d:Int):Nat):Int)
def B7 (f:aC) (l:List (List Int)):List Int:=vx f.ayM.length l.flatten
structure arO (l:List (List Int)):Prop where
 rows:l.length≤16777216
 all:l.flatten.length≤16777216
theorem W9 (l:List (List Int)) {i:Nat} (h:i<l.length):(l.take (i+1)).flatten=(l.take i).flatten++l[i]:=by
 rw[aCM h,List.flatten_append];simp only[List.flatten_cons,List.flatten_nil,aBU]
structure EJ where
 kind:Int
 vol:Int
 wher:Int
abbrev EJ.cells (x:EJ):List PV:=[.int .i64 x.kind,.int .i64 x.vol,.int .i64 x.wher]
def EY (p:Int→Bool):List Int→Nat→Option Nat
 | [],_=>none
 | x::t,i=>if p x then some i else EY p t (i+1)
def apA (f:aC) (d:Int):Bool:=decide (d < -1)||decide (d≥(f.ayM.length:Nat))
def Gs (f:aC) (l:List (List Int)) (v:Nat):Option EJ :=
 if ((l.getD v []).length:Int)=oE f v then (EY (apA f) (l.getD v []) 0).map fun (i:Nat)=>⟨1,v,i⟩ else some ⟨1,v,((l.getD v []).length:Nat)⟩
section
variable {C:Ctx} {F:PF} {H:PH}
theorem bY.ne {s s':Nat} {v:PV} {rows:List (List PV)} {o:Nat} {y:List (List PV)} (h:bY H s v rows) (w:H o=some (.rows s' y)) (x:s≠s'):∀ l,v≠.osl o s 0 l:=by
 intro l e;rcases h with ⟨_,j⟩ | ⟨q,rs,h1,j,_⟩
 ·rw[j] at e; cases e
 ·rw[h1] at e;injection e with u
  subst u;rw[w] at j;injection j with j
  injection j with j
  exact x j.symm
theorem bY.set {s s':Nat} {v:PV} {rows:List (List PV)} {o:Nat} {y:List (List PV)} {x:bF} (h:bY H s v rows) (u:H o=some (.rows s' y)) (w:s≠s'):bY (H.set o x) s v rows:=by
 have l:=h.ne u w;rcases h with ⟨e,j⟩ | ⟨q,rs,e,j,h3,h4⟩
 ·exact .inl ⟨e,j⟩
 ·refine .inr ⟨q,rs,e,?_,h3,h4⟩;have:q≠o:=by rintro rfl; exact l _ e
  simp only[aQ,if_neg this,j]
def Dis (s:Nat) (v u:PV):Prop:=∀ q l e j,v=.osl q s 0 l→u=.osl e s 0 j→q≠e
theorem Dis.nil {s:Nat}:Dis s .aA .aA:=fun _ _ _ _ h=>by cases h
theorem Dis.symm {s:Nat} {v u:PV} (h:Dis s v u):Dis s u v:=fun q l x w e j=>(h x w q l j e).symm
end
def uU (kind v:Int) (n:Nat) (p:Nat→Bool):List EJ:=((aAB n).filter p).map fun (i:Nat)=>⟨kind,v,i⟩
def GD (f:aC) (i:Nat) (d:Int):Bool:=decide (0≤d)&&decide (jX f d.toNat (lvl f i)=i)
def gx (f:aC) (xs:List Int) (i:Nat):Int:=if i=0 then 0 else ((xs.countP (GD f i):Nat):Int)
def Sn (f:aC) (xs:List Int):List Int:=(aAB f.ayP.length).map (gx f xs)
theorem VF.m6 {f:aC} (h:VF f) {i:Nat} (hi:i<f.ayP.length):0≤lvl f i∧lvl f i≤4∧(lvl f i=0↔i=0):=by
 rcases aCH i with e | e
 ·subst e; rw[h.root.2.1]; simp
 ·have:=h.dom i e hi;omega
structure Obs where
 o5:Nat
 o7:Nat
 o8:Nat
 oD:Nat
 oB:Nat
structure Obs.Ne (o:Obs):Prop where
 a1:o.o5≠o.oD
 a2:o.o5≠o.oB
 a3:o.o7≠o.oD
 a4:o.o7≠o.oB
 a5:o.o8≠o.oD
 a6:o.o8≠o.oB
 a7:o.oD≠o.oB
structure aaU (H:PH) (o:Obs) (v:Nat) (p:cC) (A:List Bool) (D B:List Int):Prop where
 h5:H o.o5=some (.rows 1 [[.int .i64 v]])
 h7:H o.o7=some (.rows 17 [p.cells])
 h8:H o.o8=some (.rows 1 (bD A))
 hD:H o.oD=some (.rows 1 (bT D))
 hB:H o.oB=some (.rows 1 (bT B))
theorem aaU.keep {H H':PH} {o:Obs} {v:Nat} {p:cC} {A:List Bool} {D B:List Int} (h:aaU H o v p A D B) (e:∀ q s' z,3≠s'→H q=some (.rows s' z)→H' q=some (.rows s' z)):aaU H' o v p A D B :=
 ⟨e _ _ _ (by decide) h.h5,e _ _ _ (by decide) h.h7,e _ _ _ (by decide) h.h8,e _ _ _ (by decide) h.hD,e _ _ _ (by decide) h.hB⟩
def home (row:List Int) (i:Nat):Bool:=decide (row.getD i 0<0)
def da (f:aC) (p:cC) (row:List Int) (i:Nat):Bool:=decide (0≤row.getD i 0)&&!p.ayN.contains ((mdl f (row.getD i 0).toNat:Nat):Int)
def aiN (f:aC) (row:List Int) (d:Nat):Bool:=decide ((vx f.ayM.length row).getD d 0>1)
def eM (f:aC) (p:cC) (i:Nat):Int:=p.spread (lvl f i).toNat
def aiF (f:aC) (p:cC) (row:List Int) (i:Nat):Bool:=decide (eM f p i>0)&&decide ((Sn f row).getD i 0>eM f p i)
def OT (f:aC) (p:cC) (v:Nat) (row:List Int):List EJ :=
 uU 2 v row.length (home row)++uU 3 v f.ayM.length (aiN f row)++uU 4 v row.length (da f p row)++uU 5 v f.ayP.length (aiF f p row)
theorem vu (n:Nat):aAC n [PV.bool false]=bD (marks n []):=by rw[na]; simp[bD]
def afR (f:aC) (l:List (List Int)) (v:Nat):List EJ:=match Gs f l v with
 | some x=>[x]
 | none=>OT f (cR f v) v (l.getD v [])
def Sx (f:aC) (l:List (List Int)) (n:Nat):List EJ:=(aAB n).flatMap (afR f l)
def over (f:aC) (l:List (List Int)) (room:List Int) (d:Nat):Bool:=decide ((B7 f l).getD d 0>(lE f room).getD d 0)
def aiO (f:aC) (l:List (List Int)) (room:List Int):List EJ:=Sx f l l.length++uU 6 (-1) f.ayM.length (over f l room)
def V3 (f:aC) (l:List (List Int)) (room:List Int):List EJ :=
 if cV f then (if l.length=f.ayO.length then aiO f l room else [⟨1,-1,(l.length:Nat)⟩]) else []
def wD (f:aC) (l:List (List Int)) (room:List Int):Bool:=cV f&&decide ((V3 f l room).length=0)
def Ou:Rg:=[iA 2 (.mv (.const (.lit (.pointer none))))]
def Ov:Rg:=[iM 3 0,iN 4 3,iC 5 .gtr 4 400]
def Ow:Rg:=[iM 6 0,iA 7 (.slice 1 (Tm 6) none (some (Ci 400)) none),iM 0 7]
def ja:Rg:=[iM 8 0,iA 9 (.append 1 1 (.const .aA) (Tm 8)),iA 10 (.build [.aA,zI] [(0,1,(Tm 9))]),iA 11 (.box false (Tm 10)),iM 2 11]
def MH:aE:=(sq Ou (.seq (sq Ov (.cond (Tm 5) (.region Ow) .skip)) (sq ja .ret)))
def amA:List Nat:=[]
def aeP:bB:=⟨1,12,MH,[.tmp 2]⟩
def VZ:Rg:=[iI 4 0]
def HH:Rd:=[(iM 5 0,false),(iA 6 (.azA (Tm 5)),false),(iF 7 1 6,false),(iL 8 7,false),(iM 9 0,false),(iA 10 (.azA (Tm 9)),false),(iF 11 0 10,false),(iL 12 11,false),(iN 13 12,false),(iB 14 .geq 8 13,false),(iM 15 14,false),(gM 16 1 15 false,false),(gC 17 .lss 16 2 15 false,false),(iQ 18 15 17,false)]
def WA:Rg:=[iI 4 0]
def Dm:Rg:=[iM 19 0,iA 20 (.azA (Tm 19)),iF 21 1 20,iL 22 21,iC 23 .add 22 1,iA 24 (.azA (Tm 19)),iF 25 1 24,iS 1 25 23]
def Dn:Rd:=[(iM 26 0,false),(iA 27 (.azA (Tm 26)),false),(iF 28 0 27,false),(iL 29 28,false),(iM 30 0,false),(iA 31 (.azA (Tm 30)),false),(iF 32 1 31,false),(iL 33 32,false),(iC 34 .sub 33 1,false),(iX 35 1 29 34,false),(iL 36 35,false),(iA 37 (.conv .i64 (Tm 36)),false),(iM 38 1,false),(iB 39 .rem 37 38,false),(iM 4 39,false)]
def xM:aE:=(sq VZ (.seq (dq HH (.cond (Tm 18) (sq WA .ret) .skip)) (sq Dm (dq Dn .ret))))
def aeR:List Nat:=[]
def uo:bB:=⟨2,40,xM,[.tmp 4]⟩
def Cy:Rg:=[iA 2 (.alloc [zB,.aA,.aA])]
def Cz:Rg:=[iM 6 0,iA 7 (.call 4 [(Tm 6),(Ci 6)]),iA 8 (.bin .add (Ci 1) (Tm 7)),iM 9 0,iA 10 (.call 4 [(Tm 9),(Ci 8)]),iA 11 (.bin .add (Ci 1) (Tm 10)),iK2 12 50 8 11,iM 5 12,iE 13 5 0,iE 14 5 1,iA 3 (.alloc [zB,.aA,.aA]),iS 3 3 13,iM 4 14]
def C0:Rg:=[iO 15 3 3,iS 3 2 15]
def HC:aE:=(sq Cy (sq Cz (sq C0 .ret)))
def aeG:List Nat:=[]
def T7:bB:=⟨1,16,HC,[.cell 2 (some 3)]⟩
def Oj:Rg:=[iA 4 (.alloc [(.str []),.aA,.aA,.aA])]
def Ol:Rg:=[iM 16 0,iM 17 1,iK2 18 4 16 17,iA 19 (.bin .add (Ci 1) (Tm 18)),iM 5 19]
def On:Rg:=[iA 6 (.alloc [(.str []),.aA,.aA,.aA])]
def Oo:Rg:=[iI 7 8]
def Oq:Rg:=[iI 8 0]
def Ot:Rg:=[iM 20 8,iM 21 5,iB 22 .lss 20 21]
def i7:Rg:=[iM 25 7,iM 9 25]
def i8:Rg:=[iM 26 8,iC 27 .add 26 1,iM 28 5,iB 29 .lss 27 28]
def i9:Rg:=[iM 30 0,iM 31 7,iC 32 .add 31 1,iK2 33 4 30 32,iM 9 33]
def QE:Rg:=[iM 34 7,iM 35 9,iB 36 .sub 34 35,iM 7 36]
def VO:Rg:=[iM 38 9,iA 39 (.call 50 [(Tm 38),(Ci 8)]),iM 37 39,iE 40 37 0,iE 41 37 1,iA 10 (.alloc [zB,.aA,.aA]),iS 3 10 40,iM 11 41]
def VP:Rg:=[iF 42 1 6,iL 43 42,iO 44 3 10,iA 45 (.ayS true 3 1 [zB,.aA,.aA] [(0,(Tm 44))]),iA 46 (.append 3 56 (Tm 43) (Tm 45)),iF 47 1 6,iS 1 47 46]
def VQ:Rg:=[iM 48 0,iK 49 1 48,iA 12 (.alloc [zB,.aA,.aA]),iS 3 12 49]
def VR:Rg:=[iM 50 8,iC 51 .add 50 1,iM 52 5,iB 53 .lss 51 52,iM 54 53,gM 55 0 54 true,iG 56 (.call 4 [(Tm 55),(Ci 3)]) 54 true,gC 57 .eql 56 0 54 true,iP 58 54 57]
def VS:Rg:=[iA 59 (.call 47 [(Ci 0)]),iS 3 12 59]
def HF:Rg:=[iF 60 3 6,iL 61 60,iO 62 3 12,iA 63 (.ayS true 3 1 [zB,.aA,.aA] [(0,(Tm 62))]),iA 64 (.append 3 56 (Tm 61) (Tm 63)),iF 65 3 6,iS 1 65 64]
def VT:Rg:=[iZ 13]
def VU:Rg:=[iI 14 0]
def Df:Rg:=[iM 66 14,iM 67 5,iB 68 .lss 66 67]
def Dg:Rg:=[iA 71 (.call 47 [(Ci 0)]),iA 15 (.alloc [zB,.aA,.aA]),iS 3 15 71]
def Dh:Rg:=[iM 72 14,iM 73 8,iC 74 .add 73 1,iB 75 .eql 72 74,iM 76 75,gM 77 14 76 false,gM 78 8 76 false,gB 79 .neq 77 78 76 false,gM 80 79 76 false,gM 81 0 80 true,iG 82 (.call 4 [(Tm 81),(Ci 3)]) 80 true,gC 83 .eql 82 0 80 true,iG 84 (.pick (Tm 80) (Tm 83) (.const zB)) 76 false,iQ 85 76 84]
def VV:Rg:=[iM 86 0,iK 87 1 86,iS 3 15 87]
def VW:Rg:=[iM 88 13,iO 89 3 15,iA 90 (.ayS true 3 1 [zB,.aA,.aA] [(0,(Tm 89))]),iA 91 (.append 3 56 (Tm 88) (Tm 90)),iM 13 91]
def VX:Rg:=[iM 69 14,iC 70 .add 69 1,iM 14 70]
def HE:aE:=(.seq (sq Df (.cond (Tm 68) .skip (.exit 2))) (.seq (.block 3 (sq Dg (.seq (sq Dh (.cond (Tm 85) (.region VV) .skip)) (.region VW)))) (.region VX)))
def VY:Rg:=[iF 92 2 6,iL 93 92,iM 94 13,iA 95 (.ayS true 1 1 [.aA] [(0,(Tm 94))]),iA 96 (.append 1 24 (Tm 93) (Tm 95)),iF 97 2 6,iS 1 97 96]
def Di:Rg:=[iM 23 8,iC 24 .add 23 1,iM 8 24]
def De:aE:=(.seq (sq Ot (.cond (Tm 22) .skip (.exit 0))) (.seq (.block 1 (sq i7 (.seq (sq i8 (.cond (Tm 29) (.region i9) .skip)) (sq QE (sq VO (sq VP (sq VQ (.seq (sq VR (.cond (Tm 58) (.region VS) .skip)) (sq HF (sq VT (.seq (sq VU (.block 2 (.loop HE))) (.region VY)))))))))))) (.region Di)))
def Dj:Rg:=[iO 98 4 6,iS 4 4 98]
def MG:aE:=(sq Oj (sq Ol (sq On (sq Oo (.seq (sq Oq (.block 0 (.loop De))) (sq Dj .ret))))))
def alY:List Nat:=[45,63,90,95]
def aeL:bB:=⟨2,99,MG,[.cell 4 (some 4)]⟩
def Oy:Rg:=[iZ 4]
def Oz:Rg:=[iZ 5]
def O0:Rg:=[iI 6 0]
def O1:Rg:=[iM 7 6,iM 8 1,iA 9 (.azI true (Tm 8) (Ci 1)),iB 10 .lss 7 9]
def O2:Rg:=[iM 13 5,iM 14 0,iK 15 1 14,iA 16 (.ayS true 3 1 [zB,.aA,.aA] [(0,(Tm 15))]),iA 17 (.append 3 56 (Tm 13) (Tm 16)),iM 5 17]
def O3:Rg:=[iM 11 6,iC 12 .add 11 1,iM 6 12]
def Ox:aE:=(.seq (sq O1 (.cond (Tm 10) .skip (.exit 0))) (.seq (.block 1 (.region O2)) (.region O3)))
def O4:Rg:=[iM 18 5,iM 4 18]
def MI:aE:=(sq Oy (sq Oz (.seq (sq O0 (.block 0 (.loop Ox))) (sq O4 .ret))))
def amC:List Nat:=[16]
def aeU:bB:=⟨2,19,MI,[.tmp 4]⟩
def Dk:Rg:=[iA 4 (.mv (.const (.str [])))]
def Dl:Rg:=[iM 5 0,iM 6 1,iK 7 195 6,iB 8 .add 5 7,iM 4 8]
def HG:aE:=(sq Dk (sq Dl .ret))
def aeO:List Nat:=[]
def Ua:bB:=⟨2,9,HG,[.tmp 4]⟩
def C3:Rg:=[iM 12 1,iA 13 (.azA (Tm 12)),iF 14 3 13,iL 15 14,iM 16 2,iX 17 7 15 16,iF 18 1 17,iL 19 18,iC 20 .add 19 1,iM 8 20]
def C4:Rg:=[iM 21 0,iA 22 (.call 4 [(Tm 21),(Ci 2)]),iA 23 (.bin .add (Ci 1) (Tm 22)),iM 9 23]
def C5:Rg:=[iM 24 8,iC 25 .eql 24 2]
def C6:Rg:=[iI 9 1]
def HD:Rg:=[iI 10 0]
def VK:Rg:=[iM 26 10,iM 27 9,iB 28 .lss 26 27]
def VL:Rg:=[iM 31 8,iC 32 .eql 31 5]
def C7:Rg:=[iM 33 1,iA 34 (.azA (Tm 33)),iF 35 4 34,iL 36 35,iN 37 36,iM 38 3,iB 39 .lss 37 38]
def C8:Rd:=[(iM 40 1,true),(iM 41 1,true),(iA 42 (.azA (Tm 41)),true),(iF 43 4 42,true),(iL 44 43,true),(iM 45 1,false),(iA 46 (.azA (Tm 45)),false),(iF 47 4 46,false),(iL 48 47,false),(iN 49 48,false),(iA 50 (.call 29 [(.const (.str [100])),(Tm 49)]),true),(iM 51 0,true),(iM 52 1,true),(iA 53 (.azA (Tm 52)),true),(iF 54 2 53,true),(iL 55 54,true),(iN 56 55,true),(iK2 57 4 51 56,true),(iM 58 2,true),(iA 59 (.build [(.str []),zI,zI] [(0,1,(Tm 50)),(1,1,(Tm 57)),(2,1,(Tm 58))]),false),(iA 60 (.ayS true 3 1 [(.str []),zI,zI] [(0,(Tm 59))]),false),(iA 61 (.append 3 32 (Tm 44) (Tm 60)),true),(iA 62 (.azA (Tm 40)),false),(iF 63 4 62,false)]
def C9:Rd:=[(iS 1 63 61,true)]
def nw:Rg:=[iM 64 1,iA 65 (.azA (Tm 64)),iF 66 4 65,iL 67 66,iN 68 67,iM 69 3,iB 70 .geq 68 69,iM 71 70,gM 72 1 71 false,iG 73 (.azA (Tm 72)) 71 false,gF 74 3 73 71 false,gL 75 74 71 false,gN 76 75 71 false,gC 77 .geq 76 35 71 false,iQ 78 71 77]
def ny:Rd:=[(iM 79 8,false),(iA 80 (.azP (.const (.str [45,115,114,107,109])) (Tm 79)),false),(iA 81 (.ayS true 1 1 [(.int .u8 0)] [(0,(Tm 80))]),false),(iA 82 (.azB (Tm 81)),false),(iM 83 1,false),(iA 84 (.azA (Tm 83)),false),(iF 85 3 84,false),(iL 86 85,false),(iN 87 86,false),(iK2 88 29 82 87,true),(iM 89 8,true),(iM 90 2,true),(iM 91 0,true),(iA 92 (.call 4 [(Tm 91),(Ci 16)]),true),(iA 93 (.bin .add (Ci 1) (Tm 92)),true),(iA 94 (.call 47 [(Ci 0)]),true),(iA 95 (.build [(.str []),zI,zI,zI,zB,.aA,.aA] [(0,1,(Tm 88)),(1,1,(Tm 89)),(2,1,(Tm 90)),(3,1,(Tm 93)),(4,3,(Tm 94))]),false),(iA 11 (.alloc [(.str []),zI,zI,zI,zB,.aA,.aA]),true),(iS 7 11 95,true)]
def nz:Rg:=[iM 96 0,iA 97 (.call 4 [(Tm 96),(Ci 3)]),iC 98 .eql 97 0]
def n0:Rg:=[iM 100 0,iA 101 (.call 4 [(Tm 100),(Ci 6)]),iA 102 (.bin .add (Ci 2) (Tm 101)),iA 103 (.call 50 [(Ci 1),(Tm 102)]),iM 99 103,iE 104 99 0,iE 105 99 1,iF 106 4 11,iS 3 106 104]
def MD:Rd:=[(iM 107 1,true),(iM 108 1,false),(iA 109 (.azA (Tm 108)),false),(iF 110 3 109,false),(iL 111 110,false),(iO 112 7 11,false),(iA 113 (.ayS true 7 1 [(.str []),zI,zI,zI,zB,.aA,.aA] [(0,(Tm 112))]),false),(iA 114 (.append 7 96 (Tm 111) (Tm 113)),true),(iA 115 (.azA (Tm 107)),false),(iF 116 3 115,false),(iS 1 116 114,true)]
def MF:Rg:=[iM 117 0,iM 118 1,iM 119 1,iA 120 (.azA (Tm 119)),iF 121 3 120,iL 122 121,iN 123 122,iC 124 .sub 123 1,iM 125 3,iA 126 (.call 7 [(Tm 117),(Tm 118),(Tm 124),(Tm 125)])]
def wG:Rg:=[iM 29 10,iC 30 .add 29 1,iM 10 30]
def wF:aE:=(.seq (sq VK (.cond (Tm 28) .skip (.exit 0))) (.seq (.block 1 (.seq (sq VL (.cond (Tm 32) (.seq (sq C7 (.cond (Tm 39) (dq C8 (.draw C9)) .skip)) (.exit 1)) .skip)) (.seq (sq nw (.cond (Tm 78) .ret .skip)) (dq ny (.seq (sq nz (.cond (Tm 98) (.region n0) .skip)) (dq MD (.region MF))))))) (.region wG)))
def xL:aE:=(sq C3 (sq C4 (.seq (sq C5 (.cond (Tm 25) (.region C6) .skip)) (sq HD (.block 0 (.loop wF))))))
def aeH:List Nat:=[60,81,113]
def um:bB:=⟨4,127,xL,[]⟩
def nc:Rg:=[iA 6 (.alloc [zI,.aA,.aA,.aA,.aA,.aA,.aA])]
def ni:Rg:=[iM 20 0,iA 21 (.call 4 [(Tm 20),(Ci 2)]),iA 22 (.bin .add (Ci 1) (Tm 21)),iA 23 (.build [zI,.aA,.aA,.aA,.aA,.aA,.aA] [(0,1,(Tm 22))]),iA 7 (.alloc [zI,.aA,.aA,.aA,.aA,.aA,.aA]),iS 7 7 23]
def nj:Rg:=[iM 24 0,iA 25 (.call 4 [(Tm 24),(Ci 2)]),iA 26 (.bin .add (Ci 1) (Tm 25)),iM 8 26]
def nn:Rg:=[iI 9 0]
def np:Rg:=[iM 27 9,iM 28 8,iB 29 .lss 27 28]
def nr:Rg:=[iM 32 0,iA 33 (.call 2 [(Tm 32),(Ci 2)]),iA 10 (.alloc [(.str []),.aA,.aA,.aA]),iS 4 10 33]
def nt:Rg:=[iM 34 9,iA 35 (.call 29 [(.const (.str [108,97,119])),(Tm 34)]),iF 36 0 10,iS 1 36 35]
def nu:Rg:=[iF 37 1 7,iL 38 37,iO 39 4 10,iA 40 (.ayS true 4 1 [(.str []),.aA,.aA,.aA] [(0,(Tm 39))]),iA 41 (.append 4 88 (Tm 38) (Tm 40)),iF 42 1 7,iS 1 42 41]
def nv:Rg:=[iM 30 9,iC 31 .add 30 1,iM 9 31]
def MC:aE:=(.seq (sq np (.cond (Tm 29) .skip (.exit 0))) (.seq (.block 1 (sq nr (sq nt (.region nu)))) (.region nv)))
def ac:Rg:=[iM 43 0,iA 44 (.call 4 [(Tm 43),(Ci 2)]),iA 45 (.bin .add (Ci 1) (Tm 44)),iM 11 45]
def ai:Rg:=[iI 12 0]
def aj:Rg:=[iM 46 12,iM 47 11,iB 48 .lss 46 47]
def al:Rd:=[(iF 51 2 7,true),(iL 52 51,true),(iM 53 12,false),(iA 54 (.call 29 [(.const (.str [109])),(Tm 53)]),true),(iM 55 0,true),(iA 56 (.call 4 [(Tm 55),(Ci 4)]),true),(iA 57 (.bin .add (Ci 1) (Tm 56)),true),(iM 58 0,true),(iA 59 (.call 4 [(Tm 58),(Ci 8)]),true),(iA 60 (.bin .add (Ci 1) (Tm 59)),true),(iM 61 0,true),(iF 62 1 7,true),(iL 63 62,true),(iN 64 63,true),(iK2 65 4 61 64,true),(iA 66 (.build [(.str []),zI,zI,zI] [(0,1,(Tm 54)),(1,1,(Tm 57)),(2,1,(Tm 60)),(3,1,(Tm 65))]),false),(iA 67 (.ayS true 4 1 [(.str []),zI,zI,zI] [(0,(Tm 66))]),false),(iA 68 (.append 4 40 (Tm 52) (Tm 67)),true),(iF 69 2 7,false)]
def an:Rd:=[(iS 1 69 68,true)]
def ao:Rg:=[iM 49 12,iC 50 .add 49 1,iM 12 50]
def GQ:aE:=(.seq (sq aj (.cond (Tm 48) .skip (.exit 2))) (.seq (.block 3 (dq al (.draw an))) (.region ao)))
def ap:Rg:=[iA 70 (.call 47 [(Ci 0)]),iA 71 (.build [(.str []),zI,zI,zI,zB,.aA,.aA] [(2,1,(Ci (-1))),(4,3,(Tm 70))]),iA 72 (.ayS false 7 1 [(.str []),zI,zI,zI,zB,.aA,.aA] [(0,(Tm 71))]),iF 73 3 7,iS 1 73 72]
def au:Rg:=[iM 74 0,iM 75 1,iA 76 (.call 7 [(Tm 74),(Tm 7),(Ci 0),(Tm 75)])]
def av:Rg:=[iM 77 0,iA 78 (.call 4 [(Tm 77),(Ci 2)]),iA 79 (.bin .add (Ci 1) (Tm 78)),iM 13 79]
def aw:Rg:=[iI 14 0]
def ay:Rg:=[iM 80 14,iM 81 13,iB 82 .lss 80 81]
def GU:Rg:=[iM 85 14,iA 86 (.call 29 [(.const (.str [112])),(Tm 85)]),iM 87 0,iA 88 (.call 4 [(Tm 87),(Ci 2)]),iA 89 (.bin .add (Ci 1) (Tm 88)),iM 90 0,iA 91 (.call 4 [(Tm 90),(Ci 3)]),iM 92 0,iA 93 (.call 4 [(Tm 92),(Ci 4)]),iA 94 (.bin .add (Ci 1) (Tm 93)),iK 95 47 94,iA 96 (.build [(.str []),zI,zI,zI,zI,zI,zI,zI,zI,.aA,.aA,zB,.aA,.aA,zB,.aA,.aA] [(0,1,(Tm 86)),(1,1,(Tm 89)),(2,1,(Tm 91)),(14,3,(Tm 95))]),iA 15 (.alloc [(.str []),zI,zI,zI,zI,zI,zI,zI,zI,.aA,.aA,zB,.aA,.aA,zB,.aA,.aA]),iS 17 15 96]
def xG:Rd:=[(iF 97 1 15,true),(iL 98 97,true),(iM 99 0,false),(iF 100 2 15,false),(iL 101 100,false),(iC 102 .add 101 1,false),(iK2 103 4 99 102,true),(iB 104 .add 98 103,false),(iF 105 3 15,false)]
def xH:Rd:=[(iS 1 105 104,true)]
def xI:Rg:=[iM 106 0,iF 107 2 15,iL 108 107,iK2 109 5 106 108,iF 110 10 15,iS 1 110 109]
def xJ:Rg:=[iM 112 0,iA 113 (.call 4 [(Tm 112),(Ci 9)]),iA 114 (.call 50 [(Tm 113),(Ci 8)]),iM 111 114,iE 115 111 0,iE 116 111 1,iF 117 11 15,iS 3 117 115]
def GW:Rg:=[iI 16 1]
def ba:Rg:=[iM 118 16,iC 119 .lss 118 5]
def bb:Rg:=[iM 122 0,iA 123 (.call 4 [(Tm 122),(Ci 3)]),iC 124 .eql 123 0]
def bc:Rg:=[iM 125 16,iM 126 0,iA 127 (.call 4 [(Tm 126),(Ci 3)]),iA 128 (.bin .add (Ci 1) (Tm 127)),iF 129 4 15,iA 130 (.idxA 5 1 (Tm 129) (Tm 125)),iS 1 130 128]
def GX:Rg:=[iM 120 16,iC 121 .add 120 1,iM 16 121]
def xF:aE:=(.seq (sq ba (.cond (Tm 119) .skip (.exit 6))) (.seq (.block 7 (sq bb (.cond (Tm 124) (.region bc) .skip))) (.region GX)))
def GY:Rg:=[iM 131 0,iM 132 11,iK2 133 4 131 132,iM 17 133]
def GZ:Rg:=[iM 134 17,iA 135 (.ayS false 1 1 [zI] [(0,(Tm 134))]),iF 136 9 15,iS 1 136 135]
def HA:Rg:=[iM 137 11,iC 138 .gtr 137 1,iM 139 138,gM 140 0 139 true,iG 141 (.call 4 [(Tm 140),(Ci 2)]) 139 true,gC 142 .eql 141 0 139 true,iP 143 139 142]
def HB:Rg:=[iF 144 9 15,iL 145 144,iM 146 17,iA 147 (.bin .sub (Ci 1) (Tm 146)),iA 148 (.ayS true 1 1 [zI] [(0,(Tm 147))]),iA 149 (.append 1 8 (Tm 145) (Tm 148)),iF 150 9 15,iS 1 150 149]
def xK:Rg:=[iF 151 5 7,iL 152 151,iO 153 17 15,iA 154 (.ayS true 17 1 [(.str []),zI,zI,zI,zI,zI,zI,zI,zI,.aA,.aA,zB,.aA,.aA,zB,.aA,.aA] [(0,(Tm 153))]),iA 155 (.append 17 240 (Tm 152) (Tm 154)),iF 156 5 7,iS 1 156 155]
def bd:Rg:=[iM 83 14,iC 84 .add 83 1,iM 14 84]
def GR:aE:=(.seq (sq ay (.cond (Tm 82) .skip (.exit 4))) (.seq (.block 5 (sq GU (.seq (dq xG (.draw xH)) (sq xI (sq xJ (.seq (sq GW (.block 6 (.loop xF))) (sq GY (sq GZ (.seq (sq HA (.cond (Tm 143) (.region HB) .skip)) (.region xK)))))))))) (.region bd)))
def be:Rg:=[iM 157 0,iM 158 2,iC 159 .add 158 1,iK2 160 4 157 159,iM 18 160]
def bf:Rg:=[iI 19 0]
def bg:Rg:=[iM 161 19,iM 162 18,iB 163 .lss 161 162]
def bi:Rd:=[(iF 166 6 7,true),(iL 167 166,true),(iM 168 19,false),(iA 169 (.call 29 [(.const (.str [118])),(Tm 168)]),true),(iM 170 0,true),(iF 171 5 7,true),(iL 172 171,true),(iN 173 172,true),(iK2 174 4 170 173,true),(iA 175 (.build [(.str []),zI] [(0,1,(Tm 169)),(1,1,(Tm 174))]),false),(iA 176 (.ayS true 2 1 [(.str []),zI] [(0,(Tm 175))]),false),(iA 177 (.append 2 24 (Tm 167) (Tm 176)),true),(iF 178 6 7,false)]
def bj:Rd:=[(iS 1 178 177,true)]
def bk:Rg:=[iM 164 19,iC 165 .add 164 1,iM 19 165]
def GT:aE:=(.seq (sq bg (.cond (Tm 163) .skip (.exit 8))) (.seq (.block 9 (dq bi (.draw bj))) (.region bk)))
def bn:Rg:=[iO 179 7 7,iS 7 6 179]
def BP:aE:=(sq nc (sq ni (sq nj (.seq (sq nn (.block 0 (.loop MC))) (sq ac (.seq (sq ai (.block 2 (.loop GQ))) (sq ap (sq au (sq av (.seq (sq aw (.block 4 (.loop GR))) (sq be (.seq (sq bf (.block 8 (.loop GT))) (sq bn .ret)))))))))))))
def Yd:List Nat:=[40,67,148,154,176]
def Cx:bB:=⟨3,180,BP,[.cell 6 (some 7)]⟩
def m7:Rg:=[iA 6 (.alloc [zI,.aA,.aA,.aA,.aA,.aA,.aA])]
def m8:Rg:=[iM 7 0,iK 8 28 7,iM 9 1,iM 10 2,iA 11 (.call 0 [(Tm 8),(Tm 9),(Tm 10)]),iS 7 6 11]
def BO:aE:=(sq m7 (sq m8 .ret))
def X9:List Nat:=[]
def Cc:bB:=⟨3,12,BO,[.cell 6 (some 7)]⟩
def Dt:Rg:=[iA 3 (.box true (Tm 1)),iZ 4]
def Du:Rg:=[iM 7 0,iA 8 (.call 4 [(Tm 7),(Ci 4)]),iC 9 .eql 8 0]
def Dv:Rg:=[iZ 4]
def Dw:Rg:=[iZ 5]
def Dx:Rg:=[iI 6 0]
def Dy:Rg:=[iM 10 6,iF 11 4 3,iL 12 11,iN 13 12,iB 14 .lss 10 13]
def Dz:Rg:=[iM 17 5,iM 18 0,iA 19 (.call 4 [(Tm 18),(Ci 7)]),iC 20 .sub 19 1,iA 21 (.ayS true 1 1 [zI] [(0,(Tm 20))]),iA 22 (.append 1 8 (Tm 17) (Tm 21)),iM 5 22]
def D0:Rg:=[iM 15 6,iC 16 .add 15 1,iM 6 16]
def Ds:aE:=(.seq (sq Dy (.cond (Tm 14) .skip (.exit 0))) (.seq (.block 1 (.region Dz)) (.region D0)))
def D1:Rg:=[iM 23 5,iM 4 23]
def HJ:aE:=(sq Dt (.seq (sq Du (.cond (Tm 9) (sq Dv .ret) .skip)) (sq Dw (.seq (sq Dx (.block 0 (.loop Ds))) (sq D1 .ret)))))
def aeW:List Nat:=[3,21]
def Ud:bB:=⟨2,24,HJ,[.tmp 4]⟩
def Iu:Rg:=[iZ 2]
def Iv:Rg:=[iM 4 0,iN 5 4,iM 3 5]
def Iw:Rg:=[iM 6 3,iC 7 .gtr 6 0,iM 8 7,gM 9 0 8 true,gM 10 3 8 true,gC 11 .sub 10 1 8 true,iG 12 (.azE 1 (Tm 9) (Tm 11)) 8 true,gL 13 12 8 true,iG 14 (.bin .eql (Tm 13) (.const (.int .u32 0))) 8 true,iP 15 8 14]
def Ix:Rg:=[iM 16 3,iC 17 .sub 16 1,iM 3 17]
def It:aE:=(.seq (sq Iw (.cond (Tm 15) .skip (.exit 0))) (.block 1 (.region Ix)))
def XU:Rg:=[iM 18 0,iM 19 3,iA 20 (.slice 1 (Tm 18) none (some (Tm 19)) none),iA 21 (.append 1 4 (.const .aA) (Tm 20)),iM 2 21]
def JA:aE:=(sq Iu (sq Iv (.seq (.block 0 (.loop It)) (sq XU .ret))))
def ahM:List Nat:=[]
def Vz:bB:=⟨1,22,JA,[.tmp 2]⟩
def Ij:Rg:=[iZ 2]
def Ik:Rg:=[iM 3 0,iA 4 (.conv .u32 (Tm 3)),iM 5 0,iA 6 (.bin .shr (Tm 5) (.const (.int .u64 32))),iA 7 (.conv .u32 (Tm 6)),iA 8 (.ayS true 1 2 [(.int .u32 0)] [(0,(Tm 4)),(1,(Tm 7))]),iK 9 38 8,iM 2 9]
def IR:aE:=(sq Ij (sq Ik .ret))
def ahD:List Nat:=[8]
def Vv:bB:=⟨1,10,IR,[.tmp 2]⟩
def r8:Rg:=[iT 2 false]
def r9:Rg:=[iM 3 0,iK 4 38 3,iN 5 4,iC 6 .gtr 5 512,iM 2 6]
def DB:aE:=(sq r8 (sq r9 .ret))
def Z6:List Nat:=[]
def Ii:bB:=⟨1,7,DB,[.tmp 2]⟩
def Q5:Rg:=[iI 4 0]
def Q6:Rg:=[iM 6 0,iK 7 38 6,iM 8 1,iK 9 38 8,iM 0 7,iM 1 9]
def Q7:Rg:=[iM 10 0,iN 11 10,iM 12 1,iN 13 12,iB 14 .neq 11 13]
def Q8:Rg:=[iM 15 0,iN 16 15,iM 17 1,iN 18 17,iB 19 .lss 16 18]
def Q9:Rg:=[iI 4 (-1)]
def Ra:Rg:=[iI 4 1]
def Rb:Rg:=[iM 20 0,iN 21 20,iC 22 .sub 21 1,iM 5 22]
def Rc:Rg:=[iM 23 5,iC 24 .geq 23 0]
def Re:Rd:=[(iM 27 0,false),(iM 28 5,false),(iX 29 1 27 28,false),(iL 30 29,false),(iM 31 1,false),(iM 32 5,false),(iX 33 1 31 32,false),(iL 34 33,false),(iB 35 .lss 30 34,false)]
def Rf:Rg:=[iI 4 (-1)]
def Hu:Rd:=[(iM 36 0,false),(iM 37 5,false),(iX 38 1 36 37,false),(iL 39 38,false),(iM 40 1,false),(iM 41 5,false),(iX 42 1 40 41,false),(iL 43 42,false),(iB 44 .gtr 39 43,false)]
def Hv:Rg:=[iI 4 1]
def Hw:Rg:=[iM 25 5,iC 26 .sub 25 1,iM 5 26]
def Ht:aE:=(.seq (sq Rc (.cond (Tm 24) .skip (.exit 0))) (.seq (.block 1 (.seq (dq Re (.cond (Tm 35) (sq Rf .ret) .skip)) (dq Hu (.cond (Tm 44) (sq Hv .ret) .skip)))) (.region Hw)))
def Hx:Rg:=[iI 4 0]
def OE:aE:=(sq Q5 (sq Q6 (.seq (sq Q7 (.cond (Tm 14) (.seq (sq Q8 (.cond (Tm 19) (sq Q9 .ret) .skip)) (sq Ra .ret)) .skip)) (.seq (sq Rb (.block 0 (.loop Ht))) (sq Hx .ret)))))
def anT:List Nat:=[]
def agW:bB:=⟨2,45,OE,[.tmp 4]⟩
def dy:Rg:=[iZ 4,iZ 5]
def dz:Rg:=[iM 20 0,iM 21 1,iK2 22 32 20 21,iC 23 .lss 22 0]
def d6:Rg:=[iM 24 0,iK 25 38 24,iZ 4,iM 5 25]
def d7:Rg:=[iM 26 1,iN 27 26,iC 28 .eql 27 1]
def IM:Rg:=[iM 29 0,iN 30 29,iA 31 (.ayV 1 4 [(.int .u32 0)] (Tm 30) (Tm 30)),iM 6 31]
def IN:Rg:=[iA 7 (.mv (.const (.int .u64 0)))]
def IP:Rg:=[iM 32 0,iN 33 32,iC 34 .sub 33 1,iM 8 34]
def d8:Rg:=[iM 35 8,iC 36 .geq 35 0]
def d9:Rg:=[iM 39 7,iA 40 (.bin .shl (Tm 39) (.const (.int .u64 32))),iM 41 0,iM 42 8,iX 43 1 41 42,iL 44 43,iA 45 (.conv .u64 (Tm 44)),iB 46 .or 40 45,iM 9 46]
def el:Rg:=[iM 47 6,iM 48 8,iM 49 9,iM 50 1,iA 51 (.azE 1 (Tm 50) (Ci 0)),iL 52 51,iA 53 (.conv .u64 (Tm 52)),iB 54 .quo 49 53,iA 55 (.conv .u32 (Tm 54)),iX 56 1 47 48,iS 1 56 55]
def SM:Rg:=[iM 57 9,iM 58 1,iA 59 (.azE 1 (Tm 58) (Ci 0)),iL 60 59,iA 61 (.conv .u64 (Tm 60)),iB 62 .rem 57 61,iM 7 62]
def SN:Rg:=[iM 37 8,iC 38 .sub 37 1,iM 8 38]
def CO:aE:=(.seq (sq d8 (.cond (Tm 36) .skip (.exit 0))) (.seq (.block 1 (sq d9 (sq el (.region SM)))) (.region SN)))
def CP:Rg:=[iM 63 6,iK 64 38 63,iM 65 7,iK 66 35 65,iM 4 64,iM 5 66]
def SO:Rg:=[iM 67 1,iN 68 67,iA 69 (.bin .mul (Ci 32) (Tm 68)),iM 70 1,iK 71 31 70,iB 72 .sub 69 71,iM 10 72]
def SP:Rg:=[iM 73 0,iM 74 10,iK2 75 45 73 74,iA 76 (.ayS true 1 2 [(.int .u32 0)] [(0,(.const (.int .u32 0))),(1,(.const (.int .u32 0)))]),iA 77 (.append 1 4 (Tm 75) (Tm 76)),iM 78 1,iM 79 10,iK2 80 45 78 79,iM 11 77,iM 12 80]
def CQ:Rg:=[iM 81 11,iM 82 0,iM 83 10,iK2 84 45 82 83,iN 85 84,iC 86 .add 85 1,iA 87 (.slice 1 (Tm 81) none (some (Tm 86)) none),iM 11 87]
def CR:Rg:=[iM 88 12,iM 89 12,iN 90 89,iC 91 .sub 90 1,iX 92 1 88 91,iL 93 92,iA 94 (.conv .u64 (Tm 93)),iM 13 94]
def CS:Rg:=[iM 95 11,iN 96 95,iM 97 12,iN 98 97,iB 99 .sub 96 98,iA 100 (.ayV 1 4 [(.int .u32 0)] (Tm 99) (Tm 99)),iM 14 100]
def CU:Rg:=[iM 101 14,iN 102 101,iC 103 .sub 102 1,iM 15 103]
def SQ:Rg:=[iM 104 15,iC 105 .geq 104 0]
def SR:Rd:=[(iM 108 11,false),(iM 109 15,false),(iM 110 12,false),(iN 111 110,false),(iB 112 .add 109 111,false),(iX 113 1 108 112,false),(iL 114 113,false),(iA 115 (.conv .u64 (Tm 114)),false),(iA 116 (.bin .shl (Tm 115) (.const (.int .u64 32))),false),(iM 117 11,false),(iM 118 15,false),(iM 119 12,false),(iN 120 119,false),(iB 121 .add 118 120,false),(iC 122 .sub 121 1,false),(iX 123 1 117 122,false),(iL 124 123,false),(iA 125 (.conv .u64 (Tm 124)),false),(iB 126 .or 116 125,false),(iM 16 126,false)]
def SS:Rg:=[iM 127 16,iM 128 13,iB 129 .quo 127 128,iM 17 129]
def SU:Rg:=[iM 130 17,iA 131 (.bin .gtr (Tm 130) (.const (.int .u64 4294967295)))]
def SV:Rg:=[iA 17 (.mv (.const (.int .u64 4294967295)))]
def SW:Rd:=[(iM 132 12,true),(iM 133 17,false),(iK 134 35 133,true),(iK2 135 44 132 134,true),(iM 136 11,true),(iM 137 15,true),(iM 138 15,true),(iM 139 12,true),(iN 140 139,true),(iB 141 .add 138 140,true),(iC 142 .add 141 1,true),(iA 143 (.slice 1 (Tm 136) (some (Tm 137)) (some (Tm 142)) none),true),(iA 144 (.append 1 4 (.const .aA) (Tm 143)),true),(iK2 145 32 135 144,true),(iC 146 .gtr 145 0,false)]
def SX:Rg:=[iM 147 17,iA 148 (.bin .sub (Tm 147) (.const (.int .u64 1))),iM 17 148]
def vM:aE:=(.seq (dq SW (.cond (Tm 146) .skip (.exit 4))) (.block 5 (.region SX)))
def CV:Rg:=[iM 149 11,iM 150 15,iM 151 15,iM 152 12,iN 153 152,iB 154 .add 151 153,iC 155 .add 154 1,iA 156 (.slice 1 (Tm 149) (some (Tm 150)) (some (Tm 155)) none),iA 157 (.append 1 4 (.const .aA) (Tm 156)),iM 158 12,iM 159 17,iK 160 35 159,iK2 161 44 158 160,iK2 162 42 157 161,iM 18 162]
def CW:Rg:=[iI 19 0]
def SY:Rg:=[iM 163 19,iM 164 12,iN 165 164,iB 166 .leq 163 165]
def SZ:Rg:=[iM 169 11,iM 170 15,iM 171 19,iB 172 .add 170 171,iX 173 1 169 172,⟨none,.store 1 (Tm 173) (.const (.int .u32 0)),none⟩]
def TA:Rg:=[iM 174 19,iM 175 18,iN 176 175,iB 177 .lss 174 176]
def TB:Rg:=[iM 178 11,iM 179 15,iM 180 19,iB 181 .add 179 180,iM 182 18,iM 183 19,iX 184 1 182 183,iL 185 184,iX 186 1 178 181,iS 1 186 185]
def CX:Rg:=[iM 167 19,iC 168 .add 167 1,iM 19 168]
def vN:aE:=(.seq (sq SY (.cond (Tm 166) .skip (.exit 6))) (.seq (.block 7 (sq SZ (sq TA (.cond (Tm 177) (.region TB) .skip)))) (.region CX)))
def CY:Rg:=[iM 187 14,iM 188 15,iM 189 17,iA 190 (.conv .u32 (Tm 189)),iX 191 1 187 188,iS 1 191 190]
def CZ:Rg:=[iM 106 15,iC 107 .sub 106 1,iM 15 107]
def vO:aE:=(.seq (sq SQ (.cond (Tm 105) .skip (.exit 2))) (.seq (.block 3 (dq SR (sq SS (.seq (sq SU (.cond (Tm 131) (.region SV) .skip)) (.seq (.block 4 (.loop vM)) (sq CV (.seq (sq CW (.block 6 (.loop vN))) (.region CY)))))))) (.region CZ)))
def DA:Rg:=[iM 192 14,iK 193 38 192,iM 194 11,iK 195 38 194,iM 196 10,iK2 197 40 195 196,iM 4 193,iM 5 197]
def zS:aE:=(sq dy (.seq (sq dz (.cond (Tm 23) (sq d6 .ret) .skip)) (.seq (sq d7 (.cond (Tm 28) (sq IM (sq IN (.seq (sq IP (.block 0 (.loop CO))) (sq CP .ret)))) .skip)) (sq SO (sq SP (sq CQ (sq CR (sq CS (.seq (sq CU (.block 2 (.loop vO))) (sq DA .ret))))))))))
def Vs:List Nat:=[76]
def kf:bB:=⟨2,198,zS,[.tmp 4,.tmp 5]⟩
def Rh:Rg:=[iZ 4,iZ 5,iI 6 0]
def Ri:Rg:=[iM 9 0,iK 10 41 9,iM 11 10,gM 12 1 11 false,gK 13 41 12 11 false,iQ 14 11 13]
def kd:Rg:=[iZ 4,iZ 5,iI 6 2]
def Rj:Rg:=[iM 15 1,iK 16 38 15,iN 17 16,iC 18 .eql 17 0]
def Rk:Rg:=[iZ 4,iZ 5,iI 6 3]
def Rl:Rg:=[iM 20 0,iK 21 38 20,iM 22 1,iK 23 38 22,iK2 24 39 21 23,iM 19 24,iE 25 19 0,iE 26 19 1,iM 7 25,iM 8 26]
def Rm:Rg:=[iM 27 7,iM 28 8,iM 4 27,iM 5 28,iI 6 0]
def OF:aE:=(sq Rh (.seq (sq Ri (.cond (Tm 14) (sq kd .ret) .skip)) (.seq (sq Rj (.cond (Tm 18) (sq Rk .ret) .skip)) (sq Rl (sq Rm .ret)))))
def anV:List Nat:=[]
def udiv:bB:=⟨2,29,OF,[.tmp 4,.tmp 5,.tmp 6]⟩
def Ro:Rg:=[iZ 4,iI 5 0]
def Rp:Rg:=[iM 10 0,iK 11 41 10,iM 12 11,gM 13 1 12 false,gK 14 41 13 12 false,iQ 15 12 14]
def kg:Rg:=[iZ 4,iI 5 2]
def Rq:Rg:=[iM 16 0,iK 17 38 16,iM 18 1,iK 19 38 18,iM 6 17,iM 7 19]
def Rr:Rg:=[iM 20 7,iN 21 20,iC 22 .gtr 21 0]
def Rs:Rg:=[iM 24 6,iM 25 7,iK2 26 39 24 25,iM 23 26,iE 27 23 0,iE 28 23 1,iM 8 27,iM 9 28]
def Rt:Rg:=[iM 29 7,iM 30 9,iM 6 29,iM 7 30]
def Rn:aE:=(.seq (sq Rr (.cond (Tm 22) .skip (.exit 0))) (.block 1 (sq Rs (.region Rt))))
def Ru:Rg:=[iM 31 6,iM 4 31,iI 5 0]
def OI:aE:=(sq Ro (.seq (sq Rp (.cond (Tm 15) (sq kg .ret) .skip)) (sq Rq (.seq (.block 0 (.loop Rn)) (sq Ru .ret)))))
def anX:List Nat:=[]
def ahB:bB:=⟨2,32,OI,[.tmp 4,.tmp 5]⟩
def fm:Rg:=[iA 6 (.alloc [zB,.aA,.aA])]
def fp:Rg:=[iM 9 1,iK 10 38 9,iM 11 2,iK 12 38 11,iM 1 10,iM 2 12]
def fq:Rg:=[iM 13 1,iN 14 13,iC 15 .eql 14 0]
def ft:Rg:=[iA 16 (.ayS true 1 1 [(.int .u32 0)] [(0,(.const (.int .u32 1)))]),iA 17 (.build [zB,.aA,.aA] [(2,1,(Tm 16))]),iS 3 6 17]
def fv:Rg:=[iM 19 1,iM 20 2,iK2 21 34 19 20,iM 18 21,iE 22 18 0,iE 23 18 1,iM 7 22,iM 8 23]
def fw:Rg:=[iM 24 7,iN 25 24,iC 26 .gtr 25 1,iM 27 26,gM 28 7 27 false,iG 29 (.azE 1 (Tm 28) (Ci 0)) 27 false,gL 30 29 27 false,iG 31 (.bin .gtr (Tm 30) (.const (.int .u32 1))) 27 false,iQ 32 27 31]
def JB:Rg:=[iM 34 1,iM 35 7,iK2 36 33 34 35,iM 33 36,iE 37 33 0,iE 38 33 1,iE 39 33 2,iM 1 37]
def JC:Rg:=[iM 41 2,iM 42 7,iK2 43 33 41 42,iM 40 43,iE 44 40 0,iE 45 40 1,iE 46 40 2,iM 2 44]
def xY:Rg:=[iM 47 0,iM 48 1,iM 49 2,iA 50 (.build [zB,.aA,.aA] [(0,1,(Tm 47)),(1,1,(Tm 48)),(2,1,(Tm 49))]),iS 3 6 50]
def zU:aE:=(sq fm (sq fp (.seq (sq fq (.cond (Tm 15) (sq ft .ret) .skip)) (.seq (sq fv (sq fw (.cond (Tm 32) (sq JB (.region JC)) .skip))) (sq xY .ret)))))
def V5:List Nat:=[16]
def ki:bB:=⟨3,51,zU,[.cell 6 (some 3)]⟩
def I6:Rg:=[iA 2 (.mv (.const (.int .u64 0)))]
def I7:Rg:=[iM 3 0,iC 4 .lss 3 0]
def I8:Rg:=[iM 5 0,iC 6 .add 5 1,iA 7 (.un .neg (Tm 6)),iA 8 (.conv .u64 (Tm 7)),iA 9 (.bin .add (Tm 8) (.const (.int .u64 1))),iM 2 9]
def I9:Rg:=[iM 10 0,iA 11 (.conv .u64 (Tm 10)),iM 2 11]
def JF:aE:=(sq I6 (.seq (sq I7 (.cond (Tm 4) (sq I8 .ret) .skip)) (sq I9 .ret)))
def ahU:List Nat:=[]
def V6:bB:=⟨1,12,JF,[.tmp 2]⟩
def I0:Rg:=[iA 4 (.alloc [zB,.aA,.aA]),iI 5 0]
def I1:Rg:=[iM 6 1,iC 7 .eql 6 0]
def I2:Rg:=[iA 8 (.build [zB,.aA,.aA] []),iS 3 4 8,iI 5 3]
def I3:Rg:=[iM 9 0,iC 10 .lss 9 0,iM 11 1,iC 12 .lss 11 0,iA 13 (.eqb true (Tm 10) (Tm 12)),iM 14 0,iK 15 59 14,iK 16 35 15,iM 17 1,iK 18 59 17,iK 19 35 18,iA 20 (.call 58 [(Tm 13),(Tm 16),(Tm 19)]),iS 3 4 20,iI 5 0]
def JD:aE:=(sq I0 (.seq (sq I1 (.cond (Tm 7) (sq I2 .ret) .skip)) (sq I3 .ret)))
def ahS:List Nat:=[]
def ux:bB:=⟨2,21,JD,[.cell 4 (some 3),.tmp 5]⟩
def Ry:Rg:=[iA 2 (.alloc [zB,.aA,.aA])]
def Rz:Rg:=[iM 6 0,iA 7 (.call 50 [(Tm 6),(Ci 1)]),iM 5 7,iE 8 5 0,iE 9 5 1,iA 3 (.alloc [zB,.aA,.aA]),iS 3 3 8,iM 4 9]
def R0:Rg:=[iO 10 3 3,iS 3 2 10]
def OS:aE:=(sq Ry (sq Rz (sq R0 .ret)))
def aoB:List Nat:=[]
def ahQ:bB:=⟨1,11,OS,[.cell 2 (some 3)]⟩
def utF (xs:List Nat) (n:Nat):PF:=((PF.nil.set 0 (aI xs)).set 3 (.int .i64 n))
theorem ahL {C:Ctx} (xs:List Nat) (R:Lim xs) (S:xs.length≤35184372087808):JA.wp C (aT Vz.res (mN 1 (aH (aJ (val xs))))) (PF.args [aI xs]) .nil:=by
 simp only[go_sem,JA,Iu,Iv,Vz,aAA];refine wp_loop (α:=Nat) (fun n=>utF xs n) (fun _=>.nil) (fun n=>n≤xs.length∧∀ j x,n≤j→xs[j]?=some x→x=0) (fun n=>n) xs.length ⟨aAF _,fun j x B l=>?_⟩ ?_ a_ ?_
 ·rw[aBN B] at l; cases l
 ·unfold utF;exact Lq
 rintro n ⟨N,J⟩;have done:(0<n→∀ h:n-1<xs.length,xs[n-1]≠0)→∀ F:PF,(utF xs n).le F→aE.wp C (.seq (.region XU) .ret) (aT [.tmp 2] (mN 1 (aH (aJ (val xs))))) F .nil:=by
  intro h F A;have f0:F 0=some (aI xs):=A 0 _ (by unfold utF; simp only[go_sem]);have K:F 3=some (.int .i64 n):=A 3 _ (by unfold utF; simp only[go_sem]);have E:xs.take n=aJ (val xs):=II R N J fun x w l=>by
   rw[aAH Om] at l;injection l with l
   subst l;exact h w Om
  have M:((n:Nat):Int)≤(xs.length:Nat):=Om;simp only[go_sem,XU,f0,K,aAA,M,or_true,aBM];refine jH (rows:=[]) (src:=aH (aJ (val xs))) .nil ?_ ?_ fun v H' O _=>?_
  ·simp only[go_sem];rw[← E,← List.map_take]
  ·unfold roomFor;rw[bV,← E,aAN];simp only[aCL,maxLen];omega
  ·exact HY (.inr rfl) (by simpa using O) rfl
 simp only[aE.wp,go_sem] at done;simp only[go_sem,It,Iw,utF];by_cases w:0<n
 ·have u:((n:Nat):Int)>0:=Om;have hlt:n-1<xs.length:=Om;have y:=bL xs hlt;have I:IntKind.i64.wrap ((n:Int)-1)=((n-1:Nat):Int):=wN Om w;simp only[go_sem,u,I,y];by_cases c:xs[n-1]=0
  ·simp only[go_sem,bO (Om:((xs[n-1]:Nat):Int)=0),Ix,I];refine aL (n-1) ⟨by omega,fun j x B l=>?_⟩ Om ?_ a_
   ·by_cases e:j=n-1
    ·subst e;rw[aAH hlt] at l;injection l with l
     omega
    ·exact J j x Om l
   ·exact Lq
  ·simp only[go_sem,bC (Om:((xs[n-1]:Nat):Int)≠0)];exact done (fun _ _=>c) _ (by unfold utF; exact Lq)
 ·have u:¬ ((n:Nat):Int)>0:=Om;simp only[go_sem,u];exact done (fun h=>absurd h w) _ (by unfold utF; exact Lq)
structure pR (C:Ctx):Prop where
 trimM:∀ xs,Lim xs→xs.length≤35184372087808→aG C 38 [aI xs] .nil (mN 1 (aH (aJ (val xs))))
theorem pR.trim {C:Ctx} (L:pR C) (xs:List Nat) (j:Lim xs) (e:xs.length≤35184372087808):aG C 38 [aI xs] .nil (aM (aI (aJ (val xs)))):=(L.trimM xs j e).freeze
theorem ahC {C:Ctx} (L:pR C) (v:Nat) (E:v<18446744073709551616):IR.wp C (aT Vv.res (cL (aI (aJ v)))) (PF.args [.int .u64 v]) .nil:=by
 have y:IntKind.u32.wrap ((v:Nat):Int)=((v%4294967296:Nat):Int):=cI v;have l:v/4294967296<4294967296:=Om;have A:IntKind.u32.wrap ((v/4294967296:Nat):Int)=((v/4294967296:Nat):Int):=by rw[cI,aBQ l]
 have B:Lim [v%4294967296,v/4294967296]:=by
  intro x w;simp only[aAK,List.mem_nil_iff,or_false] at w;rcases w with rfl | rfl
  ·exact aBX _ (by decide)
  ·exact l
 have e:val [v%4294967296,v/4294967296]=v:=by simp only[val,Nat.mul_zero,aBP]; exact Nat.mod_add_div v 4294967296
 have j:shift .shr .u64 (v:Int) 32=some (.int .u64 ((v/4294967296:Nat):Int)):=xT;have hb:(2:Nat)*1≤16777216:=by decide
 simp only[go_sem,IR,Ij,Ik,Vv,y,j,A,hb];have u:=L.trim [v%4294967296,v/4294967296] B (by simp);rw[e] at u;refine aB u rfl ?_;simp only[go_sem];exact aV (.inr rfl) .nil rfl a_ ⟨.refl _,rfl⟩
theorem Z5 {C:Ctx} (L:pR C) (xs:List Nat) (j:Lim xs) (e:xs.length≤35184372087808):DB.wp C (aT Ii.res (cL (.bool (decide (nl (val xs)>512))))) (PF.args [aI xs]) .nil:=by
 simp only[go_sem,DB,r8,r9,Ii];refine aB (L.trim xs j e) rfl ?_;simp only[go_sem,aAA,bH];refine aX rfl ?_;rw[decide_eq_decide];omega
theorem Sk {a b:Nat} (h:nl a<nl b):eN a b=-1:=by
 have:a<b:=by
  rcases aAV a b with h' | h'
  ·exact h'
  ·have:=jQ h'; omega
 simp[eN,this]
theorem Sj {a b:Nat} (h:nl b<nl a):eN a b=1:=by
 have:b<a:=by
  rcases aAV b a with h' | h'
  ·exact h'
  ·have:=jQ h'; omega
 have e:¬ a<b:=Om;simp[eN,this,e]
def Vo (X Y:List Nat) (i:Int):PF:=(((PF.nil.set 0 (aI X)).set 1 (aI Y)).set 5 (.int .i64 i))
theorem anS {C:Ctx} (L:pR C) (xs e:List Nat) (B:Lim xs) (E:Lim e) (W:xs.length≤35184372087808) (Z:e.length≤35184372087808) :
  OE.wp C (aT agW.res (aM (.int .i64 (eN (val xs) (val e))))) (PF.args [aI xs,aI e]) .nil:=by
 simp only[go_sem,OE,Q5,Q6,agW];refine aB (L.trim xs B W) Ev ?_;simp only[go_sem];refine aB (L.trim e E Z) Ev ?_;have bx:=fR B;have J:=fR E;simp only[go_sem,Q7,aAA,bH];by_cases w:nl (val xs)≠nl (val e)
 ·simp only[go_sem,dP (show ((nl (val xs):Nat):Int)≠(nl (val e):Nat) by omega),Q8];by_cases K:nl (val xs)<nl (val e)
  ·simp only[go_sem,aAA,bH,show ((nl (val xs):Nat):Int)<(nl (val e):Nat) by omega,Q9];refine cD (.inr rfl) Ev ?_;rw[Sk K]; rfl
  ·simp only[go_sem,aAA,bH,show ¬ ((nl (val xs):Nat):Int)<(nl (val e):Nat) by omega,Ra];refine cD (.inr rfl) Ev ?_;rw[Sj Om]; rfl
 replace w:=Decidable.of_not_not w;simp only[go_sem,cM (show ((nl (val xs):Nat):Int)=(nl (val e):Nat) by omega),Rb,aAA,bH];have ex:=aY (val xs);have x:=aY (val e);have F:=bA (val xs);have I:=bA (val e);generalize R:aJ (val xs)=X at *
 generalize S:aJ (val e)=Y at *
 have U:X.length=nl (val xs):=by rw[← R]; rfl
 have V:Y.length=nl (val xs):=by rw[w,← S]; rfl
 refine wp_loop (α:=Nat) (fun k=>Vo X Y ((k:Int)-1)) (fun _=>.nil) (fun k=>k≤nl (val xs)∧X.drop k=Y.drop k) (fun k=>k) (nl (val xs)) ⟨aAF _,?_⟩ ?_ a_ ?_
 ·rw[aDW Om,aDW Om]
 ·unfold Vo
  (repeat' (first|exact c_|refine d_ ?_ ?_))<;>first|(simp only[go_sem,wrap_i64 (show -9223372036854775808≤((nl (val xs):Nat):Int)-1 by omega) (show ((nl (val xs):Nat):Int)-1≤9223372036854775807 by omega)]<;>rfl)|rfl
 rintro k ⟨hk,j⟩;simp only[go_sem,Ht,Rc,Vo];by_cases h0:0<k
 ·obtain⟨m,rfl⟩:∃ m,k=m+1:=⟨k-1,by omega⟩;have A:((m+1:Nat):Int)-1=(m:Int):=Om;have y:(m:Int)≥0:=Om;have l:m<X.length:=Om;have u:m<Y.length:=Om;simp only[go_sem,A,y];refine bN .nil dC a_ ?_;simp only[go_sem,Re,bL X l,bL Y u];by_cases M:X[m]<Y[m]
  ·simp only[go_sem,show ((X[m]:Nat):Int)<(Y[m]:Nat) by omega,Rf];refine cD (.inr rfl) Ev ?_;have:=YS F l u j M;rw[ex,x] at this;simp[dB,eN,this]
  ·simp only[go_sem,show ¬ ((X[m]:Nat):Int)<(Y[m]:Nat) by omega];refine bN .nil dC a_ ?_;simp only[go_sem,Hu,bL X l,bL Y u];by_cases N:X[m]>Y[m]
   ·simp only[go_sem,show ((X[m]:Nat):Int)>(Y[m]:Nat) by omega,Hv];refine cD (.inr rfl) Ev ?_;have:=YS I u l j.symm N;rw[ex,x] at this;have O:¬ val xs<val e:=Om;simp[dB,eN,this,O]
   ·simp only[go_sem,show ¬ ((X[m]:Nat):Int)>(Y[m]:Nat) by omega,Hw];refine aL m ⟨by omega,ku l u j Om⟩ Om ?_ a_
    (repeat' (first|exact c_|refine d_ ?_ ?_))<;>first|(simp only[go_sem,wrap_i64 (Om:-9223372036854775808≤(m:Int)-1) (Om:(m:Int)-1≤9223372036854775807)]<;>rfl)|rfl
 ·have:k=0:=Om;subst this;have A:¬ ((0:Nat):Int)-1≥0:=by decide
  simp only[go_sem,A,Hx];refine cD (.inr rfl) Ev ?_;rw[aBM,aBM] at j;have:val xs=val e:=by rw[← ex,← x,j]
  simp[dB,eN,this]
theorem AX (n:Nat):(((n:Nat):Int)==0)=decide (n=0):=by
 by_cases h:n=0
 ·subst h; rfl
 ·rw[bC Om,decide_eq_false h]
structure vd (C:Ctx):Prop extends pR C where
 make:∀ v:Nat,v<18446744073709551616→aG C 35 [.int .u64 v] .nil (aM (aI (aJ v)))
 large:∀ xs,Lim xs→xs.length≤35184372087808→aG C 41 [aI xs] .nil (aM (.bool (decide (nl (val xs)>512))))
 cmp:∀ xs ys,Lim xs→Lim ys→xs.length≤35184372087808→ys.length≤35184372087808→aG C 32 [aI xs,aI ys] .nil (aM (.int .i64 (eN (val xs) (val ys))))
def Vu (a b:Nat):PF:=((PF.nil.set 6 (aI (aJ a))).set 7 (aI (aJ b)))
structure YG (C:Ctx):Prop extends vd C where
 divide:∀ A B:Nat,B≠0→nl A≤512→nl B≤512→aG C 39 [aI (aJ A),aI (aJ B)] .nil (aM (qI A B))
def Te (a b:Nat):PV:=if fI a b then .tup [aI [],.int .i64 2] else .tup [aI (aJ (aAD a b)),.int .i64 0]
theorem anW {C:Ctx} (L:YG C) (a b:List Nat) (w:Lim a) (hb:Lim b) (B:a.length≤35184372087808) (E:b.length≤35184372087808) :
  OI.wp C (aT ahB.res (cL (Te (val a) (val b)))) (PF.args [aI a,aI b]) .nil:=by
 unfold Te;simp only[go_sem,OI,Ro,Rp,ahB];refine aB (L.large a w B) rfl ?_;by_cases e:nl (val a)>512
 ·simp only[go_sem,e,kg];rw[if_pos (by simp[fI,e])];exact kG rfl
 simp only[go_sem,e];refine aB (L.large b hb E) rfl ?_;by_cases j:nl (val b)>512
 ·simp only[go_sem,j,kg];rw[if_pos (by simp[fI,j])];exact kG rfl
 rw[if_neg (by simp[fI,e,j])];simp only[go_sem,j,Rq];refine aB (L.trim a w B) rfl ?_;simp only[go_sem];refine aB (L.trim b hb E) rfl ?_;simp only[go_sem];refine wp_loop (α:=Nat × Nat) (fun t=>Vu t.1 t.2) (fun _=>.nil) (fun t=>aAD t.1 t.2=aAD (val a) (val b)∧nl t.1≤512∧nl t.2≤512) (fun t=>t.2) (val a,val b) ⟨rfl,by simp only; omega,by simp only; omega⟩ ?_ a_ ?_
 ·unfold Vu;exact Lq
 rintro⟨x,y⟩ ⟨u,F,A⟩;simp only at u F A;simp only[go_sem,Rn,Rr,Vu,bH];by_cases l:y=0
 ·subst l;have:¬ ((nl 0:Nat):Int)>0:=by rw[yQ]; decide
  simp only[go_sem,this,Ru];refine aV (vs:=[aI (aJ x),.int .i64 0]) (.inr rfl) .nil rfl a_ ⟨?_,rfl⟩;rw[← u,Nat.gcd_zero_right];exact .refl _
 ·have I:nl y≠0:=fun h=>l (lC.1 h);have:((nl y:Nat):Int)>0:=Om;simp only[go_sem,this,Rs];refine aB (L.divide x y l Om Om) rfl ?_;simp only[go_sem,qI,Rt];have hlt:x%y<y:=aBX _ (aCT l);refine aL (y,x%y) ⟨?_,A,?_⟩ hlt ?_ a_
  ·simp only;rw[← u,Nat.gcd_comm y,← Nat.gcd_rec y x,Nat.gcd_comm]
  ·have:=jQ (Nat.le_of_lt hlt);simp only; omega
  ·exact Lq
theorem anU {C:Ctx} (L:YG C) (a b:List Nat) (w:Lim a) (hb:Lim b) (x:a.length≤35184372087808) (u:b.length≤35184372087808) :
  OF.wp C (aT udiv.res (cL (nB (val a) (val b)))) (PF.args [aI a,aI b]) .nil:=by
 unfold nB;simp only[go_sem,OF,Rh,Ri,udiv];refine aB (L.large a w x) rfl ?_;by_cases j:nl (val a)>512
 ·simp only[go_sem,j,kd];rw[if_pos (by simp[fI,j])];exact rV rfl
 simp only[go_sem,j];refine aB (L.large b hb u) rfl ?_;by_cases l:nl (val b)>512
 ·simp only[go_sem,l,kd];rw[if_pos (by simp[fI,l])];exact rV rfl
 rw[if_neg (by simp[fI,j,l])];simp only[go_sem,l,Rj];refine aB (L.trim b hb u) rfl ?_;simp only[go_sem,aAA,bH,AX,lC];by_cases e:val b=0
 ·rw[if_pos e];simp only[go_sem,decide_eq_true e,Rk];exact rV rfl
 rw[if_neg e];simp only[go_sem,decide_eq_false e,Rl];refine aB (L.trim a w x) rfl ?_;simp only[go_sem];refine aB (L.trim b hb u) rfl ?_;simp only[go_sem];refine aB (L.divide (val a) (val b) e Om Om) rfl ?_;simp only[go_sem,qI,Rm];exact aV (.inr rfl) .nil rfl a_ ⟨.refl _,rfl⟩
def uH (neg:Bool) (a b:Nat):FV:=(neg&&decide (a/aAD a b≠0),a/aAD a b,b/aAD a b)
structure ve (C:Ctx):Prop extends YG C where
 gcd:∀ a b,Lim a→Lim b→a.length≤35184372087808→b.length≤35184372087808→aG C 34 [aI a,aI b] .nil (aM (Te (val a) (val b)))
 div:∀ a b,Lim a→Lim b→a.length≤35184372087808→b.length≤35184372087808→aG C 33 [aI a,aI b] .nil (aM (nB (val a) (val b)))
theorem tF {n:Nat} (h:nl n≤512):(aJ n).length≤35184372087808:=by rw[bH]; omega
theorem mw:aJ 1=[1]:=oN (by decide) (by decide)
theorem ZQ {n:Nat} (h:n≠0):aJ n=n%4294967296::aJ (n/4294967296):=rU h
theorem zF {n:Nat} (h:n≠0):(nl n>1∨n%4294967296>1)↔n≠1:=by
 constructor
 ·rintro h1 rfl;rcases h1 with h1 | h1
  ·rw[nl,mw] at h1; simp at h1
  ·omega
 ·intro h1;by_cases c:nl n>1
  ·exact .inl c
  ·have:n<4294967296 ^ 1:=(jF n 1).1 Om;rw[Nat.pow_one] at this;rw[aBQ this];exact .inr Om
theorem V4 {C:Ctx} (L:ve C) (neg:Bool) (a b:List Nat) (Y:Lim a) (hb:Lim b) (la:a.length≤35184372087808) (lb:b.length≤35184372087808) (E:nl (val a)≤512) (A:nl (val b)≤512) (I:val b≠0) :
  zU.wp C (aT ki.res (cL (.agg (uH neg (val a) (val b)).rf.cells))) (PF.args [.bool neg,aI a,aI b]) .nil:=by
 have j:aAD (val a) (val b)≠0:=fun h=>I (Nat.eq_zero_of_gcd_eq_zero_right h);have M:aAD (val a) (val b)≤val b:=Nat.gcd_le_right _ (aCT I);have R:nl (aAD (val a) (val b))≤512:=aCX (jQ M) A;have N:fI (val a) (val b)=false:=kY E A;simp only[go_sem,zU,fm,fp,ki];refine aP fun o ho=>?_;simp only[go_sem];refine aB (L.trim a Y la) rfl ?_;simp only[go_sem];refine aB (L.trim b hb lb) rfl ?_;simp only[go_sem,fq,aAA,bH,AX,lC];by_cases B:val a=0
 ·simp only[go_sem,decide_eq_true B,ft];have e:(uH neg (val a) (val b)).rf=⟨false,[],[1]⟩:=by rw[B];unfold uH FV.rf;simp[gS,Nat.div_self (aCT I),mw]
  rw[e];refine aV (vs:=[.agg [.bool false,.aA,aI [1]]]) (.inr rfl) .nil ?_ a_ ⟨show Co (.agg _) (.agg _) from CoL.agg (CoL.cons (.refl _) (CoL.cons (.nil 1) (CoL.cons (.refl _) .nil))),rfl⟩;simp only[go_sem];rfl
 have l:=L.gcd (aJ (val a)) (aJ (val b)) (bA _) (bA _) (tF E) (tF A);rw[aY,aY,Te,N] at l;simp only[go_sem,decide_eq_false B,fv];refine aB l rfl ?_;have fin:∀ x y:Nat,x=val a/aAD (val a) (val b)→y=val b/aAD (val a) (val b)→∀ (F:PF) (H:PH),F 0=some (.bool neg)→F 1=some (aI (aJ x))→F 2=some (aI (aJ y))→F 6=some (.ptr o 3 0 0)→H o=some (.rows 3 [[.bool false,.aA,.aA]]) →
   aE.wp C (.seq (.region xY) .ret) (aT [.cell 6 (some 3)] (cL (.agg (uH neg (val a) (val b)).rf.cells))) F H:=by
  intro x y O Z F H f0 f1 f2 f6 J;subst O; subst Z;simp only[go_sem,xY,f0,f1,f2,f6,J];have hq:val a/aAD (val a) (val b)≠0:=by have:=Nat.div_pos (Nat.gcd_le_left (val b) (aCT B)) (aCT j);omega
  have e:(uH neg (val a) (val b)).rf=⟨neg,aJ (val a/aAD (val a) (val b)),aJ (val b/aAD (val a) (val b))⟩:=by unfold uH FV.rf;simp only[hq,ne_eq,not_false_eq_true,decide_true,aCJ]
  rw[e];refine aV (vs:=[.agg (gQ neg (aJ (val a/aAD (val a) (val b))) (aJ (val b/aAD (val a) (val b))))]) (.inr rfl) .nil ?_ a_ ⟨.refl _,rfl⟩;simp only[go_sem,f6]
 simp only[aE.wp,go_sem] at fin;have K:=fun x (O:nl x≤512)=>L.div (aJ x) (aJ (aAD (val a) (val b))) (bA _) (bA _) (tF O) (tF R);simp only[aY,nB] at K;have tail:aAD (val a) (val b)≠1→∀ (F:PF) (H:PH),F 0=some (.bool neg)→F 1=some (aI (aJ (val a)))→F 2=some (aI (aJ (val b)))→F 6=some (.ptr o 3 0 0)→F 7=some (aI (aJ (aAD (val a) (val b))))→H o=some (.rows 3 [[.bool false,.aA,.aA]]) →
   aE.wp C (.seq (.seq (.region JB) (.region JC)) (.seq (.region xY) .ret)) (aT [.cell 6 (some 3)] (cL (.agg (uH neg (val a) (val b)).rf.cells))) F H:=by
  intro _ F H f0 f1 f2 f6 f7 J;have V:=K (val a) E;have W:=K (val b) A;rw[kY E R,if_neg j] at V;rw[kY A R,if_neg j] at W;simp only[go_sem,JB,f1,f7];refine aB V rfl ?_;simp only[go_sem,aDF,JC,f2,f7];refine aB W rfl ?_;simp only[go_sem,aDF];exact fin _ _ rfl rfl _ _ (by simp only[go_sem,f0]) rfl rfl (by simp only[go_sem,f6]) J
 simp only[aE.wp,go_sem] at tail;simp only[go_sem,aDF,fw,aAA,bH];by_cases S:nl (aAD (val a) (val b))>1
 ·have u:((nl (aAD (val a) (val b)):Nat):Int)>1:=Om;simp only[go_sem,u];exact tail ((zF j).1 (.inl S)) _ _ rfl rfl rfl rfl rfl Sq
 ·have u:¬ ((nl (aAD (val a) (val b)):Nat):Int)>1:=Om;simp only[go_sem,u,ZQ j];by_cases U:aAD (val a) (val b)%4294967296>1
  ·have w:((aAD (val a) (val b)%4294967296:Nat):Int)>1:=Om;simp only[go_sem,w];exact tail ((zF j).1 (.inr U)) _ _ rfl rfl rfl rfl (by simp only[go_sem,ZQ j]) Sq
  ·have w:¬ ((aAD (val a) (val b)%4294967296:Nat):Int)>1:=Om;have X:aAD (val a) (val b)=1:=by
    rcases Decidable.em (aAD (val a) (val b)=1) with h | h
    ·exact h
    ·rcases (zF j).2 h with h | h
     ·exact absurd h S
     ·exact absurd h U
   simp only[go_sem,w];exact fin (val a) (val b) (by rw[X,Nat.div_one]) (by rw[X,Nat.div_one]) _ _ rfl rfl rfl rfl Sq
theorem ahT {C:Ctx} (v:Int) (w:-9223372036854775808≤v) (x:v≤9223372036854775807) :
  JF.wp C (aT V6.res (aM (.int .u64 (v.natAbs:Nat)))) (PF.args [.int .i64 v]) .nil:=by
 simp only[go_sem,JF,I6,I7,V6];by_cases c:v<0
 ·have j:IntKind.i64.wrap (v+1)=v+1:=wrap_i64 Om Om;have l:IntKind.i64.wrap (0-(v+1))=-(v+1):=by rw[wrap_i64 Om Om]; omega
  have u:IntKind.u64.wrap (IntKind.u64.wrap (-(v+1))+1)=(v.natAbs:Int):=by rw[gG,gG]; omega
  simp only[go_sem,c,I8,j,l,u];refine cD (.inr rfl) rfl ?_;rfl
 ·have e:IntKind.u64.wrap v=(v.natAbs:Int):=by rw[gG]; omega
  simp only[go_sem,c,I9,e];refine cD (.inr rfl) rfl ?_;rfl
structure R4 (C:Ctx):Prop extends ve C where
 lowest:∀ neg a b,Lim a→Lim b→a.length≤35184372087808→b.length≤35184372087808→nl (val a)≤512→nl (val b)≤512→val b≠0→aG C 58 [.bool neg,aI a,aI b] .nil (aM (.agg (uH neg (val a) (val b)).rf.cells))
 size:∀ v:Int,dO v→aG C 59 [.int .i64 v] .nil (aM (.int .u64 (v.natAbs:Nat)))
def mkT (n d:Int):RF:=(uH (decide (n<0) != decide (d<0)) n.natAbs d.natAbs).rf
def wL (n d:Int):PV:=if d=0 then AA 3 else .tup [.agg (mkT n d).cells,.int .i64 0]
theorem ahR {C:Ctx} (L:R4 C) (n d:Int) (e:dO n) (j:dO d) :
  JD.wp C (aT ux.res (cL (wL n d))) (PF.args [.int .i64 n,.int .i64 d]) .nil:=by
 simp only[go_sem,JD,I0,I1];refine aP fun o l=>?_;unfold wL;by_cases c:d=0
 ·subst c;simp only[go_sem,I2];refine oF ?_;simp only[go_sem,ux]
 ·rw[if_neg c];simp only[go_sem,bC c,I3];refine aB (L.size n e) rfl ?_;simp only[go_sem];refine aB (L.make n.natAbs Om) rfl ?_;simp only[go_sem];refine aB (L.size d j) rfl ?_;simp only[go_sem];refine aB (L.make d.natAbs Om) rfl ?_;simp only[go_sem];have u:nl n.natAbs≤2:=pJ Om;have w:nl d.natAbs≤2:=pJ Om;have low:=L.lowest (decide (n<0) != decide (d<0)) (aJ n.natAbs) (aJ d.natAbs) (bA _) (bA _) (by rw[bH]; omega) (by rw[bH]; omega);rw[aY,aY] at low;have low:=low Om Om Om;refine aB low rfl ?_;simp only[go_sem];exact aV (.inr rfl) .nil (vs:=[.agg (mkT n d).cells,.int .i64 0]) (by simp only[go_sem,ux]; rfl) a_ ⟨.refl _,rfl⟩
structure YH (C:Ctx):Prop extends R4 C where
 fmk:∀ n d:Int,dO n→dO d→aG C 50 [.int .i64 n,.int .i64 d] .nil (aM (wL n d))
theorem aoA {C:Ctx} (L:YH C) (n:Int) (u:dO n) :
  OS.wp C (aT ahQ.res (cL (.agg (mkT n 1).cells))) (PF.args [.int .i64 n]) .nil:=by
 simp only[go_sem,OS,Ry,Rz,ahQ];refine aP fun o w=>?_;simp only[go_sem];refine aB (L.fmk n 1 u (by unfold dO; omega)) rfl ?_;unfold wL;rw[if_neg (by decide)];simp only[go_sem];refine aP fun p l=>?_;have e:o≠p:=by rintro rfl;simp only[aQ,if_true] at l;cases l
 have j:p≠o:=fun h=>e h.symm;simp only[go_sem,e,R0];refine aV (vs:=[.agg (mkT n 1).cells]) (.inr rfl) .nil ?_ a_ ⟨.refl _,rfl⟩;simp only[go_sem,j]
def aD (l:List Nat) (n a:Nat):Nat × Nat:=if l.length≤a∨n<2 then (0,a) else (l.getD a 0%n,a+1)
theorem cF (l:List Nat) {n:Nat} (h:0<n) (a:Nat):(aD l n a).1<n:=by
 unfold aD;split
 ·exact h
 ·exact aBX _ h
theorem bE (l:List Nat) (n:Nat) {a:Nat} (h:a≤l.length):(aD l n a).2≤l.length:=by
 unfold aD;split
 ·exact h
 ·simp only; omega
def fO (l:List Nat) (a:Nat):RF × Nat :=
 let x:=aD l 6 a
 let y:=aD l 8 x.2
 (mkT ((1+x.1:Nat):Int) ((1+y.1:Nat):Int),y.2)
abbrev jW:RF:=mkT 0 1
def jE (l:List Nat) (i j a:Nat):RF × Nat :=
 if j=i+1 then fO l a
 else if j=i then (jW,a)
 else let t:=aD l 3 a
  if t.1=0 then fO l t.2 else (jW,t.2)
def dR (l:List Nat) (i a:Nat):Nat→List RF × Nat
 | 0=>([],a)
 | j+1=>let s:=dR l i a j
  let z:=jE l i j s.2
  (s.1++[z.1],z.2)
structure BC where
 start:List RF
 exit:List RF
 ayR:List (List RF)
 left:Nat
 a:Nat
def dQ (l:List Nat) (n i:Nat) (s:BC):Nat × Nat:=if i+1<n then aD l (s.left+1) s.a else (s.left,s.a)
def fC (l:List Nat) (n i a:Nat):RF × Nat :=
 let e:=fO l a
 if i+1<n then (let t:=aD l 3 e.2; (if t.1=0 then jW else e.1,t.2)) else e
def gA (l:List Nat) (n a:Nat):Nat→BC
 | 0=>⟨[],[],[],8,a⟩
 | i+1=>let s:=gA l n a i
  let k:=dQ l n i s
  let e:=fC l n i k.2
  let r:=dR l i e.2 n
  ⟨s.start++[mkT (k.1:Nat) 8],s.exit++[e.1],s.ayR++[r.1],s.left-k.1,r.2⟩
def qJ (l:List Nat) (eM a:Nat):cT × Nat :=
 let t:=aD l eM a
 let s:=gA l (1+t.1) t.2 (1+t.1)
 (⟨[],s.start,s.ayR,s.exit⟩,s.a)
def kI (l:List Nat) (a:Nat):Nat→List RF × Nat
 | 0=>([],a)
 | k+1=>let s:=kI l a k
  let z:=fO l s.2
  (s.1++[z.1],z.2)
abbrev bU (n:Nat):List UInt8:=Lib.decDigits n
def hJ (l:List Nat) (a:Nat):Nat→List cT × Nat
 | 0=>([],a)
 | k+1=>let s:=hJ l a k
  let z:=qJ l 2 s.2
  (s.1++[{ z.1 with name:=[108,97,119]++bU k }],z.2)
def eI (l:List Nat) (ayU a:Nat):Nat→List dD × Nat
 | 0=>([],a)
 | k+1=>let s:=eI l ayU a k
  let x:=aD l 4 s.2
  let y:=aD l 8 x.2
  let z:=aD l ayU y.2
  (s.1++[⟨[109]++bU k,(1+x.1:Nat),(1+y.1:Nat),(z.1:Nat)⟩],z.2)
structure GS where
 ayW:List cP
 azG:List cZ
 a:Nat
def jT (l:List Nat) (mc ayM e:Nat) (s:GS):Nat→GS
 | 0=>s
 | i+1=>let s:=jT l mc ayM e s i
  if s.azG.length<ayM then
   let t:=aD l mc s.a
   { s with azG:=s.azG++[⟨[100]++bU s.azG.length,(t.1:Nat),(e:Nat)⟩],a:=t.2 }
  else s
def lL (level:Nat):UInt8:=match level with
 | 0=>45
 | 1=>115
 | 2=>114
 | 3=>107
 | _=>109
def nH (l:List Nat) (level e:Nat) (s:GS):GS :=
 let u:=aD l 16 s.a
 let t:=aD l 3 u.2
 let k:=aD l 6 t.2
 let sh:RF × Nat:=if t.1=0 then (mkT 1 ((2+k.1:Nat):Int),k.2) else (jW,t.2)
 { s with ayW:=s.ayW++[⟨[lL level]++bU s.ayW.length,(level:Nat),(e:Nat),(1+u.1:Nat),sh.1⟩],a:=sh.2 }
def pV (ayM:Nat) (s:GS):Bool:=decide (ayM≤s.azG.length)||decide (35≤s.ayW.length)
def gV (l:List Nat) (level ayM e:Nat) (rec:Nat→GS→GS) (s:GS):Nat→GS
 | 0=>s
 | i+1=>let s:=gV l level ayM e rec s i
  if pV ayM s then s else (let s':=nH l level e s; rec (s'.ayW.length-1) s')
def eY (l:List Nat) (mc ayM:Nat):Nat→Nat→GS→GS
 | 0,e,s=>let t:=aD l 2 s.a
  jT l mc ayM e { s with a:=t.2 } (1+t.1)
 | k+1,e,s=>let t:=aD l 2 s.a
  gV l (4-k) ayM e (eY l mc ayM k) { s with a:=t.2 } (if 4-k=2 then 1 else 1+t.1)
def mJ:cP:=⟨[],0,-1,0,jW⟩
def hQ (l:List Nat) (a:Nat):Int × Nat :=
 let t:=aD l 3 a
 let k:=aD l 3 t.2
 if t.1=0 then ((1+k.1:Nat),k.2) else (0,t.2)
def mM (l:List Nat) (ayN i a:Nat):cC × Nat :=
 let k:=aD l 2 a
 let m:=aD l 3 k.2
 let h:=aD l 4 m.2
 let q:=aD l (m.1+1) h.2
 let r:=kI l q.2 (max m.1 1)
 let g:=aD l 9 r.2
 let s1:=hQ l g.2
 let s2:=hQ l s1.2
 let s3:=hQ l s2.2
 let s4:=hQ l s3.2
 let f:=aD l ayN s4.2
 let b:=aD l 2 f.2
 let ms:List Int × Nat:=if 1<ayN then (if b.1=0 then ([(f.1:Int),1-(f.1:Int)],b.2) else ([(f.1:Int)],b.2)) else ([(f.1:Int)],f.2)
 (⟨[112]++bU i,(1+k.1:Nat),(m.1:Nat),(1+k.1+q.1:Nat),0,s1.1,s2.1,s3.1,s4.1,ms.1,r.1,mkT (g.1:Nat) 8,mkT ((1+h.1:Nat):Int) 1⟩,ms.2)
def dV (l:List Nat) (ayN a:Nat):Nat→List cC × Nat
 | 0=>([],a)
 | k+1=>let s:=dV l ayN a k
  let z:=mM l ayN k s.2
  (s.1++[z.1],z.2)
def eQ (l:List Nat) (pols a:Nat):Nat→List gI × Nat
 | 0=>([],a)
 | k+1=>let s:=eQ l pols a k
  let z:=aD l pols s.2
  (s.1++[⟨[118]++bU k,(z.1:Nat)⟩],z.2)
def gW (l:List Nat) (ayM ayO a:Nat):aC × Nat :=
 let e:=aD l 2 a
 let u:=aD l 2 e.2
 let ayU:=hJ l u.2 (1+u.1)
 let j:=aD l 2 ayU.2
 let ayN:=eI l (1+u.1) j.2 (1+j.1)
 let g:=eY l (1+j.1) ayM 4 0 ⟨[mJ],[],ayN.2⟩
 let pl:=aD l 2 g.a
 let pols:=dV l (1+j.1) pl.2 (1+pl.1)
 let w:=aD l (ayO+1) pols.2
 let vols:=eQ l (1+pl.1) w.2 w.1
 (⟨(1+e.1:Nat),ayU.1,ayN.1,g.ayW,g.azG,pols.1,vols.1⟩,vols.2)
def mV (l:List Nat) (a:Nat):Nat→List Int × Nat
 | 0=>([],a)
 | k+1=>let s:=mV l a k
  let z:=aD l 7 s.2
  (s.1++[(z.1:Int)-1],z.2)
def qE (l:List Nat) (f:aC) (a:Nat):List Int × Nat :=
 let t:=aD l 4 a
 if t.1=0 then ([],t.2) else mV l t.2 f.ayM.length
abbrev fQ (l:List Nat):List (List PV):=l.map fun (n:Nat)=>[PV.int .u8 (n:Int)]
theorem ON (l:List Nat):(fQ l).length=l.length:=by simp
theorem ahK (l:List Nat) {i:Nat} (h:i<l.length):(fQ l)[i]?=some [.int .u8 (l[i]:Nat)]:=by simp[h]
abbrev aS (v:PV) (a:Nat):bF:=.rows 2 [[v,.int .i64 a]]
structure Tp (l:List Nat) (v:PV):Prop where
 seen:Seen 1 v (fQ l)
 byte:∀ x∈l,x<256
 len:l.length≤400
def gm (l:List Nat) (r:PV) (H:PH):Prop:=∃ o v,r=.ptr o 2 0 0∧Tp (l.take 400) v∧H=PH.nil.set o (aS v 0)
theorem tr {t q s:Nat} {rs:List (List PV)} {F:PF} {H H2:PH} {R:PV→PH→Prop} {v:PV} {e:kC} (he:e=.normal∨e=.ret) (A:F t=some v) (hq:H q=some (.rows s rs)) (x:H2.le (H.frz q s rs)) (y:R (PV.frz q s rs v) H2):aT [.tmp t] R e F H:=by
 have j:∃ vs,dT.evs F H [.tmp t]=some vs∧∃ l w H2,iU (PF.nil.set 0 (dB vs)) H l w∧H2.le w∧∃ u,l 0=some u∧R u H2:=by refine⟨[v],by rw[kP,nM,A,oS],_,_,H2,.step q hq (.refl _ _),x,PV.frz q s rs v,?_,y⟩;rw[kF,mF,if_pos rfl,aBJ];rfl
 rcases he with rfl | rfl<;>exact j
theorem alZ {C:Ctx} (l:List Nat) (hb:∀ x∈l,x<256) (O:l.length≤9223372036854775807):MH.wp C (aT aeP.res (gm l)) (PF.args [.sl 1 (fQ l)]) .nil:=by
 simp only[go_sem,MH,Ou,Ov,aeP,aAA];have fin:∀ F:PF,F 0=some (.sl 1 (fQ (l.take 400)))→aE.wp C (.seq (.region ja) .ret) (aT [.tmp 2] (gm l)) F .nil:=by
  intro F f0;have y:(l.take 400).length≤400:=by rw[aAN]; omega
  have w:∀ x∈l.take 400,x<256:=fun x M=>hb x (List.mem_of_mem_take M);have A:∀ o v,Seen 1 v (fQ (l.take 400))→gm l (.ptr o 2 0 0) (PH.nil.set o (aS v 0)):=fun o v K=>⟨o,v,rfl,⟨K,w,y⟩,rfl⟩;generalize N:l.take 400=L at *
  simp only[go_sem,ja,f0];refine zV (src:=fQ L) rfl ?_ (fun h=>?_) fun h o I=>?_
  ·unfold roomFor;rw[ON];simp only[maxLen]; omega
  ·simp only[go_sem,aAK,aAY,or_false,forall_eq];refine aP fun o I=>?_;simp only[go_sem];exact aV (vs:=[.ptr o 2 0 0]) (.inr rfl) (PH.nil.set o (aS .aA 0)) rfl b_ (A o .aA (.inl ⟨h,rfl⟩))
  ·simp only[go_sem,aAK,aAY,or_false,forall_eq];refine aP fun p J=>?_;have e:¬ p=o:=(iY.1 J).1;have j:¬ o=p:=fun h=>e h.symm;simp only[go_sem];refine tr (v:=.ptr p 2 0 0) (q:=o) (s:=1) (rs:=fQ L) (H2:=PH.nil.set p (aS (.sl 1 (fQ L)) 0)) (.inr rfl) rfl (by simp only[go_sem,j]) (e_ a_ ?_) (A p _ (.inr rfl));have E:(fQ L).take L.length=fQ L:=aAQ (by rw[ON]; exact aAF _);simp only[go_sem,e,bF.frz,PV.bP,aAA,E];rfl
 simp only[aE.wp,go_sem] at fin;by_cases c:l.length>400
 ·have u:(l.length:Int)>400:=Om;have B:(400:Int)≤(l.length:Int):=Om;simp only[go_sem,u,Ow,aAA,B];refine fin _ ?_;rw[mF,if_pos rfl];simp[fQ]
 ·have u:¬ (l.length:Int)>400:=Om;simp only[go_sem,u];refine fin _ ?_;rw[aAQ Om];simp only[go_sem]
def YE (l:List Nat) (v:PV) (o n a:Nat) (r:PV) (H:PH):Prop:=r=.int .i64 ((aD l n a).1:Nat)∧H=PH.nil.set o (aS v (aD l n a).2)
theorem aeQ {C:Ctx} {l:List Nat} {v:PV} (T:Tp l v) (o n a:Nat) (U:n≤1000000) (R:a≤l.length):xM.wp C (aT uo.res (YE l v o n a)) (PF.args [.ptr o 2 0 0,.int .i64 n]) (PH.nil.set o (aS v a)):=by
 obtain⟨N,hb,S⟩:=T;have zero:(l.length≤a∨n<2)→∀ F,aE.wp C (.seq (.region WA) .ret) (aT [.tmp 4] (YE l v o n a)) F (PH.nil.set o (aS v a)):=by
  intro h F;have e:aD l n a=(0,a):=by unfold aD; rw[if_pos h]
  simp only[go_sem,WA];exact aV (vs:=[.int .i64 0]) (.inr rfl) _ rfl b_ ⟨by rw[e]; rfl,by rw[e]⟩
 simp only[aE.wp,go_sem] at zero;rcases N with ⟨K,rfl⟩ | rfl
 ·have O:l.length=0:=by rw[← ON,K]; rfl
  have x:(a:Int)≥0:=Om;simp only[go_sem,xM,VZ,uo];refine bN .nil dC a_ ?_;simp only[go_sem,HH,x];exact zero (.inl Om) _
 simp only[go_sem,xM,VZ,uo];refine bN .nil dC a_ ?_;by_cases A:l.length≤a
 ·have j:(a:Int)≥(l.length:Nat):=Om;simp only[go_sem,HH,aAA,j];exact zero (.inl A) _
 have j:¬ (a:Int)≥(l.length:Nat):=Om;simp only[go_sem,HH,aAA,j];by_cases B:n<2
 ·have u:(n:Int)<2:=Om;simp only[go_sem,u];exact zero (.inr B) _
 have u:¬ (n:Int)<2:=Om;have w:a<l.length:=Om;have e:aD l n a=(l[a]%n,a+1):=by unfold aD;rw[if_neg Om];simp[aAL,w]
 have J:IntKind.i64.wrap ((a:Int)+1)=((a+1:Nat):Int):=dN Om;have I:IntKind.i64.wrap (((a+1:Nat):Int)-1)=((a:Nat):Int):=by rw[wrap_i64 Om Om]; omega
 have M:=ahK l w;have V:=hb _ (aAG w);have E:IntKind.i64.wrap ((l[a]:Nat):Int)=((l[a]:Nat):Int):=XW Om;have y:¬ ((n:Nat):Int)=0:=Om;have em:Int.tmod ((l[a]:Nat):Int) ((n:Nat):Int)=((l[a]%n:Nat):Int):=rfl;simp only[go_sem,u,Dm,J];refine bN .nil dC a_ ?_;simp only[go_sem,Dn,I,M,E,y,em];exact aV (vs:=[.int .i64 (l[a]%n:Nat)]) (.inr rfl) _ rfl b_ ⟨by rw[e]; rfl,by rw[e]⟩
def PV.oid:PV→Option Nat
 | .osl q _ _ _=>some q
 | _=>none
abbrev LI:=PV × Nat × List (List PV)
abbrev BX:=Nat × bF
def dU (B:List BX):List Nat:=B.map (·.1)
def cY (L:List LI):List Nat:=L.filterMap fun x=>x.1.oid
structure aK (H:PH) (B:List BX) (L:List LI):Prop where
 box:∀ b∈B,H b.1=some b.2
 lst:∀ x∈L,bY H x.2.1 x.1 x.2.2
 nd:(dU B++cY L).Nodup
section
variable {C:Ctx} {H:PH} {B:List BX} {L:List LI} {K:PV→PH→Prop}
theorem bY.id {s q:Nat} {v:PV} {rows:List (List PV)} (h:bY H s v rows) (hq:v.oid=some q):∃ rs,H q=some (.rows s rs)∧v=.osl q s 0 rows.length∧rows.length≤rs.length∧rs.take rows.length=rows:=by
 rcases h with ⟨_,rfl⟩ | ⟨p,rs,rfl,h1,h2,h3⟩
 ·cases hq
 ·cases hq;exact⟨rs,h1,rfl,h2,h3⟩
theorem bY.same {s:Nat} {v:PV} {rows:List (List PV)} {H':PH} (h:bY H s v rows) (e:∀ q,v.oid=some q→H' q=H q):bY H' s v rows:=by
 rcases h with h | ⟨p,rs,rfl,h1,h2,h3⟩
 ·exact .inl h
 ·exact .inr ⟨p,rs,rfl,by rw[e p rfl]; exact h1,h2,h3⟩
theorem mA {x:LI} {q:Nat} (h:x∈L) (hq:x.1.oid=some q):q∈cY L:=List.mem_filterMap.2 ⟨x,h,hq⟩
theorem uI {b:BX} (h:b∈B):b.1∈dU B:=aAW.2 ⟨b,h,rfl⟩
theorem aK.nil:aK H [] []:=⟨by simp,by simp,by simp[dU,cY]⟩
theorem aK.at (h:aK H B L) (i:Nat) {o:Nat} {x:bF} (hi:B[i]?=some (o,x)):H o=some x:=h.box _ (aCA hi)
theorem aK.own (h:aK H B L) (i:Nat) {s:Nat} {v:PV} {rows:List (List PV)} (hi:L[i]?=some (v,s,rows)):bY H s v rows:=h.lst _ (aCA hi)
theorem aK.ndB (h:aK H B L):(dU B).Nodup:=(aCZ.1 h.nd).1
theorem aK.ndL (h:aK H B L):(cY L).Nodup:=(aCZ.1 h.nd).2.1
theorem aK.ndX (h:aK H B L) {o q:Nat} (e:o∈dU B) (hq:q∈cY L):o≠q:=(aCZ.1 h.nd).2.2 o e q hq
theorem aK.ne (h:aK H B L) (i j:Nat) {o p:Nat} {x y:bF} (hi:B[i]?=some (o,x)) (M:B[j]?=some (p,y)) (l:i≠j):o≠p:=by
 intro e;have I:(dU B)[i]?=some o:=by unfold dU; rw[aAT,hi]; rfl
 have J:(dU B)[j]?=some p:=by unfold dU; rw[aAT,M]; rfl
 obtain⟨E,u⟩:=aBD.1 I;obtain⟨F,w⟩:=aBD.1 J;have A:=List.pairwise_iff_getElem.1 h.ndB;rcases Nat.lt_or_gt_of_ne l with g | g
 ·exact A i j E F g (by rw[u,w,e])
 ·exact A j i F E g (by rw[u,w,e])
theorem aK.neL (h:aK H B L) (i j:Nat) {o q:Nat} {x:bF} {y:LI} (hi:B[i]?=some (o,x)) (e:L[j]?=some y) (hq:y.1.oid=some q):o≠q :=
 h.ndX (uI (aCA hi)) (mA (aCA e) hq)
theorem aK.fresh (h:aK H B L) {o:Nat} (j:H o=none):o ∉ dU B∧o ∉ cY L:=by
 refine⟨fun l=>?_,fun l=>?_⟩
 ·obtain⟨b,hb,rfl⟩:=aAW.1 l;rw[h.box b hb] at j; cases j
 ·obtain⟨x,w,e⟩:=List.mem_filterMap.1 l;obtain⟨rs,u,_⟩:=(h.lst x w).id e;rw[u] at j; cases j
theorem aK.keep (h:aK H B L) {H':PH} (e:∀ q,q∈dU B∨q∈cY L→H' q=H q):aK H' B L :=
 ⟨fun b hb=>by rw[e _ (.inl (uI hb))]; exact h.box b hb,fun x j=>(h.lst x j).same fun q hq=>e q (.inr (mA j hq)),h.nd⟩
theorem adG {i:Nat} {o:Nat} {x y:bF} (hi:B[i]?=some (o,x)):dU (B.set i (o,y))=dU B:=by
 unfold dU;rw[aDL];refine List.ext_getElem? fun j=>?_;rw[List.getElem?_set];split
 ·rename_i e;subst e;rw[aAT,hi];have:=(aBD.1 hi).1;simp[this]
 ·rfl
theorem aK.set (h:aK H B L) (i:Nat) {o:Nat} {x:bF} (hi:B[i]?=some (o,x)) (y:bF):aK (H.set o y) (B.set i (o,y)) L:=by
 have w:o∈dU B:=uI (aCA hi);refine⟨fun b hb=>?_,fun z A=>(h.lst z A).same fun q hq=>?_,by rw[adG hi]; exact h.nd⟩
 ·obtain⟨j,l⟩:=List.mem_iff_getElem?.1 hb;rw[List.getElem?_set] at l;split at l
  ·split at l
   ·cases l; simp only[aQ,if_true]
   ·cases l
  ·rename_i u;have:b.1≠o:=fun e=>h.ne i j hi (show B[j]?=some (b.1,b.2) from l) u e.symm;rw[aQ,if_neg this];exact h.box b (aCA l)
 ·have:q≠o:=fun e=>h.ndX w (mA A hq) e.symm;rw[aQ,if_neg this]
theorem aK.new (h:aK H B L) {o:Nat} (u:H o=none) (y:bF):aK (H.set o y) (B++[(o,y)]) L:=by
 obtain⟨f1,f2⟩:=h.fresh u;refine⟨fun b hb=>?_,fun z l=>(h.lst z l).same fun q hq=>?_,?_⟩
 ·rw[aBH,aBL] at hb;rcases hb with hb | rfl
  ·have:b.1≠o:=fun e=>f1 (e ▸ uI hb);rw[aQ,if_neg this]; exact h.box b hb
  ·simp only[aQ,if_true]
 ·have:q≠o:=fun e=>f2 (e ▸ mA l hq);rw[aQ,if_neg this]
 ·have:=h.nd;simp only[dU,aBO,aBG,aCP] at *
  rw[aBE,aCZ] at *
  obtain⟨a,b,c⟩:=this;refine⟨a,?_,fun p j q hq=>?_⟩
  ·rw[List.singleton_append,List.nodup_cons]; exact⟨f2,b⟩
  ·rw[List.singleton_append,aAK] at hq;rcases hq with rfl | hq
   ·intro e; subst e; exact f1 j
   ·exact c p j q hq
theorem lH (L1 L2:List LI):cY (L1++L2)=cY L1++cY L2:=List.filterMap_append ..
theorem aK.mB (h:aK H B L) (s:Nat):aK H B (L++[(.aA,s,[])]):=by
 refine⟨h.box,fun z e=>?_,?_⟩
 ·rw[aBH,aBL] at e;rcases e with e | rfl
  ·exact h.lst z e
  ·exact .nil
 ·rw[lH,show cY [((.aA:PV),s,([]:List (List PV)))]=[] from rfl,aBU]; exact h.nd
theorem aK.jm (h:aK H B L) {o s:Nat} {rows:List (List PV)} (l:H o=none):aK (H.set o (.rows s rows)) B (L++[(.osl o s 0 rows.length,s,rows)]):=by
 obtain⟨f1,f2⟩:=h.fresh l;have j:=h.keep (H':=H.set o (.rows s rows)) fun q hq=>by
  have:q≠o:=by rintro rfl; exact hq.elim f1 f2
  rw[aQ,if_neg this]
 refine⟨j.box,fun z e=>?_,?_⟩
 ·rw[aBH,aBL] at e;rcases e with e | rfl
  ·exact j.lst z e
  ·exact .inr ⟨o,rows,rfl,by simp only[aQ,if_true],aAF _,aBT⟩
 ·rw[lH,show cY [((.osl o s 0 rows.length:PV),s,rows)]=[o] from rfl,← aBE,aCZ];refine⟨h.nd,by simp,fun p hp q hq=>?_⟩;rw[aBL] at hq;subst hq;rintro rfl;rcases aBH.1 hp with hp | hp
  ·exact f1 hp
  ·exact f2 hp
theorem Bm {i:Nat} {v v':PV} {s s':Nat} {rows rows':List (List PV)} (hi:L[i]?=some (v,s,rows)):∃ L1 L2,L=L1++(v,s,rows)::L2∧L.set i (v',s',rows')=L1++(v',s',rows')::L2:=by
 obtain⟨e,he⟩:=aBD.1 hi;refine⟨L.take i,L.drop (i+1),?_,?_⟩
 ·rw[← he,← aCK e,aDA]
 ·rw[List.set_eq_take_append_cons_drop,if_pos e]
theorem aK.dx (h:aK H B L) (i:Nat) {s:Nat} {v:PV} {rows:List (List PV)} (hi:L[i]?=some (v,s,rows)) {s':Nat} {v':PV} {rows':List (List PV)} {H':PH} (R:bY H' s' v' rows')
  (I:∀ q,v'.oid=some q→v.oid=some q∨H q=none) (O:∀ q,q∈dU B∨q∈cY L→(∀ p,v.oid=some p→q≠p)→H' q=H q):aK H' B (L.set i (v',s',rows')):=by
 obtain⟨L1,L2,M,N⟩:=Bm (v':=v') (s':=s') (rows':=rows') hi;rw[N];subst M;have j:=h.nd;have E:cY (L1++(v,s,rows)::L2)=cY L1++(v.oid.toList++cY L2):=by rw[lH];congr 1;unfold cY;rw[List.filterMap_cons];cases e:v.oid<;>simp
 have F:cY (L1++(v',s',rows')::L2)=cY L1++(v'.oid.toList++cY L2):=by rw[lH];congr 1;unfold cY;rw[List.filterMap_cons];cases e:v'.oid<;>simp
 rw[E] at j;have x:∀ q,q∈dU B∨q∈cY L1∨q∈cY L2→∀ p,v.oid=some p→q≠p:=by
  intro q hq p w e;subst e;rw[w] at j;simp only[Option.toList_some] at j;rw[aCZ] at j;obtain⟨a,b,c⟩:=j;rw[aCZ] at b;obtain⟨J,y,A⟩:=b;rw[List.singleton_append,List.nodup_cons] at y;rcases hq with hq | hq | hq
  ·exact c q hq q (by simp) rfl
  ·exact A q hq q (by simp) rfl
  ·exact y.1 hq
 have l:∀ q,q∈dU B∨q∈cY L1∨q∈cY L2→H' q=H q:=by
  intro q hq;refine O q ?_ (x q hq);rw[E];simp only[aBH];rcases hq with hq | hq | hq
  ·exact .inl hq
  ·exact .inr (.inl hq)
  ·exact .inr (.inr (.inr hq))
 refine⟨fun b hb=>by rw[l _ (.inl (uI hb))]; exact h.box b hb,fun z hz=>?_,?_⟩
 ·rw[aBH,aAK] at hz;rcases hz with hz | rfl | hz
  ·exact (h.lst z (by simp[hz])).same fun q hq=>l q (.inr (.inl (mA hz hq)))
  ·exact R
  ·exact (h.lst z (by simp[hz])).same fun q hq=>l q (.inr (.inr (mA hz hq)))
 ·rw[F];cases e:v'.oid with
  | none =>simp only[Option.toList_none,aDN];refine List.Nodup.sublist ?_ j;exact aCG.append (aCG.refl _) (aCG.append (aCG.refl _) (List.sublist_append_right _ _))
  | some q =>
   rcases I q e with S | hn
   ·rw[S] at j;exact j
   ·obtain⟨f1,f2⟩:=h.fresh hn;rw[E] at f2;simp only[aBH,not_or] at f2;have u:(dU B++(cY L1++cY L2)).Nodup:=List.Nodup.sublist (aCG.append (aCG.refl _) (aCG.append (aCG.refl _) (List.sublist_append_right _ _))) j;simp only[Option.toList_some];rw[aCZ] at u ⊢;obtain⟨a,b,c⟩:=u;rw[aCZ] at b;obtain⟨J,y,A⟩:=b;refine⟨a,?_,?_⟩
    ·rw[aCZ];refine⟨J,by rw[List.singleton_append,List.nodup_cons]; exact⟨f2.2.2,y⟩,fun p w r hr=>?_⟩;rw[List.singleton_append,aAK] at hr;rcases hr with rfl | hr
     ·rintro rfl; exact f2.1 w
     ·exact A p w r hr
    ·intro p w r hr;rw[aBH,List.singleton_append,aAK] at hr;rcases hr with hr | rfl | hr
     ·exact c p w r (by simp[hr])
     ·rintro rfl; exact f1 w
     ·exact c p w r (by simp[hr])
theorem aK.append (h:aK H B L) (i:Nat) {s b:Nat} {v y:PV} {rows src:List (List PV)} (hi:L[i]?=some (v,s,rows)) (E:eJ H s y=some src) (A:roomFor rows.length src.length b)
  (w:∀ v' H',aK H' B (L.set i (v',s,rows++src))→(src≠[]→∃ q,v'=.osl q s 0 (rows++src).length)→K v' H'):mG H s b v y K:=by
 rcases h.own i hi with ⟨rfl,rfl⟩ | ⟨q,rs,rfl,h1,h2,h3⟩
 ·refine⟨src,E,A,fun e=>?_,fun e o u=>?_⟩
  ·subst e;refine w _ _ ?_ fun h=>absurd rfl h;exact h.dx i hi (.inl ⟨rfl,rfl⟩) (fun q hq=>by cases hq) fun q _ _=>rfl
  ·refine w _ _ (h.dx i hi (.inr ⟨o,src,rfl,by simp only[aQ,if_true],aAF _,aBT⟩) (fun q hq=>by cases hq; exact .inr u) fun q hq _=>?_) fun _=>⟨o,rfl⟩;obtain⟨f1,f2⟩:=h.fresh u;have:q≠o:=by rintro rfl; exact hq.elim f1 f2
   rw[aQ,if_neg this]
 ·have j:(rows++src).length=rows.length+src.length:=aAE;refine⟨src,E,rfl,rfl,A,rs,h1,h2,?_,fun o u=>?_⟩
  ·rw[h3];refine w _ _ (h.dx i hi (.inr ⟨q,rows++src,by rw[j],by simp only[aQ,if_true],aAF _,aBT⟩) (fun p l=>by cases l; exact .inl rfl) fun p _ l=>?_) fun _=>⟨q,by rw[j]⟩;rw[aQ,if_neg (l q rfl)]
  ·rw[h3];refine w _ _ (h.dx i hi (.inr ⟨o,rows++src,by rw[j],by simp only[aQ,if_true],aAF _,aBT⟩) (fun p l=>by cases l; exact .inr u) fun p x l=>?_) fun _=>⟨o,by rw[j]⟩;obtain⟨f1,f2⟩:=h.fresh u;have F:p≠o:=by rintro rfl; exact x.elim f1 f2
   rw[aQ,if_neg F]
theorem aK.sub (h:aK H B L) {B':List BX} {L':List LI} (hB:B'.Sublist B) (e:L'.Sublist L):aK H B' L' :=
 ⟨fun b hb=>h.box b (hB.subset hb),fun x j=>h.lst x (e.subset j),List.Nodup.sublist (aCG.append (hB.map _) (e.filterMap _)) h.nd⟩
theorem aK.vC (h:aK H B L) (i:Nat):aK H (B.eraseIdx i) L:=h.sub (List.eraseIdx_sublist ..) (aCG.refl _)
theorem aK.ET (h:aK H B L) (i:Nat):aK H B (L.eraseIdx i):=h.sub (aCG.refl _) (List.eraseIdx_sublist ..)
end
section
variable {C:Ctx} {F:PF} {H:PH} {B:List BX} {L:List LI}
theorem aK.yT (h:aK H B L) {q:Nat} (hq:q∈dU B∨q∈cY L):∃ x,H q=some x:=by
 rcases hq with hq | hq
 ·obtain⟨b,hb,rfl⟩:=aAW.1 hq;exact⟨_,h.box b hb⟩
 ·obtain⟨x,l,e⟩:=List.mem_filterMap.1 hq;obtain⟨rs,j,_⟩:=(h.lst x l).id e;exact⟨_,j⟩
theorem aK.perm (h:aK H B L) {B':List BX} {L':List LI} (hB:B.Perm B') (e:L.Perm L'):aK H B' L' :=
 ⟨fun b hb=>h.box b (hB.mem_iff.2 hb),fun x j=>h.lst x (e.mem_iff.2 j),(aCO.nodup_iff ((hB.map _).append (e.filterMap _))).1 h.nd⟩
theorem aK.only (h:aK H B L) {B1:List BX} {L1:List LI} (hB:B1.Sublist B) (e:L1.Sublist L):aK (H.only (dU B1++cY L1)) B1 L1:=by
 refine (h.sub hB e).keep fun q hq=>?_;rw[qC];rw[if_pos (aBH.2 hq)]
theorem apS {a b c d:List Nat} (j:(a++c).Nodup) (l:(b++d).Nodup) (u:∀ q,q∈a∨q∈c→q∈b∨q∈d→False):((a++b)++(c++d)).Nodup:=by
 have e:aCO ((a++b)++(c++d)) ((a++c)++(b++d)):=by rw[aBE,aBE];exact aCO.append_left a (by rw[← aBE,← aBE]; exact aCO.append_right d List.perm_append_comm)
 rw[e.nodup_iff,aCZ];refine⟨j,l,fun p w q hq=>?_⟩;rintro rfl;exact u p (aBH.1 w) (aBH.1 hq)
theorem aK.frame {H':PH} {B1 B2 B':List BX} {L1 L2 L':List LI} (h:aK H (B1++B2) (L1++L2)) (w:aK H' B' L') (J:kJ H (H.only (dU B1++cY L1)) H'):aK (H.over (H.only (dU B1++cY L1)) H') (B'++B2) (L'++L2):=by
 have E:aK H B2 L2:=h.sub (List.sublist_append_right ..) (List.sublist_append_right ..);have l:∀ q,q∈dU B2∨q∈cY L2→¬ (q∈dU B1++cY L1):=by
  intro q hq K;have j:=h.nd;rw[show dU (B1++B2)=dU B1++dU B2 from aBO,lH] at j;have e:aCO ((dU B1++dU B2)++(cY L1++cY L2)) ((dU B1++cY L1)++(dU B2++cY L2)):=by rw[aBE,aBE];exact aCO.append_left _ (by rw[← aBE,← aBE]; exact aCO.append_right _ List.perm_append_comm)
  rw[e.nodup_iff,aCZ] at j;exact j.2.2 q K q (aBH.2 hq) rfl
 have new:∀ q,q∈dU B'∨q∈cY L'→(H.over (H.only (dU B1++cY L1)) H') q=H' q:=by intro q hq;obtain⟨x,hx⟩:=w.yT hq;rw[oP,hx]
 have I:∀ q,q∈dU B2∨q∈cY L2→(H.over (H.only (dU B1++cY L1)) H') q=H q:=by
  intro q hq;obtain⟨x,hx⟩:=E.yT hq;have A:(H.only (dU B1++cY L1)) q=none:=by rw[qC,if_neg (l q hq)]
  rw[oP];cases e:H' q with
  | none=>simp only[A]
  | some y =>have:=J q y e A;rw[hx] at this; cases this
 have k1:=w.keep new;have k2:=E.keep I;refine⟨fun b hb=>?_,fun x hx=>?_,?_⟩
 ·rcases aBH.1 hb with hb | hb
  ·exact k1.box b hb
  ·exact k2.box b hb
 ·rcases aBH.1 hx with hx | hx
  ·exact k1.lst x hx
  ·exact k2.lst x hx
 ·rw[show dU (B'++B2)=dU B'++dU B2 from aBO,lH];refine apS w.nd E.nd fun q hq u=>?_;obtain⟨x,hx⟩:=w.yT hq;obtain⟨y,M⟩:=E.yT u;have A:(H.only (dU B1++cY L1)) q=none:=by rw[qC,if_neg (l q u)]
  have:=J q x hx A;rw[M] at this; cases this
theorem DH {name:Nat} {vs:List PV} {args:List aN} {d:Option Nat} {K:PF→PH→Prop} {B1 B2:List BX} {L1 L2:List LI} {Q:PV→List BX→List LI→Prop} (h:aK H (B1++B2) (L1++L2))
  (w:∀ j,aK j B1 L1→aG C name vs j (fun r H'=>∃ B' L',Q r B' L'∧aK H' B' L')) (u:aN.evs F args=some vs)
  (x:∀ r B' L' H',Q r B' L'→aK H' (B'++B2) (L'++L2)→K (F.put d r) H'):fU C name args [] d K F H:=by
 refine dS (w (H.only (dU B1++cY L1)) (h.only (aDY ..) (aDY ..))) u (QK H _) ?_;rintro r H' ⟨B',L',hq,l⟩ e;exact x r B' L' _ hq (h.frame l e)
theorem aK.mP {B:List BX} {o:Nat} {x:bF} (h:aK H (B++[(o,x)]) L):H o=some x:=h.box (o,x) (by simp)
theorem aK.rY {B:List BX} {o:Nat} {x:bF} (h:aK H (B++[(o,x)]) L) (y:bF):aK (H.set o y) (B++[(o,y)]) L:=by
 have:=h.set B.length (o:=o) (x:=x) (by simp) y
 rwa [aDQ _ _ (aAF _),Nat.sub_self] at this
theorem aK.dropLast {B:List BX} {b:BX} (h:aK H (B++[b]) L):aK H B L:=h.sub (aDY ..) (aCG.refl _)
theorem aK.anK {B:List BX} {o:Nat} {x:bF} (h:aK H ((o,x)::B) L) (y:bF):aK (H.set o y) ((o,y)::B) L:=h.set 0 rfl y
theorem aK.aoZ {B:List BX} {o:Nat} {x:bF} (h:aK H ((o,x)::B) L):H o=some x:=h.at 0 rfl
theorem lK {name o:Nat} {x y:bF} {r:PV} {vs:List PV} {args:List aN} {d:Option Nat} {K:PF→PH→Prop} (h:aG C name vs (PH.nil.set o x) (fun e H'=>e=r∧H'=PH.nil.set o y)) (u:H o=some x) (j:aN.evs F args=some vs)
  (l:K (F.put d r) (H.set o y)):fU C name args [] d K F H:=by
 refine dS h j (e_ a_ u) ?_;rintro e H' ⟨rfl,rfl⟩ -;rw[PH.pL];exact l
theorem v6 {Hs:PH} {S:Spec} {name o:Nat} {x y:bF} {r:PV} {vs:List PV} {R:PH→PV→PH→Prop} {args:List aN} {st:Bool} {d:Option Nat} {K:PF→PH→Prop} (N:S name vs=some ([o],R)) (M:H o=some x)
  (h:aG C name vs (PH.nil.set o x) (fun j H'=>j=r∧H'=PH.nil.set o y)) (l:R (PH.nil.set o x) r (PH.nil.set o y)) (A:∀ j H',R (PH.nil.set o x) j H'→j=r∧H'=PH.nil.set o y) (O:aN.evs F args=some vs)
  (E:Hs.le (H.set o y)) (U:K (F.put d r) (H.set o y)):dOp C Hs S st (.call name args) d K F H:=by
 have e:=Fq M;refine⟨vs,[o],_,O,N,fun q hq=>?_,?_,fun G=>⟨r,_,by rw[e]; exact l,fun q z J w=>?_⟩,fun j H' u _=>?_⟩
 ·simp at hq; subst hq; exact⟨x,M⟩
 ·rw[e];exact h.post fun j H' u=>⟨j,.refl _,by rw[u.1,u.2]; exact l⟩
 ·rw[e] at w;rw[aQ] at J w;split at w
  ·cases w
  ·rename_i I;rw[if_neg I] at J; cases J
 ·rw[e] at u;obtain⟨rfl,rfl⟩:=A j H' u;rw[e,PH.pL];exact⟨E,U⟩
theorem agN {s:Nat} {q z:Nat} {rs:List (List PV)} {v:PV} {rows:List (List PV)} (h:bY H s v rows) (l:v.oid≠some q):bY (H.frz q z rs) s v (rows.map fun r=>r.map (PV.bP q z rs)):=by
 rcases h with ⟨rfl,rfl⟩ | ⟨p,rs',rfl,h1,h2,h3⟩
 ·exact .inl ⟨rfl,rfl⟩
 ·have j:¬ p=q:=fun e=>l (by rw[e]; rfl);refine .inr ⟨p,rs'.map fun r=>r.map (PV.bP q z rs),by rw[aAA],?_,by simpa using h2,?_⟩
  ·rw[uG,if_neg j,h1]; rfl
  ·rw[aAA,← List.map_take,h3]
theorem aK.frz (h:aK H B L) (i:Nat) {q s k:Nat} {rows:List (List PV)} (hi:L[i]?=some (.osl q s 0 k,s,rows)):∃ rs,H q=some (.rows s rs)∧PV.bP q s rs (.osl q s 0 k)=.sl s rows∧PV.frz q s rs (.osl q s 0 k)=.sl s rows∧(∀ j x,j≠i→L[j]?=some x→PV.bP q s rs x.1=x.1) ∧
  aK (H.frz q s rs) (B.map fun b=>(b.1,b.2.frz q s rs)) ((L.eraseIdx i).map fun x=>(x.1,x.2.1,x.2.2.map fun r=>r.map (PV.bP q s rs))):=by
 obtain⟨rs,U,V,W,X⟩:=(h.own i hi).id rfl;injection V with _ _ _ hk
 subst hk;have e:PV.frz q s rs (.osl q s 0 rows.length)=.sl s rows:=by rw[rT W,X]
 refine⟨rs,U,e,e,?_⟩;refine⟨fun j x J R=>?_,?_⟩
 ·have u:x.1.oid≠some q:=by
   intro u;obtain⟨K,he⟩:=aBD.1 hi;obtain⟨α,Y⟩:=aBD.1 R;have w:x∈L.eraseIdx i:=List.mem_eraseIdx_iff_getElem?.2 ⟨j,J,R⟩;have l:=h.ndL;have N:L=L.take i++(L[i]::L.drop (i+1)):=by rw[← aCK K,aDA]
   rw[List.eraseIdx_eq_take_drop_succ] at w;rw[N,lH] at l;have I:cY (L[i]::L.drop (i+1))=q::cY (L.drop (i+1)):=by rw[he]; rfl
   rw[I,aCZ] at l;obtain⟨a,b,c⟩:=l;rcases aBH.1 w with hx | hx
   ·exact c q (mA hx u) q (by simp) rfl
   ·exact (List.nodup_cons.1 b).1 (mA hx u)
  cases hx:x.1<;>try rfl
  rename_i p z β len;have:¬ p=q:=fun e=>u (by rw[hx,e]; rfl);simp only[PV.bP,if_neg this]
 obtain⟨L1,L2,e1,e2⟩:=Bm (v':=.aA) (s':=s) (rows':=rows) hi;have Z:i=L1.length∨True:=.inr trivial;have y:(L.eraseIdx i).Sublist L:=List.eraseIdx_sublist ..;have M:∀ x∈L.eraseIdx i,x.1.oid≠some q:=by
  intro x hx u;obtain⟨K,he⟩:=aBD.1 hi;have l:=h.ndL;have N:L=L.take i++(L[i]::L.drop (i+1)):=by rw[← aCK K,aDA]
  rw[List.eraseIdx_eq_take_drop_succ] at hx;rw[N,lH] at l;have I:cY (L[i]::L.drop (i+1))=q::cY (L.drop (i+1)):=by rw[he]; rfl
  rw[I,aCZ] at l;obtain⟨a,b,c⟩:=l;rcases aBH.1 hx with hx | hx
  ·exact c q (mA hx u) q (by simp) rfl
  ·exact (List.nodup_cons.1 b).1 (mA hx u)
 refine⟨fun b hb=>?_,fun x hx=>?_,?_⟩
 ·obtain⟨O,A,rfl⟩:=aAW.1 hb;have:¬ O.1=q:=h.ndX (uI A) (mA (aCA hi) rfl);simp only;rw[uG,if_neg this,h.box O A]; rfl
 ·obtain⟨S,E,rfl⟩:=aAW.1 hx;exact agN (h.lst S (y.subset E)) (M S E)
 ·have i1:dU (B.map fun b=>(b.1,b.2.frz q s rs))=dU B:=by unfold dU; rw[aDE]; rfl
  have i2:cY ((L.eraseIdx i).map fun x=>(x.1,x.2.1,x.2.2.map fun r=>r.map (PV.bP q s rs)))=cY (L.eraseIdx i):=by unfold cY; rw[List.filterMap_map]; rfl
  rw[i1,i2];exact List.Nodup.sublist (aCG.append (aCG.refl _) (y.filterMap _)) h.nd
def Flat (rows:List (List PV)):Prop:=∀ q s rs,rows.map (fun r=>r.map (PV.bP q s rs))=rows
theorem Flat.nil:Flat []:=fun _ _ _=>rfl
theorem Flat.of {rows:List (List PV)} (h:∀ r∈rows,∀ c∈r,∀ q s rs,PV.bP q s rs c=c):Flat rows:=fun q s rs=>by
 conv=>rhs; rw[← List.map_id rows]
 refine aCC fun r j=>?_
 conv=>rhs; rw[id,← List.map_id r]
 exact aCC fun c e=>h r j c e q s rs
theorem Flat.map {α:Type} {f:α→List PV} (l:List α) (h:∀ x,∀ c∈f x,∀ q s rs,PV.bP q s rs c=c):Flat (l.map f):=Flat.of fun r e=>by
 obtain⟨x,_,rfl⟩:=aAW.1 e;exact h x
theorem Flat.append {r1 r2:List (List PV)} (e:Flat r1) (j:Flat r2):Flat (r1++r2):=fun q s rs=>by rw[aBO,e,j]
theorem aK.flat {φ:PV→List (List PV)} (h:aK H B L):aK H B L:=h
def nU (v:PV) (H:PH) (R:PV→PH→Prop):Prop:=∃ e j H2,iU (PF.nil.set 0 v) H e j∧H2.le j∧∃ u,e 0=some u∧R u H2
theorem nU.done {v:PV} {H2:PH} {R:PV→PH→Prop} (j:R v H2) (e:H2.le H):nU v H R:=⟨_,_,H2,.refl _ _,e,v,by rw[mF,if_pos rfl],j⟩
theorem nU.step {v:PV} {q s:Nat} {rs:List (List PV)} {R:PV→PH→Prop} (hq:H q=some (.rows s rs)) (h:nU (PV.frz q s rs v) (H.frz q s rs) R):nU v H R:=by
 obtain⟨j,l,H2,u,w,x⟩:=h;have e:(PF.nil.set 0 v).frz q s rs=PF.nil.set 0 (PV.frz q s rs v):=by funext i;rw[kF,mF,mF];split<;>rfl
 exact⟨j,l,H2,.step q hq (by rw[e]; exact u),w,x⟩
theorem oR {res:List dT} {R:PV→PH→Prop} {vs:List PV} {e:kC} (he:e=.normal∨e=.ret) (h:dT.evs F H res=some vs) (x:nU (dB vs) H R):aT res R e F H:=by
 have j:∃ vs,dT.evs F H res=some vs∧∃ l w H2,iU (PF.nil.set 0 (dB vs)) H l w∧H2.le w∧∃ u,l 0=some u∧R u H2:=⟨vs,h,x⟩;rcases he with rfl | rfl<;>exact j
theorem FH {u:PV} (h:u.oid=none) (q s:Nat) (rs:List (List PV)):PV.bP q s rs u=u:=by
 cases u<;>first | rfl | (simp[PV.oid] at h)
theorem Seen.co {s:Nat} {v:PV} {rows:List (List PV)} (h:Seen s v rows):Co v (.sl s rows):=by
 rcases h with ⟨rfl,rfl⟩ | rfl
 ·exact .nil s
 ·exact .refl _
theorem aK.giveUp:∀ (L:List LI) {H:PH} {B:List BX},aK H B L→(∀ x∈L,Flat x.2.2)→(∀ b∈B,∀ q s rs,bF.frz q s rs b.2=b.2) →
  ∃ (φ:PV→PV) (y:PH),(∀ x∈L,Seen x.2.1 (φ x.1) x.2.2)∧(∀ u,u.oid=none→φ u=u)∧aK y B []∧∀ cs R,nU (.agg (cs.map φ)) y R→nU (.agg cs) H R
 | [],H,B,h,_,_=>⟨id,H,by simp,fun _ _=>rfl,h,fun cs R I=>by rwa [List.map_id] at I⟩
 | (w,s,rows)::L,H,B,h,E,hB=>by
  have l:∀ q z rs,(L.map fun x=>(x.1,x.2.1,x.2.2.map fun r=>r.map (PV.bP q z rs)))=L:=fun q z rs=>by
   conv=>rhs; rw[← List.map_id L]
   refine aCC fun x hx=>?_;rw[E x (by simp[hx]) q z rs]; rfl
  rcases h.own 0 rfl with ⟨A,S⟩ | ⟨q,rs,A,_⟩
  ·obtain⟨φ,y,k1,k2,J,K⟩:=aK.giveUp L (h.ET 0) (fun x hx=>E x (by simp[hx])) hB;refine⟨φ,y,fun x hx=>?_,k2,J,K⟩;rw[aAK] at hx;rcases hx with rfl | hx
   ·exact .inl ⟨A,by simp only; rw[S]; exact k2 _ rfl⟩
   ·exact k1 x hx
  ·subst A;obtain⟨rs,V,W,Z,X,N⟩:=h.frz 0 rfl;have Y:aK (H.frz q s rs) B L:=by
    have O:(B.map fun b=>(b.1,b.2.frz q s rs))=B:=by
     conv=>rhs; rw[← List.map_id B]
     refine aCC fun b hb=>?_;rw[hB b hb q s rs]; rfl
    rw[O] at N;have:=N;simp only[List.eraseIdx_cons_zero] at this
    rwa [l q s rs] at this
   obtain⟨φ,y,k1,k2,J,K⟩:=aK.giveUp L Y (fun x hx=>E x (by simp[hx])) hB;refine⟨fun u=>φ (PV.bP q s rs u),y,fun x hx=>?_,fun u M=>?_,J,fun cs R I=>?_⟩
   ·rw[aAK] at hx;rcases hx with rfl | hx
    ·simp only;rw[W];exact .inr (k2 _ rfl)
    ·obtain⟨j,U⟩:=List.mem_iff_getElem?.1 hx;have:=X (j+1) x Om (by simpa using U);simp only;rw[this];exact k1 x hx
   ·simp only;rw[FH M,k2 u M]
   ·refine .step V ?_;have e:PV.frz q s rs (.agg cs)=.agg (cs.map (PV.bP q s rs)):=rfl;rw[e];refine K _ R ?_;rw[aDE];exact I
theorem AJ {K:cK} {α:Type} {e:α→PF} {Hs:α→PH} {j:α→Prop} {m:α→Nat} {n q s:Nat} {rs:List (List PV)} (a:α) (hq:H q=some (.rows s rs)) (l:j a) (x:m a<n) (u:(e a).le (F.frz q s rs)) (w:(Hs a).le (H.frz q s rs)):jU e Hs j m n K .normal F H :=
 ⟨a,_,_,.step q hq (.refl _ _),l,x,u,w⟩
end
structure zX (C:Ctx):Prop extends YH C where
 int:∀ n:Int,dO n→aG C 47 [.int .i64 n] .nil (aM (.agg (mkT n 1).cells))
 itoa:∀ n:Nat,n<100→aG C 195 [.int .i64 n] .nil (aM (.str (bU n)))
 next:∀ (l:List Nat) (v:PV),Tp l v→∀ (o n a:Nat),n≤1000000→a≤l.length→aG C 4 [.ptr o 2 0 0,.int .i64 n] (PH.nil.set o (aS v a)) (YE l v o n a)
section
variable {C:Ctx} {F:PF} {H:PH} {l:List Nat} {v:PV} {o a:Nat}
theorem cX (j:zX C) (T:Tp l v) {n:Nat} {args:List aN} {d:Option Nat} {K:PF→PH→Prop} (x:n≤1000000) (u:a≤l.length) (e:aN.evs F args=some [.ptr o 2 0 0,.int .i64 n]) (y:H o=some (aS v a))
  (w:K (F.put d (.int .i64 ((aD l n a).1:Nat))) (H.set o (aS v (aD l n a).2))):fU C 4 args [] d K F H :=
 lK (j.next l v T o n a x u) y e w
end
def ahX (l:List Nat) (v:PV) (o a:Nat) (r:PV) (H:PH):Prop:=r=.agg (fO l a).1.cells∧H=PH.nil.set o (aS v (fO l a).2)
theorem uB (l:List Nat) {a:Nat} (h:a≤l.length):(fO l a).2≤l.length:=bE l 8 (bE l 6 h)
theorem aeF {C:Ctx} (j:zX C) {l:List Nat} {v:PV} (T:Tp l v) (o a:Nat) (x:a≤l.length):HC.wp C (aT T7.res (ahX l v o a)) (PF.args [.ptr o 2 0 0]) (PH.nil.set o (aS v a)):=by
 simp only[go_sem,HC,Cy,T7];refine aP fun p K=>?_;have y:¬ p=o:=(iY.1 K).1;have e:¬ o=p:=fun h=>y h.symm;have M:=cF l (show 0<6 by decide) a;have a1:=bE l 6 x;simp only[go_sem,Cz];refine cX j T (o:=o) (n:=6) (a:=a) (by decide) x rfl (by simp only[go_sem,e]) ?_;have E:IntKind.i64.wrap (1+((aD l 6 a).1:Int))=((1+(aD l 6 a).1:Nat):Int):=by rw[wrap_i64 Om Om]; omega
 simp only[go_sem,E];have N:=cF l (show 0<8 by decide) (aD l 6 a).2;refine cX j T (o:=o) (n:=8) (a:=(aD l 6 a).2) (by decide) a1 rfl Sq ?_;have I:IntKind.i64.wrap (1+((aD l 8 (aD l 6 a).2).1:Int))=((1+(aD l 8 (aD l 6 a).2).1:Nat):Int):=by rw[wrap_i64 Om Om]; omega
 simp only[go_sem,I];refine aB (j.fmk ((1+(aD l 6 a).1:Nat):Int) ((1+(aD l 8 (aD l 6 a).2).1:Nat):Int) (by unfold dO; omega) (by unfold dO; omega)) rfl ?_;have J:¬ ((1+(aD l 8 (aD l 6 a).2).1:Nat):Int)=0:=Om;unfold wL;rw[if_neg J];simp only[go_sem];refine aP fun q hq=>?_;have A:¬ q=o:=(iY.1 hq).1;have B:¬ q=p:=(iY.1 (iY.1 hq).2).1;have w:¬ p=q:=fun h=>B h.symm;have u:¬ o=q:=fun h=>A h.symm;simp only[go_sem,C0,y,e,A,B,w];refine aV (vs:=[.agg (fO l a).1.cells]) (.inr rfl) (PH.nil.set o (aS v (fO l a).2)) ?_ (e_ a_ ?_) ⟨rfl,rfl⟩
 ·simp only[go_sem];rfl
 ·simp only[go_sem,e,u];rfl
structure u6 (C:Ctx):Prop extends zX C where
 frac:∀ (l:List Nat) (v:PV),Tp l v→∀ (o a:Nat),a≤l.length→aG C 1 [.ptr o 2 0 0] (PH.nil.set o (aS v a)) (ahX l v o a)
abbrev gR (l:List RF):List (List PV):=l.map RF.cells
theorem xB (l:List RF) (x:RF):gR l++[x.cells]=gR (l++[x]):=by simp[gR]
theorem FG (l:List RF):Flat (gR l):=Flat.map l fun x c e q s rs=>by
 simp only[RF.cells,gQ,aAK,aAY,or_false] at e;rcases e with rfl | rfl | rfl<;>rfl
theorem mR (l:List RF):(gR l).length=l.length:=by simp[gR]
theorem Tp.frz {l:List Nat} {v:PV} (T:Tp l v) (q s:Nat) (rs:List (List PV)):PV.bP q s rs v=v:=by
 rcases T.seen with ⟨_,rfl⟩ | rfl<;>rfl
theorem DY (l:List Nat) {a:Nat} (h:a≤l.length):∀ k,(kI l a k).2≤l.length
 | 0=>h
 | k+1=>uB l (DY l h k)
theorem Gg (l:List Nat) (a:Nat):∀ k,(kI l a k).1.length=k
 | 0=>rfl
 | k+1=>by simp only[kI,aAE,aAI,Gg l a k]
def aoS (l:List Nat) (v:PV) (o a k:Nat) (r:PV) (H:PH):Prop:=r=frs (kI l a k).1∧H=PH.nil.set o (aS v (kI l a k).2)
def Uc (o:Nat) (m:Nat) (w:PV) (i:Nat):PF:=((((PF.nil.set 0 (.ptr o 2 0 0)).set 1 (.int .i64 m)).set 5 (w)).set 6 (.int .i64 i))
theorem amB {C:Ctx} (K:u6 C) {l:List Nat} {v:PV} (T:Tp l v) (o a m:Nat) (V:m≤1000) (O:a≤l.length):MI.wp C (aT aeU.res (aoS l v o a (max m 1))) (PF.args [.ptr o 2 0 0,.int .i64 m]) (PH.nil.set o (aS v a)):=by
 have x:∀ i:Nat,((i:Int)<(if (m:Int)<1 then 1 else (m:Int)))↔i<max m 1:=by intro i;split<;>omega
 simp only[go_sem,MI,Oy,Oz,O0,aeU];have M:aK (PH.nil.set o (aS v a)) [(o,aS v a)] [(.aA,3,gR [])]:=(aK.nil.new (H:=PH.nil) rfl (aS v a)).mB 3;refine wp_loop (α:=Nat × PV × PH) (fun t=>Uc o m t.2.1 t.1) (fun t=>t.2.2) (fun t=>t.1≤max m 1∧aK t.2.2 [(o,aS v (kI l a t.1).2)] [(t.2.1,3,gR (kI l a t.1).1)]) (fun t=>max m 1-t.1) (0,.aA,PH.nil.set o (aS v a)) ⟨aAP _,M⟩ ?_ b_ ?_
 ·unfold Uc;exact Lq
 rintro⟨k,w,U⟩ ⟨R,u⟩;simp only at R u ⊢;simp only[go_sem,Ox,O1,Uc];have E:=DY l O k;have j:=Gg l a k;by_cases hlt:k<max m 1
 ·have B:=(x k).2 hlt;simp only[go_sem,B,O2];refine lK (K.frac l v T o _ E) (u.at 0 rfl) rfl ?_;have A:=u.set 0 rfl (aS v (fO l (kI l a k).2).2);have y:(1:Nat)*3≤16777216:=by decide
  simp only[go_sem,y];refine A.append 0 (src:=[(fO l (kI l a k).2).1.cells]) rfl rfl (by unfold roomFor; rw[mR,j]; simp only[aAI,maxLen]; omega) fun S H' J _=>?_;rw[xB] at J;simp only[go_sem,O3,wZz k];refine aL (k+1,S,H') ⟨hlt,J⟩ (by simp only; omega) ?_ b_;exact Lq
 ·have B:¬ ((k:Int)<(if (m:Int)<1 then 1 else (m:Int))):=fun h=>hlt ((x k).1 h);have e:k=max m 1:=Om;subst e;simp only[go_sem,B,O4];have I:gR (kI l a (max m 1)).1≠[]:=fun h=>by have:=congrArg List.length h;rw[mR,j] at this;simp at this
  rcases u.own 0 rfl with ⟨N,_⟩ | ⟨q,rs,rfl,_⟩
  ·exact absurd N I
  obtain⟨rs,g1,g2,g3,-,g4⟩:=u.frz 0 rfl;refine oR (vs:=[.osl q 3 0 (gR (kI l a (max m 1)).1).length]) (.inr rfl) rfl (.step g1 (.done (H2:=PH.nil.set o (aS v (kI l a (max m 1)).2)) ?_ (e_ a_ ?_)))
  ·rw[dB,g3];exact⟨rfl,rfl⟩
  ·have:=g4.at 0 rfl;rw[this];simp only[bF.frz,aBG,aCP,T.frz];rfl
theorem aeN {C:Ctx} (j:zX C) (s:List UInt8) (n:Nat) (x:s.length≤100) (u:n<100):HG.wp C (aT Ua.res (aM (.str (s++bU n)))) (PF.args [.str s,.int .i64 n]) .nil:=by
 have w:(bU n).length≤2:=by
  unfold bU;rw[Lib.decDigits];split
  ·simp
  ·rw[Lib.decDigits,dif_pos Om]; simp
 have e:¬ (((s.length+(bU n).length:Nat):Int)>9223372036854775807):=Om;simp only[go_sem,HG,Dk,Dl,Ua];refine aB (j.itoa n u) rfl ?_;simp only[go_sem,Sf,e];refine cD (.inr rfl) rfl ?_;rfl
structure sL (C:Ctx):Prop extends u6 C where
 rep:∀ (l:List Nat) (v:PV),Tp l v→∀ (o a m:Nat),m≤1000→a≤l.length→aG C 5 [.ptr o 2 0 0,.int .i64 m] (PH.nil.set o (aS v a)) (aoS l v o a (max m 1))
 name:∀ (s:List UInt8) (n:Nat),s.length≤100→n<100→aG C 29 [.str s,.int .i64 n] .nil (aM (.str (s++bU n)))
theorem abC (l:List Nat) (i j:Nat) {a:Nat} (h:a≤l.length):(jE l i j a).2≤l.length:=by
 unfold jE;split
 ·exact uB l h
 ·split
  ·exact h
  ·simp only;split
   ·exact uB l (bE l 3 h)
   ·exact bE l 3 h
theorem j8 (l:List Nat) (i:Nat) {a:Nat} (h:a≤l.length):∀ j,(dR l i a j).2≤l.length
 | 0=>h
 | j+1=>abC l i j (j8 l i h j)
theorem XH (l:List Nat) (i a:Nat):∀ j,(dR l i a j).1.length=j
 | 0=>rfl
 | j+1=>by simp only[dR,aAE,aAI,XH l i a j]
theorem VA (l:List Nat) (n i:Nat) (s:BC) (h:s.a≤l.length):(dQ l n i s).2≤l.length∧(dQ l n i s).1≤s.left:=by
 unfold dQ;split
 ·exact⟨bE l _ h,by have:=cF l (Om:0<s.left+1) s.a; omega⟩
 ·exact⟨h,aAF _⟩
theorem wh (l:List Nat) (n i:Nat) {a:Nat} (h:a≤l.length):(fC l n i a).2≤l.length:=by
 unfold fC;simp only;split
 ·exact bE l 3 (uB l h)
 ·exact uB l h
theorem iy (l:List Nat) (n:Nat) {a:Nat} (h:a≤l.length):∀ i,(gA l n a i).a≤l.length∧(gA l n a i).left≤8∧(gA l n a i).start.length=i∧(gA l n a i).exit.length=i∧(gA l n a i).ayR.length=i
 | 0=>⟨h,aAF _,rfl,rfl,rfl⟩
 | i+1=>by
  obtain⟨e,x,j,u,h5⟩:=iy l n h i;have w:=VA l n i (gA l n a i) e;refine⟨?_,?_,?_,?_,?_⟩
  ·exact j8 l i (wh l n i w.1) n
  ·simp only[gA]; omega
  ·simp only[gA,aAE,aAI,j]
  ·simp only[gA,aAE,aAI,u]
  ·simp only[gA,aAE,aAI,h5]
abbrev uP (l:List (List RF)):List (List PV):=l.map fun r=>[frs r]
theorem rh (l:List (List RF)):Flat (uP l):=Flat.map l fun x c e q s rs=>by
 simp only[aAK,aAY,or_false] at e;subst e; rfl
abbrev UZ (e j l:PV):bF:=.rows 4 [[.str [],e,j,l]]
abbrev Br:bF:=.rows 4 [[.str [],.aA,.aA,.aA]]
def fP (o o4 o6 n left i:Nat) (w:PV) (j:Nat):PF:=((((((((PF.nil.set 0 (.ptr o 2 0 0)).set 4 (.ptr o4 4 0 0)).set 5 (.int .i64 n)).set 6 (.ptr o6 4 0 0)).set 7 (.int .i64 left)).set 8 (.int .i64 i)).set 13 (w)).set 14 (.int .i64 j))
def cU (o o4 o6 n left i:Nat):PF:=((((((PF.nil.set 0 (.ptr o 2 0 0)).set 4 (.ptr o4 4 0 0)).set 5 (.int .i64 n)).set 6 (.ptr o6 4 0 0)).set 7 (.int .i64 left)).set 8 (.int .i64 i))
theorem VN {l:List RF} (h:l.length≤1000):roomFor (gR l).length 1 56:=by
 unfold roomFor;rw[mR];simp only[maxLen]; omega
theorem aeM {C:Ctx} (W:sL C) {l:List Nat} {v:PV} (T:Tp l v) (o o4 o6 n left i a:Nat) (ha:a≤l.length) (hn:n≤100) (hi:i<n) (B:List BX) (L:List LI) (K:cK) (F:PF) (H:PH)
  (hF:(fP o o4 o6 n left i .aA 0).le F) (O:aK H ((o,aS v a)::B) L)
  (hK:∀ w y H',(fP o o4 o6 n left i w n).le y→aK H' ((o,aS v (dR l i a n).2)::B) (L++[(w,3,gR (dR l i a n).1)])→K (.exit 2) y H') :
  aE.wp C (.loop HE) K F H:=by
 refine wp_loop (α:=Nat × PV × PH) (fun t=>fP o o4 o6 n left i t.2.1 t.1) (fun t=>t.2.2) (fun t=>t.1≤n∧aK t.2.2 ((o,aS v (dR l i a t.1).2)::B) (L++[(t.2.1,3,gR (dR l i a t.1).1)])) (fun t=>n-t.1) (0,.aA,H) ⟨aAP _,O.mB 3⟩ hF b_ ?_;rintro⟨j,w,H0⟩ ⟨hj,O⟩;simp only at hj O ⊢;have N:=j8 l i ha j;have ε:=XH l i a j;have e1:IntKind.i64.wrap ((i:Int)+1)=((i+1:Nat):Int):=dN Om;simp only[go_sem,HE,Df,fP];by_cases hlt:j<n
 ·have I:(j:Int)<(n:Nat):=Om;simp only[go_sem,I,Dg];refine aB (W.int 0 (by unfold dO; omega)) rfl ?_;simp only[go_sem];refine aP fun p hp=>?_;have A:=O.new hp (.rows 3 [jW.cells]);simp only[go_sem,Dh,e1];have fin:∀ (y:PF) (H':PH),(fP o o4 o6 n left i w j).le y→y 15=some (.ptr p 3 0 0)→aK H' ((o,aS v (jE l i j (dR l i a j).2).2)::B++[(p,.rows 3 [(jE l i j (dR l i a j).2).1.cells])]) (L++[(w,3,gR (dR l i a j).1)]) →
    aE.wp C (.region VW) (fZ 3 (mE C (aE.wp C (.region VX)) (jU (fun (t:Nat × PV × PH)=>fP o o4 o6 n left i t.2.1 t.1) (fun t=>t.2.2) (fun t=>t.1≤n∧aK t.2.2 ((o,aS v (dR l i a t.1).2)::B) (L++[(t.2.1,3,gR (dR l i a t.1).1)])) (fun t=>n-t.1) (n-j) K))) y H':=by
   intro y H' e J R;have f0:y 0=some (.ptr o 2 0 0):=e 0 _ (by unfold fP; simp only[go_sem]);have f4:y 4=some (.ptr o4 4 0 0):=e 4 _ (by unfold fP; simp only[go_sem]);have f5:y 5=some (.int .i64 n):=e 5 _ (by unfold fP; simp only[go_sem]);have f6:y 6=some (.ptr o6 4 0 0):=e 6 _ (by unfold fP; simp only[go_sem]);have f7:y 7=some (.int .i64 left):=e 7 _ (by unfold fP; simp only[go_sem]);have f8:y 8=some (.int .i64 i):=e 8 _ (by unfold fP; simp only[go_sem]);have f13:y 13=some w:=e 13 _ (by unfold fP; simp only[go_sem]);have f14:y 14=some (.int .i64 j):=e 14 _ (by unfold fP; simp only[go_sem]);have γ:H' p=some (.rows 3 [(jE l i j (dR l i a j).2).1.cells]):=R.box (p,.rows 3 [(jE l i j (dR l i a j).2).1.cells]) (by simp);have Y:(1:Nat)*3≤16777216:=by decide
   simp only[go_sem,VW,f13,J,γ,Y];refine R.append (v:=w) (s:=3) (rows:=gR (dR l i a j).1) L.length (src:=[(jE l i j (dR l i a j).2).1.cells]) (by simp) rfl (VN Om) fun w' H2 h2 _=>?_;rw[xB,aDQ _ _ (aAF _),Nat.sub_self] at h2;simp only[go_sem,VX,f14,wZz j];refine aL (α:=Nat × PV × PH) (j+1,w',H2) ⟨hlt,h2.sub (aDY ..) (aCG.refl _)⟩ (by simp only; omega) ?_ b_;unfold fP;exact Lq
  simp only[aE.wp,go_sem] at fin;have V:∀ x:RF,PH.set (PH.set H0 p (.rows 3 [jW.cells])) p (.rows 3 [x.cells])=PH.set H0 p (.rows 3 [x.cells]):=fun x=>PH.set_set p _ _;have draw:∀ (y:PF) (S:PH) (a1:Nat),a1≤l.length→(fP o o4 o6 n left i w j).le y→y 15=some (.ptr p 3 0 0)→aK S ((o,aS v a1)::B++[(p,.rows 3 [jW.cells])]) (L++[(w,3,gR (dR l i a j).1)])→jE l i j (dR l i a j).2=fO l a1→∀ K',(∀ M H2,(fP o o4 o6 n left i w j).le M→M 15=some (.ptr p 3 0 0)→aK H2 ((o,aS v (jE l i j (dR l i a j).2).2)::B++[(p,.rows 3 [(jE l i j (dR l i a j).2).1.cells])]) (L++[(w,3,gR (dR l i a j).1)])→K' M H2) →
    wpOps C VV K' y S:=by
   intro y S a1 β e J A he K' Z;have f0:y 0=some (.ptr o 2 0 0):=e 0 _ (by unfold fP; simp only[go_sem]);simp only[go_sem,VV,f0];refine lK (W.frac l v T o a1 β) (A.at 0 rfl) rfl ?_;have E:aK (S.set o (aS v (fO l a1).2)) ((o,aS v (fO l a1).2)::B++[(p,.rows 3 [jW.cells])]) (L++[(w,3,gR (dR l i a j).1)]):=A.set 0 rfl _;have δ:=E.mP;simp only[go_sem,J,δ];refine Z _ _ ?_ (by simp only[go_sem,J]) ?_
   ·have g:=fun (q:Nat) u h=>e q u h;unfold fP at g ⊢;refine d_ (d_ (d_ (d_ (d_ (d_ (d_ (d_ c_ ?_) ?_) ?_) ?_) ?_) ?_) ?_) ?_
    ·simp only[go_sem,f0]
    ·simp only[go_sem,g 4 _ rfl]
    ·simp only[go_sem,g 5 _ rfl]
    ·simp only[go_sem,g 6 _ rfl]
    ·simp only[go_sem,g 7 _ rfl]
    ·simp only[go_sem,g 8 _ rfl]
    ·simp only[go_sem,g 13 _ rfl]
    ·simp only[go_sem,g 14 _ rfl]
   ·rw[he];exact E.rY (.rows 3 [(fO l a1).1.cells])
  by_cases U:j=i+1
  ·have he:jE l i j (dR l i a j).2=fO l (dR l i a j).2:=by unfold jE; rw[if_pos U]
   simp only[go_sem,bO (Om:(j:Int)=((i+1:Nat):Int))];refine draw _ _ _ N (by unfold fP; exact Lq) rfl A he _ ?_;intro M H2 k1 k2 k3;exact fin M H2 k1 k2 k3
  ·simp only[go_sem,bC (Om:¬ (j:Int)=((i+1:Nat):Int))];by_cases X:j=i
   ·have he:jE l i j (dR l i a j).2=(jW,(dR l i a j).2):=by unfold jE; rw[if_neg U,if_pos X]
    simp only[go_sem,cM (Om:(j:Int)=(i:Int))];exact fin _ _ (by unfold fP; exact Lq) rfl (by rw[he]; exact A)
   ·simp only[go_sem,dP (Om:¬ (j:Int)=(i:Int))];refine cX W.tozX T (o:=o) (n:=3) (a:=(dR l i a j).2) (by decide) N rfl (A.at 0 rfl) ?_;have E:aK _ ((o,aS v (aD l 3 (dR l i a j).2).2)::B++[(p,.rows 3 [jW.cells])]) (L++[(w,3,gR (dR l i a j).1)]):=A.set 0 rfl _;by_cases c3:(aD l 3 (dR l i a j).2).1=0
    ·have he:jE l i j (dR l i a j).2=fO l (aD l 3 (dR l i a j).2).2:=by unfold jE; rw[if_neg U,if_neg X]; simp only[c3,if_true]
     simp only[go_sem,bO (show (((aD l 3 (dR l i a j).2).1:Nat):Int)=0 by omega)];refine draw _ _ _ (bE l 3 N) (by unfold fP; exact Lq) rfl E he _ ?_;intro M H2 k1 k2 k3;exact fin M H2 k1 k2 k3
    ·have he:jE l i j (dR l i a j).2=(jW,(aD l 3 (dR l i a j).2).2):=by unfold jE; rw[if_neg U,if_neg X]; simp only[c3,if_false]
     simp only[go_sem,bC (show ¬ (((aD l 3 (dR l i a j).2).1:Nat):Int)=0 by omega)];exact fin _ _ (by unfold fP; exact Lq) rfl (by rw[he]; exact E)
 ·have I:¬ (j:Int)<(n:Nat):=Om;have:j=n:=Om;subst this;simp only[go_sem,I];exact hK w _ _ (by unfold fP; exact Lq) O
abbrev qU (o o4 o6:Nat) (v e j l:PV) (a:Nat):List BX:=[(o,aS v a),(o4,Br),(o6,UZ e j l)]
abbrev vE (s:BC) (e j l:PV):List LI:=[(e,3,gR s.start),(j,1,uP s.ayR),(l,3,gR s.exit)]
theorem Yg {C:Ctx} (J:sL C) {l:List Nat} {v:PV} (T:Tp l v) (o o4 o6 n i:Nat) (s:BC) (I:s.a≤l.length) (V:s.left≤8) (W:n≤100) (hi:i<n) (B:List BX) (L:List LI) (e:aE) (K:cK) (F:PF) (H:PH)
  (j:(cU o o4 o6 n s.left i).le F) (A:aK H ((o,aS v s.a)::B) L)
  (w:∀ x H',(cU o o4 o6 n (s.left-(dQ l n i s).1) i).le x→x 9=some (.int .i64 ((dQ l n i s).1:Nat))→aK H' ((o,aS v (dQ l n i s).2)::B) L→aE.wp C e K x H') :
  aE.wp C (.seq (.region i7) (.seq (.seq (.region i8) (.cond (.tmp 29) (.region i9) .skip)) (.seq (.region QE) e))) K F H:=by
 have f0:F 0=some (.ptr o 2 0 0):=j 0 _ (by unfold cU; simp only[go_sem]);have S:F 4=some (.ptr o4 4 0 0):=j 4 _ (by unfold cU; simp only[go_sem]);have O:F 5=some (.int .i64 n):=j 5 _ (by unfold cU; simp only[go_sem]);have f6:F 6=some (.ptr o6 4 0 0):=j 6 _ (by unfold cU; simp only[go_sem]);have f7:F 7=some (.int .i64 s.left):=j 7 _ (by unfold cU; simp only[go_sem]);have R:F 8=some (.int .i64 i):=j 8 _ (by unfold cU; simp only[go_sem]);have M:IntKind.i64.wrap ((i:Int)+1)=((i+1:Nat):Int):=dN Om;have U:=(VA l n i s I).2;have u:IntKind.i64.wrap ((s.left:Int)-((dQ l n i s).1:Int))=((s.left-(dQ l n i s).1:Nat):Int):=by rw[wrap_i64 Om Om]; omega
 simp only[go_sem,i7,f7,i8,R,O,M];by_cases c:i+1<n
 ·have y:((i+1:Nat):Int)<(n:Nat):=Om;have he:dQ l n i s=aD l (s.left+1) s.a:=by unfold dQ; rw[if_pos c]
  have N:IntKind.i64.wrap ((s.left:Int)+1)=((s.left+1:Nat):Int):=dN Om;rw[he] at w u;simp only[go_sem,y,i9,f0,f7,N];refine cX J.tozX T (o:=o) (n:=s.left+1) (a:=s.a) Om I rfl A.aoZ ?_;have E:=A.anK (aS v (aD l (s.left+1) s.a).2);simp only[go_sem,QE,f7,u];refine w _ _ ?_ rfl E;unfold cU;exact Lq
 ·have y:¬ ((i+1:Nat):Int)<(n:Nat):=Om;have he:dQ l n i s=(s.left,s.a):=by unfold dQ; rw[if_neg c]
  rw[he] at w u;simp only at w u;simp only[go_sem,y,QE,f7,u];refine w _ _ ?_ rfl A;unfold cU;exact Lq
theorem T9 {C:Ctx} (R:sL C) {l:List Nat} {v:PV} (o o4 o6 n i left k a:Nat) (hk:k≤8) (hi:i<n) (hn:n≤100) (s:BC) (hs:s.start.length=i) (O x A:PV) (B:List BX) (e:aE) (K:cK) (F:PF) (H:PH)
  (w:(cU o o4 o6 n left i).le F) (S:F 9=some (.int .i64 k)) (X:aK H (qU o o4 o6 v O x A a++B) (vE s O x A))
  (Y:∀ u N H' B',(cU o o4 o6 n left i).le N→aK H' (qU o o4 o6 v u x A a++B') (vE { s with start:=s.start++[mkT (k:Nat) 8] } u x A)→aE.wp C e K N H') :
  aE.wp C (.seq (.region VO) (.seq (.region VP) e)) K F H:=by
 have f0:F 0=some (.ptr o 2 0 0):=w 0 _ (by unfold cU; simp only[go_sem]);have f4:F 4=some (.ptr o4 4 0 0):=w 4 _ (by unfold cU; simp only[go_sem]);have f5:F 5=some (.int .i64 n):=w 5 _ (by unfold cU; simp only[go_sem]);have f6:F 6=some (.ptr o6 4 0 0):=w 6 _ (by unfold cU; simp only[go_sem]);have f7:F 7=some (.int .i64 left):=w 7 _ (by unfold cU; simp only[go_sem]);have f8:F 8=some (.int .i64 i):=w 8 _ (by unfold cU; simp only[go_sem]);simp only[go_sem,VO,S];refine aB (R.fmk (k:Int) 8 (by unfold dO; omega) (by unfold dO; omega)) rfl ?_;unfold wL;rw[if_neg (by decide)];simp only[go_sem];refine aP fun p Z=>?_;have j:=X.new Z (.rows 3 [(mkT (k:Nat) 8).cells]);have U:=j.at 2 rfl;have V:=j.mP;have I:(1:Nat)*3≤16777216:=by decide
 have α:∀ y,PH.set (PH.set H p (.rows 3 [[PV.bool false,PV.aA,PV.aA]])) p y=PH.set H p y:=fun y=>PH.set_set p _ _;simp only[go_sem,VP,f6,U,V,I];refine j.append 0 (src:=[(mkT (k:Nat) 8).cells]) rfl rfl (VN Om) fun u H2 J M=>?_;rw[xB] at J M; rw[mR] at M;obtain⟨q,rfl⟩:=M (by simp);have E:=J.at 2 rfl;simp only[go_sem,E,aAK,aAY,or_false,forall_eq];have W:=J.set 2 rfl (UZ (.osl q 3 0 (s.start++[mkT (k:Nat) 8]).length) x A);refine Y _ _ _ (B++[(p,.rows 3 [(mkT (k:Nat) 8).cells])]) ?_ W;unfold cU;exact Lq
theorem Yf {C:Ctx} (N:sL C) {l:List Nat} {v:PV} (T:Tp l v) (o o4 o6 n i left a:Nat) (ha:a≤l.length) (hi:i<n) (hn:n≤100) (s:BC) (hs:s.exit.length=i) (w x M:PV) (B:List BX) (u:aE) (K:cK) (F:PF) (H:PH)
  (J:(cU o o4 o6 n left i).le F) (hH:aK H (qU o o4 o6 v w x M a++B) (vE s w x M))
  (hK:∀ I e H' B',(cU o o4 o6 n left i).le e→aK H' (qU o o4 o6 v w x I (fC l n i a).2++B') (vE { s with exit:=s.exit++[(fC l n i a).1] } w x I)→aE.wp C u K e H') :
  aE.wp C (.seq (.region VQ) (.seq (.seq (.region VR) (.cond (.tmp 58) (.region VS) .skip)) (.seq (.region HF) u))) K F H:=by
 have f0:F 0=some (.ptr o 2 0 0):=J 0 _ (by unfold cU; simp only[go_sem]);have f4:F 4=some (.ptr o4 4 0 0):=J 4 _ (by unfold cU; simp only[go_sem]);have f5:F 5=some (.int .i64 n):=J 5 _ (by unfold cU; simp only[go_sem]);have f6:F 6=some (.ptr o6 4 0 0):=J 6 _ (by unfold cU; simp only[go_sem]);have f7:F 7=some (.int .i64 left):=J 7 _ (by unfold cU; simp only[go_sem]);have f8:F 8=some (.int .i64 i):=J 8 _ (by unfold cU; simp only[go_sem]);have e1:IntKind.i64.wrap ((i:Int)+1)=((i+1:Nat):Int):=dN Om;simp only[go_sem,VQ,f0];refine lK (N.frac l v T o a ha) (hH.at 0 rfl) rfl ?_;have X:=hH.set 0 rfl (aS v (fO l a).2);simp only[go_sem];refine aP fun p hp=>?_;have A:=X.new hp (.rows 3 [(fO l a).1.cells]);simp only[go_sem,VR,f8,f5,e1];have fin:∀ (e:PF) (H':PH),(cU o o4 o6 n left i).le e→e 12=some (.ptr p 3 0 0)→aK H' (qU o o4 o6 v w x M (fC l n i a).2++B++[(p,.rows 3 [(fC l n i a).1.cells])]) (vE s w x M)→wpOps C HF (aE.wp C u K) e H':=by
  intro e H' j R y;have q0:e 0=some (.ptr o 2 0 0):=j 0 _ (by unfold cU; simp only[go_sem]);have q4:e 4=some (.ptr o4 4 0 0):=j 4 _ (by unfold cU; simp only[go_sem]);have q5:e 5=some (.int .i64 n):=j 5 _ (by unfold cU; simp only[go_sem]);have q6:e 6=some (.ptr o6 4 0 0):=j 6 _ (by unfold cU; simp only[go_sem]);have q7:e 7=some (.int .i64 left):=j 7 _ (by unfold cU; simp only[go_sem]);have q8:e 8=some (.int .i64 i):=j 8 _ (by unfold cU; simp only[go_sem]);have g6:=y.at 2 rfl;have U:=y.mP;have V:(1:Nat)*3≤16777216:=by decide
  simp only[go_sem,HF,q6,g6,R,U,V];refine y.append 2 (src:=[(fC l n i a).1.cells]) rfl rfl (VN Om) fun I H2 W Z=>?_;rw[xB] at W Z; rw[mR] at Z;obtain⟨q,rfl⟩:=Z (by simp);have S:=W.at 2 rfl;simp only[go_sem,S,aAK,aAY,or_false,forall_eq];have h3:=W.set 2 rfl (UZ w x (.osl q 3 0 (s.exit++[(fC l n i a).1]).length));refine hK _ _ _ (B++[(p,.rows 3 [(fC l n i a).1.cells])]) ?_ h3;unfold cU;exact Lq
 by_cases c:i+1<n
 ·have O:((i+1:Nat):Int)<(n:Nat):=Om;have Y:=uB l ha;simp only[go_sem,O,f0];refine cX N.tozX T (o:=o) (n:=3) (a:=(fO l a).2) (by decide) Y rfl (A.at 0 rfl) ?_;have E:=A.set 0 rfl (aS v (aD l 3 (fO l a).2).2);by_cases c3:(aD l 3 (fO l a).2).1=0
  ·have he:fC l n i a=(jW,(aD l 3 (fO l a).2).2):=by unfold fC; simp only[if_pos c,c3,if_true]
   have U:=aK.mP (B:=qU o o4 o6 v w x M (aD l 3 (fO l a).2).2++B) E;simp only[go_sem,bO (show (((aD l 3 (fO l a).2).1:Nat):Int)=0 by omega),VS];refine aB (N.int 0 (by unfold dO; omega)) rfl ?_;simp only[go_sem,U];refine fin _ _ ?_ rfl ?_
   ·unfold cU;exact Lq
   ·rw[he];exact aK.rY (B:=qU o o4 o6 v w x M (aD l 3 (fO l a).2).2++B) E (.rows 3 [jW.cells])
  ·have he:fC l n i a=((fO l a).1,(aD l 3 (fO l a).2).2):=by unfold fC; simp only[if_pos c,c3,if_false]
   simp only[go_sem,bC (show ¬ (((aD l 3 (fO l a).2).1:Nat):Int)=0 by omega)];refine fin _ _ ?_ rfl ?_
   ·unfold cU;exact Lq
   ·rw[he];exact E
 ·have O:¬ ((i+1:Nat):Int)<(n:Nat):=Om;have he:fC l n i a=fO l a:=by unfold fC; simp only[if_neg c]
  simp only[go_sem,O];refine fin _ _ ?_ rfl ?_
  ·unfold cU;exact Lq
  ·rw[he];exact A
def aaT (l:List Nat) (v:PV) (o eM a:Nat) (r:PV) (H:PH):Prop:=r=.agg (qJ l eM a).1.cells∧H=PH.nil.set o (aS v (qJ l eM a).2)
theorem Zn {l:List (List RF)} (h:l.length≤1000):roomFor (uP l).length 1 24:=by
 unfold roomFor;simp only[aAA,maxLen]; omega
theorem Zo (l:List (List RF)) (x:List RF):uP l++[[frs x]]=uP (l++[x]):=by simp[uP]
theorem T8 {C:Ctx} (Lb:sL C) {l:List Nat} {v:PV} (T:Tp l v) (o o4 o6 n left i a:Nat) (ha:a≤l.length) (hn:n≤100) (hi:i<n) (s:BC) (hs:s.ayR.length=i) (y N I:PV) (B:List BX) (K:cK) (F:PF) (H:PH)
  (J:(cU o o4 o6 n left i).le F) (hH:aK H (qU o o4 o6 v y N I a++B) (vE s y N I))
  (hK:∀ E A W H' B',(cU o o4 o6 n left i).le W→(∃ q,A=.osl q 3 0 n)→aK H' (qU o o4 o6 v y E I (dR l i a n).2++B') [(y,3,gR s.start),(E,1,uP s.ayR++[[A]]),(I,3,gR s.exit),(A,3,gR (dR l i a n).1)]→K .normal W H') :
  aE.wp C (.seq (.region VT) (.seq (.seq (.region VU) (.block 2 (.loop HE))) (.region VY))) K F H:=by
 have f0:F 0=some (.ptr o 2 0 0):=J 0 _ (by unfold cU; simp only[go_sem]);have f4:F 4=some (.ptr o4 4 0 0):=J 4 _ (by unfold cU; simp only[go_sem]);have f5:F 5=some (.int .i64 n):=J 5 _ (by unfold cU; simp only[go_sem]);have f6:F 6=some (.ptr o6 4 0 0):=J 6 _ (by unfold cU; simp only[go_sem]);have f7:F 7=some (.int .i64 left):=J 7 _ (by unfold cU; simp only[go_sem]);have f8:F 8=some (.int .i64 i):=J 8 _ (by unfold cU; simp only[go_sem]);simp only[go_sem,VT,VU];refine aeM (C:=C) Lb T o o4 o6 n left i a ha hn hi ([(o4,Br),(o6,UZ y N I)]++B) (vE s y N I) _ _ H ?_ hH ?_
 ·unfold fP
  (repeat' (first|exact c_|refine d_ ?_ ?_))<;>first|(simp only[go_sem,f0,f4,f5,f6,f7,f8]<;>rfl)|rfl
 intro w u H1 e x;have j:=XH l i a n;have hw:∃ q,w=.osl q 3 0 n:=by
  rcases x.own (v:=w) 3 rfl with ⟨M,_⟩ | ⟨q,rs,M,_⟩
  ·have:=congrArg List.length M;rw[mR,j] at this;simp at this; omega
  ·rw[mR,j] at M;exact⟨q,M⟩
 obtain⟨q,rfl⟩:=hw;have g0:u 0=some (.ptr o 2 0 0):=e 0 _ (by unfold fP; simp only[go_sem]);have g4:u 4=some (.ptr o4 4 0 0):=e 4 _ (by unfold fP; simp only[go_sem]);have g5:u 5=some (.int .i64 n):=e 5 _ (by unfold fP; simp only[go_sem]);have X:u 6=some (.ptr o6 4 0 0):=e 6 _ (by unfold fP; simp only[go_sem]);have g7:u 7=some (.int .i64 left):=e 7 _ (by unfold fP; simp only[go_sem]);have g8:u 8=some (.int .i64 i):=e 8 _ (by unfold fP; simp only[go_sem]);have R:u 13=some (.osl q 3 0 n):=e 13 _ (by unfold fP; simp only[go_sem]);have b6:=x.at 2 rfl;have S:(1:Nat)*1≤16777216:=by decide
 simp only[go_sem,VY,X,b6,R,S,aAK,aAY,or_false,forall_eq];refine x.append 1 (src:=[[.osl q 3 0 n]]) rfl Sq (Zn Om) fun E H2 Y V=>?_;obtain⟨q2,rfl⟩:=V (by simp);have O:=Y.at 2 rfl;simp only[go_sem,O,aAK,aAY,or_false,forall_eq];have Z:=Y.set 2 rfl (UZ y (.osl q2 1 0 (uP s.ayR++[[PV.osl q 3 0 n]]).length) I);have U:(uP s.ayR++[[(PV.osl q 3 0 n:PV)]]).length=s.ayR.length+1:=by simp
 rw[U] at Z ⊢;refine hK (.osl q2 1 0 (s.ayR.length+1)) (.osl q 3 0 n) _ _ B ?_ ⟨q,rfl⟩ Z;unfold cU
 (repeat' (first|exact c_|refine d_ ?_ ?_))<;>first|(simp only[go_sem,g0,g4,g5,X,g7,g8]<;>rfl)|rfl
theorem alX {C:Ctx} (K:sL C) {l:List Nat} {v:PV} (T:Tp l v) (o eM a:Nat) (hm:0<eM) (ε:eM≤50) (ha:a≤l.length):MG.wp C (aT aeL.res (aaT l v o eM a)) (PF.args [.ptr o 2 0 0,.int .i64 eM]) (PH.nil.set o (aS v a)):=by
 have h0:aK (PH.nil.set o (aS v a)) [(o,aS v a)] []:=aK.nil.new (H:=PH.nil) rfl (aS v a);simp only[go_sem,MG,Oj,aeL];refine aP fun o4 γ=>?_;have J:=h0.new γ Br;simp only[go_sem,Ol];refine cX K.tozX T (o:=o) (n:=eM) (a:=a) Om ha Sq (J.at 0 rfl) ?_;have h2:=J.set 0 rfl (aS v (aD l eM a).2);have hN:=cF l hm a;have Z:=bE l eM ha;have e1:IntKind.i64.wrap (1+((aD l eM a).1:Int))=((1+(aD l eM a).1:Nat):Int):=by rw[wrap_i64 Om Om]; omega
 have β:∀ s:BC,s=gA l (1+(aD l eM a).1) (aD l eM a).2 (1+(aD l eM a).1)→qJ l eM a=(⟨[],s.start,s.ayR,s.exit⟩,s.a):=fun s hs=>by rw[hs]; rfl
 have Y:∀ r H,aaT l v o eM a r H↔r=.agg (qJ l eM a).1.cells∧H=PH.nil.set o (aS v (qJ l eM a).2):=fun _ _=>Iff.rfl;generalize hn:1+(aD l eM a).1=n at *
 generalize hb:(aD l eM a).2=b at *
 have ζ:0<n:=Om;have e:n≤100:=Om;simp only[go_sem,e1,On];refine aP fun o6 δ=>?_;have h3:=((h2.new δ Br).mB 3).mB 1;have h4:=h3.mB 3;simp only[go_sem,Oo,Oq];refine wp_loop (α:=Nat × PV × PV × PV × PH) (fun t=>cU o o4 o6 n (gA l n b t.1).left t.1) (fun t=>t.2.2.2.2)
  (fun t=>t.1≤n∧aK t.2.2.2.2 (qU o o4 o6 v t.2.1 t.2.2.1 t.2.2.2.1 (gA l n b t.1).a) (vE (gA l n b t.1) t.2.1 t.2.2.1 t.2.2.2.1)) (fun t=>n-t.1) (0,.aA,.aA,.aA,_) ⟨aAP _,h4⟩ ?_ b_ ?_
 ·unfold cU
  (repeat' (first|exact c_|refine d_ ?_ ?_))<;>first|(simp only[go_sem,gA]<;>rfl)|rfl
 rintro⟨i,w1,M,N,H0⟩ ⟨hi,F⟩;simp only at hi F ⊢;obtain⟨k1,k2,k3,k4,k5⟩:=iy l n Z i;simp only[go_sem,De,Ot,cU];by_cases hlt:i<n
 ·have B:(i:Int)<(n:Nat):=Om;have E:gA l n b (i+1)=⟨(gA l n b i).start++[mkT ((dQ l n i (gA l n b i)).1:Nat) 8],(gA l n b i).exit++[(fC l n i (dQ l n i (gA l n b i)).2).1],(gA l n b i).ayR++[(dR l i (fC l n i (dQ l n i (gA l n b i)).2).2 n).1],(gA l n b i).left-(dQ l n i (gA l n b i)).1,(dR l i (fC l n i (dQ l n i (gA l n b i)).2).2 n).2⟩:=rfl;have kl:=VA l n i (gA l n b i) k1;have ke:=wh l n i kl.1;generalize hs:gA l n b i=s at *
  simp only[go_sem,B];refine Yg (C:=C) K T o o4 o6 n i s k1 k2 e hlt [(o4,Br),(o6,UZ w1 M N)] (vE s w1 M N) _ _ _ H0 (by unfold cU; exact Lq) F ?_;intro F1 H1 O f9 U;refine T9 (C:=C) (l:=l) K o o4 o6 n i _ (dQ l n i s).1 (dQ l n i s).2 Om hlt e s k3 w1 M N [] _ _ F1 H1 O f9 U ?_;intro j F2 H2 B2 R V;refine Yf (C:=C) K T o o4 o6 n i _ (dQ l n i s).2 kl.1 hlt e { s with start:=s.start++[mkT ((dQ l n i s).1:Nat) 8] } k4 j M N B2 _ _ F2 H2 R V ?_;intro u F3 H3 B3 S W;refine T8 (C:=C) K T o o4 o6 n _ i (fC l n i (dQ l n i s).2).2 ke e hlt { s with start:=s.start++[mkT ((dQ l n i s).1:Nat) 8],exit:=s.exit++[(fC l n i (dQ l n i s).2).1] } k5 j M u B3 _ F3 H3 S W ?_;rintro A η I H4 B4 y ⟨q,rfl⟩ X;have g0:I 0=some (.ptr o 2 0 0):=y 0 _ (by unfold cU; simp only[go_sem]);have g4:I 4=some (.ptr o4 4 0 0):=y 4 _ (by unfold cU; simp only[go_sem]);have g5:I 5=some (.int .i64 n):=y 5 _ (by unfold cU; simp only[go_sem]);have g6:I 6=some (.ptr o6 4 0 0):=y 6 _ (by unfold cU; simp only[go_sem]);have g7:I 7=some (.int .i64 (s.left-(dQ l n i s).1:Nat)):=y 7 _ (by unfold cU; simp only[go_sem]);have g8:I 8=some (.int .i64 i):=y 8 _ (by unfold cU; simp only[go_sem]);obtain⟨rs,z1,z2,z3,z4,z5⟩:=X.frz 3 rfl;have y1:=z4 0 _ (by decide) rfl;have y2:=z4 1 _ (by decide) rfl;have y3:=z4 2 _ (by decide) rfl;simp only at y1 y2 y3;have y4:=T.frz q 3 rs;simp only[go_sem,Di,g8,wZz i];refine AJ (i+1,j,A,u,H4.frz q 3 rs) z1 ⟨hlt,?_⟩ (by simp only; omega) ?_ b_
  ·rw[E];have eB:(qU o o4 o6 v j A u (dR l i (fC l n i (dQ l n i s).2).2 n).2).map (fun b=>(b.1,b.2.frz q 3 rs))=qU o o4 o6 v j A u (dR l i (fC l n i (dQ l n i s).2).2 n).2:=by simp only[aBG,aCP,bF.frz,y1,y2,y3,y4];rfl
   have eL:([(j,3,gR (s.start++[mkT ((dQ l n i s).1:Nat) 8])),(A,1,uP s.ayR++[[.osl q 3 0 n]]),(u,3,gR (s.exit++[(fC l n i (dQ l n i s).2).1]))]:List LI).map (fun x=>(x.1,x.2.1,x.2.2.map fun r=>r.map (PV.bP q 3 rs))) =
     vE ⟨s.start++[mkT ((dQ l n i s).1:Nat) 8],s.exit++[(fC l n i (dQ l n i s).2).1],s.ayR++[(dR l i (fC l n i (dQ l n i s).2).2 n).1],s.left-(dQ l n i s).1,(dR l i (fC l n i (dQ l n i s).2).2 n).2⟩ j A u:=by
    have e2:(uP s.ayR++[[PV.osl q 3 0 n]]).map (fun r=>r.map (PV.bP q 3 rs))=uP (s.ayR++[(dR l i (fC l n i (dQ l n i s).2).2 n).1]):=by rw[aBO,rh,aBG,aCP,aBG,aCP,z2,Zo]
    show ([(j,3,(gR (s.start++[mkT ((dQ l n i s).1:Nat) 8])).map (fun r=>r.map (PV.bP q 3 rs))),(A,1,(uP s.ayR++[[PV.osl q 3 0 n]]).map (fun r=>r.map (PV.bP q 3 rs))),(u,3,(gR (s.exit++[(fC l n i (dQ l n i s).2).1])).map (fun r=>r.map (PV.bP q 3 rs)))]:List LI)=_;rw[FG,e2,FG]
   rw[← eB,← eL];exact z5.sub (by rw[aBO]; exact aDY ..) (aCG.refl _)
  ·rw[E]
   (repeat' (first|exact c_|refine d_ ?_ ?_))<;>first|(simp only[go_sem,g0,g4,g5,g6,g7,g8]<;>rfl)|rfl
 ·have B:¬ (i:Int)<(n:Nat):=Om;have:i=n:=Om;subst this;simp only[go_sem,B,Dj];have b4:=F.at 1 rfl;have b6:=F.at 2 rfl;have osl:∀ {w:PV} {z:Nat} {rows:List (List PV)},rows.length=i→bY H0 z w rows→∃ q,w=.osl q z 0 i:=by
   intro w z rows hr hO;rcases hO with ⟨J,_⟩ | ⟨q,rs,J,_⟩
   ·rw[J] at hr; simp at hr; omega
   ·exact⟨q,by rw[J,hr]⟩
  obtain⟨q1,rfl⟩:=osl (by rw[mR,k3]) (F.own 0 rfl);obtain⟨q2,rfl⟩:=osl (by rw[aAA,k5]) (F.own 1 rfl);obtain⟨q3,rfl⟩:=osl (by rw[mR,k4]) (F.own 2 rfl);have hR:=β (gA l i b i) rfl;simp only[go_sem,b6,b4,aAK,aAY,or_false,forall_eq,forall_eq_or_imp];have x1:=F.set 1 rfl (UZ (.osl q1 3 0 i) (.osl q2 1 0 i) (.osl q3 3 0 i));obtain⟨r1,s1,s2,s3,s4,s5⟩:=x1.frz 0 rfl;have u2:=s4 1 _ (by decide) rfl;have u3:=s4 2 _ (by decide) rfl;simp only at u2 u3;have u4:=T.frz q1 3 r1;obtain⟨r2,t1,t2,t3,t4,t5⟩:=s5.frz 0 rfl;have m3:=t4 1 _ (by decide) rfl;simp only at m3;have m4:=T.frz q2 1 r2;obtain⟨r3,n1,n2,n3,n4,n5⟩:=t5.frz 0 rfl;have n4:=T.frz q3 3 r3;refine oR (vs:=[.agg [.str [],.osl q1 3 0 i,.osl q2 1 0 i,.osl q3 3 0 i]]) (.inr rfl) ?_ (.step s1 (.step t1 (.step n1 (.done (H2:=PH.nil.set o (aS v (gA l i b i).a)) ?_ (e_ a_ ?_)))))
  ·simp only[go_sem]
  ·rw[Y,hR];refine⟨?_,rfl⟩;simp only[dB,PV.frz,PV.pI,aBG,aCP,s2,u2,u3,t2,m3,n2];simp only[PV.bP,FG _ _ _ _,rh _ _ _ _]
  ·have:=n5.at 0 rfl;rw[this];simp only[bF.frz,aBG,aCP,u4,m4,n4];rfl
structure nD (C:Ctx):Prop extends sL C where
 law:∀ (l:List Nat) (v:PV),Tp l v→∀ (o eM a:Nat),0<eM→eM≤50→a≤l.length→aG C 2 [.ptr o 2 0 0,.int .i64 eM] (PH.nil.set o (aS v a)) (aaT l v o eM a)
structure GOk (l:List Nat) (ayM:Nat) (s:GS):Prop where
 ayW:s.ayW.length≤35
 azG:s.azG.length≤ayM
 a:s.a≤l.length
theorem UI {l:List Nat} {mc ayM dom:Nat} {s:GS} (h:GOk l ayM s):∀ i,GOk l ayM (jT l mc ayM dom s i)∧(jT l mc ayM dom s i).ayW=s.ayW
 | 0=>⟨h,rfl⟩
 | i+1=>by
  obtain⟨⟨e,w,j⟩,u⟩:=UI (mc:=mc) (dom:=dom) h i;simp only[jT];split
  ·exact⟨⟨e,by simp only[aAE,aAI]; omega,bE l mc j⟩,u⟩
  ·exact⟨⟨e,w,j⟩,u⟩
theorem Kv {l:List Nat} {level dom ayM:Nat} {s:GS} (h:GOk l ayM s) (e:pV ayM s=false):GOk l ayM (nH l level dom s)∧∃ x:cP,(nH l level dom s).ayW=s.ayW++[x]∧x.level=(level:Int)∧x.parent=(dom:Int):=by
 obtain⟨w,j,u⟩:=h;unfold pV at e;rw[Bool.or_eq_false_iff] at e;have y:=of_decide_eq_false e.2;refine⟨⟨?_,j,?_⟩,_,rfl,rfl,rfl⟩
 ·simp only[nH,aAE,aAI]; omega
 ·have a1:=bE l 3 (bE l 16 u);simp only[nH];split
  ·exact bE l 6 a1
  ·exact a1
theorem UJ {l:List Nat} {level ayM dom:Nat} {rec:Nat→GS→GS} (e:∀ d t,GOk l ayM t→GOk l ayM (rec d t)∧∃ u,(rec d t).ayW=t.ayW++u) {s:GS} (h:GOk l ayM s) :
  ∀ i,GOk l ayM (gV l level ayM dom rec s i)∧∃ u,(gV l level ayM dom rec s i).ayW=s.ayW++u
 | 0=>⟨h,[],by simp[gV]⟩
 | i+1=>by
  obtain⟨j,u,w⟩:=UJ e h i;simp only[gV];split
  ·exact⟨j,u,w⟩
  ·rename_i y;obtain⟨g1,x,g2,-⟩:=Kv (level:=level) (dom:=dom) j (by simpa using y);obtain⟨k1,A,k2⟩:=e ((nH l level dom (gV l level ayM dom rec s i)).ayW.length-1) _ g1;exact⟨k1,u++[x]++A,by rw[k2,g2,w]; simp⟩
theorem FT {l:List Nat} {mc ayM:Nat}:∀ (k dom:Nat) {s:GS},GOk l ayM s→GOk l ayM (eY l mc ayM k dom s)∧∃ u,(eY l mc ayM k dom s).ayW=s.ayW++u
 | 0,dom,s,h=>by have e:GOk l ayM { s with a:=(aD l 2 s.a).2 }:=⟨h.ayW,h.azG,bE l 2 h.a⟩;obtain⟨j,w⟩:=UI (mc:=mc) (dom:=dom) e (1+(aD l 2 s.a).1);exact⟨j,[],by simp only[eY]; rw[w]; simp⟩
 | k+1,dom,s,h=>by have e:GOk l ayM { s with a:=(aD l 2 s.a).2 }:=⟨h.ayW,h.azG,bE l 2 h.a⟩;exact UJ (level:=4-k) (dom:=dom) (fun d t x=>FT k d x) e (if 4-k=2 then 1 else 1+(aD l 2 s.a).1)
theorem Tl {l : List Nat} {level ayM dom : Nat} {rec : Nat → GS → GS} {s : GS} {i : Nat} (h : pV ayM (gV l level ayM dom rec s i) = true) : ∀ n, i ≤ n → gV l level ayM dom rec s n = gV l level ayM dom rec s i := by
  intro n hn
  induction n with
  | zero => have : i = 0 := Om
            subst this; rfl
  | succ n ih =>
    rcases aAV n i with h' | h'
    · have : i = n + 1 := Om
      subst this; rfl
    · have e := ih h'
      simp only [gV];rw [e, if_pos h]
def mkS (l:List Nat) (v:PV):Spec:=fun name vs=>match name,vs with
 | 29,[.str s,.int _ i]=>some ([],fun _=>aM (.str (s++bU i.toNat)))
 | 47,[.int _ n]=>some ([],fun _=>aM (.agg (mkT n 1).cells))
 | 4,[.ptr o _ _ _,.int _ n]=>some ([o],fun e r H'=>∀ a,e o=some (aS v a)→YE l v o n.toNat a r H')
 | _,_=>none
section
variable {C:Ctx} {F:PF} {H Hs:PH} {l:List Nat} {v:PV} {o a:Nat}
theorem rB (w:zX C) (T:Tp l v) {n:Nat} {st:Bool} {args:List aN} {d:Option Nat} {K:PF→PH→Prop} (E:n≤1000000) (A:a≤l.length) (e:aN.evs F args=some [.ptr o 2 0 0,.int .i64 n]) (I:H o=some (aS v a))
  (j:Hs.le (H.set o (aS v (aD l n a).2))) (B:K (F.put d (.int .i64 ((aD l n a).1:Nat))) (H.set o (aS v (aD l n a).2))):dOp C Hs (mkS l v) st (.call 4 args) d K F H:=by
 refine v6 (x:=aS v a) (y:=aS v (aD l n a).2) (r:=.int .i64 ((aD l n a).1:Nat)) (R:=fun u r H'=>∀ a,u o=some (aS v a)→YE l v o n a r H') rfl I (w.next l v T o n a E A) ?_ ?_ e j B
 ·intro b hb;rw[cG] at hb;injection hb with hb
  injection hb with _ hb
  injection hb with hb _
  injection hb with _ hb
  injection hb with hb _
  injection hb with _ hb
  have:a=b:=Om;subst this;exact⟨rfl,rfl⟩
 ·intro M H' J;exact J a (by rw[cG])
theorem EQ (u:sL C) {s:List UInt8} {n:Nat} {st:Bool} {args:List aN} {d:Option Nat} {K:PF→PH→Prop} (y:s.length≤100) (x:n<100) (e:aN.evs F args=some [.str s,.int .i64 n]) (j:Hs.le H) (w:K (F.put d (.str (s++bU n))) H) :
  dOp C Hs (mkS l v) st (.call 29 args) d K F H :=
 dL (v:=.str (s++bU n)) rfl (u.name s n y x) e j w
theorem ajM (u:zX C) {n:Int} {st:Bool} {args:List aN} {d:Option Nat} {K:PF→PH→Prop} (x:dO n) (e:aN.evs F args=some [.int .i64 n]) (j:Hs.le H) (w:K (F.put d (.agg (mkT n 1).cells)) H) :
  dOp C Hs (mkS l v) st (.call 47 args) d K F H :=
 dL (v:=.agg (mkT n 1).cells) rfl (u.int n x) e j w
end
theorem bY.tA {H:PH} {s:Nat} {v:PV} {rows:List (List PV)} (h:bY H s v rows):PV.tA v=some (.int .i64 (rows.length:Nat)):=by
 rcases h with ⟨rfl,rfl⟩ | ⟨q,rs,rfl,_⟩<;>rfl
abbrev kE (l:List cP):List (List PV):=l.map cP.cells
abbrev mQ (l:List cZ):List (List PV):=l.map cZ.cells
abbrev flB (ext wl j e l wp wv:PV):bF:=.rows 7 [[ext,wl,j,e,l,wp,wv]]
structure GE where
 o:Nat
 fo:Nat
 qm:Nat
 ext:PV
 wl:PV
 wp:PV
 wv:PV
abbrev GE.boxes (G:GE) (v:PV) (mc:Nat) (e j:PV) (a:Nat):List BX:=[(G.o,aS v a),(G.fo,flB G.ext G.wl (.osl G.qm 4 0 mc) e j G.wp G.wv)]
abbrev mH (s:GS) (e j:PV):List LI:=[(e,7,kE s.ayW),(j,3,mQ s.azG)]
def fD (G:GE) (dom ayM level n i:Nat):PF:=(((((((PF.nil.set 0 (.ptr G.o 2 0 0)).set 1 (.ptr G.fo 7 0 0)).set 2 (.int .i64 dom)).set 3 (.int .i64 ayM)).set 8 (.int .i64 level)).set 9 (.int .i64 n)).set 10 (.int .i64 i))
theorem bY.one {H:PH} {s:Nat} {v:PV} {rows:List (List PV)} (h:bY H s v rows) (e:0<rows.length):∃ q,v=.osl q s 0 rows.length:=by
 rcases h with ⟨rfl,_⟩ | ⟨q,rs,rfl,_⟩
 ·simp at e
 ·exact⟨q,rfl⟩
theorem C1 {C:Ctx} (U:nD C) {l:List Nat} {v:PV} (T:Tp l v) (G:GE) (mc ayM dom n:Nat) (δ:0<mc) (β:mc≤1000) (γ:ayM≤60) (hn:n≤10) (s:GS) (hs:GOk l ayM s) (w y:PV) (K:cK) (F:PF) (H:PH)
  (hF:(fD G dom ayM 5 n 0).le F) (x:aK H (G.boxes v mc w y s.a) (mH s w y))
  (hK:∀ J B F' H',aK H' (G.boxes v mc J B (jT l mc ayM dom s n).a) (mH (jT l mc ayM dom s n) J B)→K (.exit 0) F' H') :
  aE.wp C (.loop wF) K F H:=by
 refine wp_loop (α:=Nat × PV × PV × PH) (fun t=>fD G dom ayM 5 n t.1) (fun t=>t.2.2.2) (fun t=>t.1≤n∧aK t.2.2.2 (G.boxes v mc t.2.1 t.2.2.1 (jT l mc ayM dom s t.1).a) (mH (jT l mc ayM dom s t.1) t.2.1 t.2.2.1)) (fun t=>n-t.1) (0,w,y,H) ⟨aAP _,x⟩ hF b_ ?_;rintro⟨i,w,y,S⟩ ⟨hi,x⟩;simp only at hi x ⊢;obtain⟨O,-⟩:=UI (mc:=mc) (dom:=dom) hs i;have j:jT l mc ayM dom s (i+1)=(if (jT l mc ayM dom s i).azG.length<ayM then { jT l mc ayM dom s i with azG:=(jT l mc ayM dom s i).azG++[⟨[100]++bU (jT l mc ayM dom s i).azG.length,((aD l mc (jT l mc ayM dom s i).a).1:Nat),(dom:Nat)⟩],a:=(aD l mc (jT l mc ayM dom s i).a).2 } else jT l mc ayM dom s i):=rfl;simp only[go_sem,wF,VK,fD];by_cases hlt:i<n
 ·have u:(i:Int)<(n:Nat):=Om;generalize hg:jT l mc ayM dom s i=g at *
  have M:=x.at 1 rfl;have R:=(x.own 1 rfl).tA;rw[aAA] at R;have W:=wZz i;simp only[go_sem,u,VL,show (((5:Nat):Int)==5)=true from rfl,C7,M,R];by_cases Z:g.azG.length<ayM
  ·have A:(g.azG.length:Int)<(ayM:Nat):=Om;rw[if_pos Z] at j;simp only[go_sem,A];have I:(PH.nil.set G.fo (flB G.ext G.wl (.osl G.qm 4 0 mc) w y G.wp G.wv)).le S:=e_ a_ M;refine bN (PH.nil.set G.fo (flB G.ext G.wl (.osl G.qm 4 0 mc) w y G.wp G.wv)) (mkS l v) I ?_;simp only[go_sem,C8,M,R];refine EQ U.tosL (s:=[100]) (n:=g.azG.length) (by decide) (by have:=O.azG; omega) rfl I ?_;simp only[go_sem];have ho:=x.at 0 rfl;have X:=x.set 0 rfl (aS v (aD l mc g.a).2);have N:=X.at 1 rfl;refine rB U.tozX T (o:=G.o) (n:=mc) (a:=g.a) Om O.a rfl ho (e_ a_ N) ?_;have E:(1:Nat)*3≤16777216:=by decide
   simp only[go_sem,E,aAK,aAY,or_false,forall_eq,forall_eq_or_imp];refine X.append 1 (src:=[(⟨[100]++bU g.azG.length,((aD l mc g.a).1:Nat),(dom:Nat)⟩:cZ).cells]) rfl rfl (by unfold roomFor; rw[aAA]; have:=O.azG; simp only[aAI,maxLen]; omega) fun B H2 Y hw=>?_;obtain⟨q,rfl⟩:=hw (by simp);have V:=Y.at 1 rfl;refine⟨e_ a_ V,?_⟩;refine bN .nil dC a_ ?_;simp only[go_sem,C9,V,aAK,aAY,or_false,forall_eq];have h3:=Y.set 1 rfl (flB G.ext G.wl (.osl G.qm 4 0 mc) w (.osl q 3 0 (mQ g.azG++[(⟨[100]++bU g.azG.length,((aD l mc g.a).1:Nat),(dom:Nat)⟩:cZ).cells]).length) G.wp G.wv);refine⟨a_,?_⟩;simp only[go_sem,wG,W];refine aL (i+1,w,.osl q 3 0 (mQ g.azG++[(⟨[100]++bU g.azG.length,((aD l mc g.a).1:Nat),(dom:Nat)⟩:cZ).cells]).length,_) ⟨hlt,?_⟩ (by simp only; omega) ?_ b_
   ·rw[j];have e:mQ (g.azG++[(⟨[100]++bU g.azG.length,((aD l mc g.a).1:Nat),(dom:Nat)⟩:cZ)])=mQ g.azG++[(⟨[100]++bU g.azG.length,((aD l mc g.a).1:Nat),(dom:Nat)⟩:cZ).cells]:=by simp[mQ]
    unfold mH;simp only;rw[e];exact h3
   ·exact Lq
  ·have A:¬ (g.azG.length:Int)<(ayM:Nat):=Om;rw[if_neg Z] at j;simp only[go_sem,A,wG,W];refine aL (i+1,w,y,S) ⟨hlt,by rw[j]; exact x⟩ (by simp only; omega) ?_ b_;exact Lq
 ·have u:¬ (i:Int)<(n:Nat):=Om;have:i=n:=Om;subst this;simp only[go_sem,u];exact hK w y _ _ x
def R3 (G:GE) (v:PV) (mc:Nat) (s':GS) (r:PV) (B':List BX) (L':List LI):Prop:=r=.tup []∧∃ e j,B'=G.boxes v mc e j s'.a∧L'=mH s' e j
def YC (C:Ctx) (l:List Nat) (v:PV) (mc ayM k:Nat):Prop :=
 ∀ (G:GE) (j u:PV) (s:GS) (dom:Nat) (x:cP),GOk l ayM s→s.ayW[dom]?=some x→x.level=4-(k:Int)→∀ e,aK e (G.boxes v mc j u s.a) (mH s j u) →
  aG C 7 [.ptr G.o 2 0 0,.ptr G.fo 7 0 0,.int .i64 dom,.int .i64 ayM] e (fun r H'=>∃ B' L',R3 G v mc (eY l mc ayM k dom s) r B' L'∧aK H' B' L')
theorem X4 {e:Nat} (h:e≤4):([45,115,114,107,109]:List UInt8)[e]?=some (lL e):=by
 match e,h with
 | 0,_=>rfl
 | 1,_=>rfl
 | 2,_=>rfl
 | 3,_=>rfl
 | 4,_=>rfl
theorem RJ {C:Ctx} {l:List Nat} {v:PV} (G:GE) (mc ayM dom A n i k p:Nat) (γ:A=4-k) (hk:k<4) (y:YC C l v mc ayM k) (g:GS) (x:cP) (a:Nat) (W:GOk l ayM { g with ayW:=g.ayW++[x],a:=a }) (hx:x.level=(A:Nat)) (X w:PV) (β:ayM≤60) (K:cK) (F:PF) (H:PH)
  (j:(fD G dom ayM A n i).le F) (f11:F 11=some (.ptr p 7 0 0)) (J:aK H (G.boxes v mc X w a++[(p,.rows 7 [x.cells])]) (mH g X w))
  (hK:∀ u B U H',(fD G dom ayM A n i).le U→aK H' (G.boxes v mc u B (eY l mc ayM k g.ayW.length { g with ayW:=g.ayW++[x],a:=a }).a) (mH (eY l mc ayM k g.ayW.length { g with ayW:=g.ayW++[x],a:=a }) u B)→K .normal U H') :
  aE.wp C (.draw MD) (mE C (aE.wp C (.region MF)) K) F H:=by
 have f0:F 0=some (.ptr G.o 2 0 0):=j 0 _ (by unfold fD; simp only[go_sem]);have f1:F 1=some (.ptr G.fo 7 0 0):=j 1 _ (by unfold fD; simp only[go_sem]);have f2:F 2=some (.int .i64 dom):=j 2 _ (by unfold fD; simp only[go_sem]);have f3:F 3=some (.int .i64 ayM):=j 3 _ (by unfold fD; simp only[go_sem]);have f8:F 8=some (.int .i64 A):=j 8 _ (by unfold fD; simp only[go_sem]);have f9:F 9=some (.int .i64 n):=j 9 _ (by unfold fD; simp only[go_sem]);have α:F 10=some (.int .i64 i):=j 10 _ (by unfold fD; simp only[go_sem]);have O:=W.ayW;simp only[aAE,aAI] at O;have Z:=J.at 1 rfl;have b2:=J.at 2 rfl;have E:(1:Nat)*7≤16777216:=by decide
 refine bN .nil dC a_ ?_;simp only[go_sem,MD,f1,f11,Z,b2,E,aAK,aAY,or_false,forall_eq,forall_eq_or_imp];refine J.append 0 (src:=[x.cells]) rfl rfl (by unfold roomFor; rw[aAA]; simp only[aAI,maxLen]; omega) fun u H2 I hw=>?_;obtain⟨q,rfl⟩:=hw (by simp);have hl:(kE g.ayW++[x.cells]).length=g.ayW.length+1:=by simp
 rw[hl] at I ⊢;have c1:=I.at 1 rfl;refine⟨a_,?_⟩;simp only[go_sem,c1,aAK,aAY,or_false,forall_eq];have V:=I.set 1 rfl (flB G.ext G.wl (.osl G.qm 4 0 mc) (.osl q 7 0 (g.ayW.length+1)) w G.wp G.wv);have c2:=V.at 1 rfl;refine⟨a_,?_⟩;have e:kE (g.ayW++[x])=kE g.ayW++[x.cells]:=by simp[kE]
 have ew:IntKind.i64.wrap (((g.ayW.length+1:Nat):Int)-1)=(g.ayW.length:Int):=by rw[wrap_i64 Om Om]; omega
 simp only[go_sem,MF,f0,f1,f3,ew];have h4:aK (H2.set G.fo (flB G.ext G.wl (.osl G.qm 4 0 mc) (.osl q 7 0 (g.ayW.length+1)) w G.wp G.wv)) (G.boxes v mc (.osl q 7 0 (g.ayW.length+1)) w a++[(p,.rows 7 [x.cells])]) (mH { g with ayW:=g.ayW++[x],a:=a } (.osl q 7 0 (g.ayW.length+1)) w++[]):=by unfold mH;simp only;rw[e];exact V
 refine DH h4 (fun Y N=>y G _ w { g with ayW:=g.ayW++[x],a:=a } g.ayW.length x W (by simp) (by rw[hx]; omega) Y N) rfl ?_;rintro r B' L' H' ⟨rfl,R,S,rfl,rfl⟩ M;refine hK R S _ _ ?_ (M.sub (aDY ..) (by rw[aBU]; exact aCG.refl _));unfold fD;exact Lq
theorem JT {C:Ctx} (V:nD C) {l:List Nat} {v:PV} (T:Tp l v) (G:GE) (mc ayM dom n k:Nat) (hk:k<4) (X:ayM≤60) (hn:n≤10) (R:YC C l v mc ayM k) (s:GS) (hs:GOk l ayM s) (ζ:0<s.ayW.length) (N O:PV) (K:cK) (F:PF) (H:PH)
  (hF:(fD G dom ayM (4-k) n 0).le F) (E:aK H (G.boxes v mc N O s.a) (mH s N O))
  (hK:∀ e A B y H',(e=.exit 0∨e=.ret)→aK H' (G.boxes v mc A B (gV l (4-k) ayM dom (eY l mc ayM k) s n).a) (mH (gV l (4-k) ayM dom (eY l mc ayM k) s n) A B)→K e y H') :
  aE.wp C (.loop wF) K F H:=by
 obtain⟨j,U⟩:∃ j,j=4-k:=⟨_,rfl⟩;rw[← U] at hF hK;refine wp_loop (α:=Nat × PV × PV × PH) (fun t=>fD G dom ayM j n t.1) (fun t=>t.2.2.2) (fun t=>t.1≤n∧aK t.2.2.2 (G.boxes v mc t.2.1 t.2.2.1 (gV l j ayM dom (eY l mc ayM k) s t.1).a) (mH (gV l j ayM dom (eY l mc ayM k) s t.1) t.2.1 t.2.2.1)) (fun t=>n-t.1) (0,N,O,H) ⟨aAP _,E⟩ hF b_ ?_;rintro⟨i,N,O,H0⟩ ⟨hi,E⟩;simp only at hi E ⊢;obtain⟨Z,u,gu⟩:=UJ (level:=j) (dom:=dom) (fun d t ht=>FT (mc:=mc) k d ht) hs i;have J:=fun h=>Tl (l:=l) (level:=j) (ayM:=ayM) (dom:=dom) (rec:=eY l mc ayM k) (s:=s) (i:=i) h n hi;have x:gV l j ayM dom (eY l mc ayM k) s (i+1)=(if pV ayM (gV l j ayM dom (eY l mc ayM k) s i) then gV l j ayM dom (eY l mc ayM k) s i else eY l mc ayM k ((nH l j dom (gV l j ayM dom (eY l mc ayM k) s i)).ayW.length-1) (nH l j dom (gV l j ayM dom (eY l mc ayM k) s i))):=rfl;simp only[go_sem,wF,VK,fD];by_cases hlt:i<n
 ·have M:(i:Int)<(n:Nat):=Om;generalize hg:gV l j ayM dom (eY l mc ayM k) s i=g at *
  have ε:0<g.ayW.length:=by rw[gu,aAE]; omega
  have b1:=E.at 1 rfl;have lr:=(E.own 1 rfl).tA;have ld:=(E.own 0 rfl).tA;rw[aAA] at lr ld;have ei:=wZz i;simp only[go_sem,M,VL,bC (Om:((j:Nat):Int)≠5),nw,b1,lr];by_cases c1:ayM≤g.azG.length
  ·have W:pV ayM g=true:=by unfold pV; simp[c1]
   simp only[go_sem,show (g.azG.length:Int)≥(ayM:Nat) by omega];exact hK _ N O _ _ (.inr rfl) (by rw[J W]; exact E)
  simp only[go_sem,show ¬ (g.azG.length:Int)≥(ayM:Nat) by omega,b1,ld];by_cases c2:35≤g.ayW.length
  ·have W:pV ayM g=true:=by unfold pV; simp[c2]
   simp only[go_sem,show (g.ayW.length:Int)≥35 by omega];exact hK _ N O _ _ (.inr rfl) (by rw[J W]; exact E)
  have W:pV ayM g=false:=by unfold pV; simp[c1,c2]
  rw[if_neg (by rw[W]; decide)] at x;simp only[go_sem,show ¬ (g.ayW.length:Int)≥35 by omega];have ls:=X4 (Om:j≤4);refine bN .nil (mkS l v) a_ ?_;have γ:pF [[PV.int IntKind.u8 (((lL j).toNat:Nat):Int)]]=some [lL j]:=by simp[pF]
  obtain⟨Y,x0,β,-⟩:=Kv (level:=j) (dom:=dom) Z W;have δ:(nH l j dom g).ayW.length-1=g.ayW.length:=by rw[β]; simp
  rw[δ] at x;have h1:=E.set 0 rfl (aS v (aD l 16 g.a).2);have a1:=bE l 16 Z.a;have n1:=cF l (show 0<16 by decide) g.a;have e1:IntKind.i64.wrap (1+((aD l 16 g.a).1:Int))=((1+(aD l 16 g.a).1:Nat):Int):=by rw[wrap_i64 Om Om]; omega
  simp only[go_sem,ny,ls,γ,b1,ld];refine EQ V.tosL (s:=[lL j]) (n:=g.ayW.length) (by simp) (by have:=Z.ayW; omega) rfl a_ ?_;simp only[go_sem];refine rB V.tozX T (o:=G.o) (n:=16) (a:=g.a) Om Z.a rfl (E.at 0 rfl) a_ ?_;simp only[go_sem,e1];refine ajM V.tozX (n:=0) (by unfold dO; omega) rfl a_ ?_;simp only[go_sem,aAK,aAY,or_false,forall_eq,forall_eq_or_imp];refine aP fun p hp=>?_;have h2:=h1.new hp (.rows 7 [(⟨[lL j]++bU g.ayW.length,(j:Nat),(dom:Nat),(1+(aD l 16 g.a).1:Nat),jW⟩:cP).cells]);simp only[go_sem,aAK,aAY,or_false,forall_eq,forall_eq_or_imp];refine⟨a_,?_⟩;simp only[go_sem,nz];refine cX V.tozX T (o:=G.o) (n:=3) (a:=(aD l 16 g.a).2) (by decide) a1 rfl (h2.at 0 rfl) ?_;have h3:=h2.set 0 rfl (aS v (aD l 3 (aD l 16 g.a).2).2);have a2:=bE l 3 a1;by_cases c3:(aD l 3 (aD l 16 g.a).2).1=0
  ·have hd:nH l j dom g={ g with ayW:=g.ayW++[⟨[lL j]++bU g.ayW.length,(j:Nat),(dom:Nat),(1+(aD l 16 g.a).1:Nat),mkT 1 ((2+(aD l 6 (aD l 3 (aD l 16 g.a).2).2).1:Nat):Int)⟩],a:=(aD l 6 (aD l 3 (aD l 16 g.a).2).2).2 }:=by unfold nH; simp only[c3,if_true]
   rw[hd] at x Y;have n2:=cF l (show 0<6 by decide) (aD l 3 (aD l 16 g.a).2).2;have e2:IntKind.i64.wrap (2+((aD l 6 (aD l 3 (aD l 16 g.a).2).2).1:Int))=((2+(aD l 6 (aD l 3 (aD l 16 g.a).2).2).1:Nat):Int):=by rw[wrap_i64 Om Om]; omega
   simp only[go_sem,bO (show (((aD l 3 (aD l 16 g.a).2).1:Nat):Int)=0 by omega),n0];refine cX V.tozX T (o:=G.o) (n:=6) (a:=(aD l 3 (aD l 16 g.a).2).2) (by decide) a2 rfl (h3.at 0 rfl) ?_;have h4:=h3.set 0 rfl (aS v (aD l 6 (aD l 3 (aD l 16 g.a).2).2).2);rw[PH.set_set] at h4;simp only[go_sem,e2];refine aB (V.fmk 1 ((2+(aD l 6 (aD l 3 (aD l 16 g.a).2).2).1:Nat):Int) (by unfold dO; omega) (by unfold dO; omega)) rfl ?_;unfold wL;rw[if_neg Om];simp only[go_sem,show ¬ p=G.o from h4.ne 2 0 rfl rfl (by decide)];have h5:=h4.set 2 rfl (.rows 7 [(⟨[lL j]++bU g.ayW.length,(j:Nat),(dom:Nat),(1+(aD l 16 g.a).1:Nat),mkT 1 ((2+(aD l 6 (aD l 3 (aD l 16 g.a).2).2).1:Nat):Int)⟩:cP).cells])
   try simp only[ko]
   refine RJ G mc ayM dom j n i k p U hk R g _ _ Y rfl N O X _ _ _ (by unfold fD; exact Lq) rfl h5 ?_;intro A B y H' w I;rw[← x] at I;have S:y 10=some (.int .i64 i):=w 10 _ (by unfold fD; simp only[go_sem]);have g0:y 0=some (.ptr G.o 2 0 0):=w 0 _ (by unfold fD; simp only[go_sem]);have g1:y 1=some (.ptr G.fo 7 0 0):=w 1 _ (by unfold fD; simp only[go_sem]);have g2:y 2=some (.int .i64 dom):=w 2 _ (by unfold fD; simp only[go_sem]);have g3:y 3=some (.int .i64 ayM):=w 3 _ (by unfold fD; simp only[go_sem]);have g8:y 8=some (.int .i64 j):=w 8 _ (by unfold fD; simp only[go_sem]);have g9:y 9=some (.int .i64 n):=w 9 _ (by unfold fD; simp only[go_sem]);simp only[go_sem,wG,S,ei];refine aL (i+1,A,B,H') ⟨hlt,I⟩ (by simp only; omega) ?_ b_;exact Lq
  ·have hd:nH l j dom g={ g with ayW:=g.ayW++[⟨[lL j]++bU g.ayW.length,(j:Nat),(dom:Nat),(1+(aD l 16 g.a).1:Nat),jW⟩],a:=(aD l 3 (aD l 16 g.a).2).2 }:=by unfold nH; simp only[c3,if_false]
   rw[hd] at x Y;simp only[go_sem,bC (show ¬ (((aD l 3 (aD l 16 g.a).2).1:Nat):Int)=0 by omega)]
   try simp only[ko]
   refine RJ G mc ayM dom j n i k p U hk R g _ _ Y rfl N O X _ _ _ (by unfold fD; exact Lq) rfl h3 ?_;intro A B y H' w I;rw[← x] at I;have S:y 10=some (.int .i64 i):=w 10 _ (by unfold fD; simp only[go_sem]);have g0:y 0=some (.ptr G.o 2 0 0):=w 0 _ (by unfold fD; simp only[go_sem]);have g1:y 1=some (.ptr G.fo 7 0 0):=w 1 _ (by unfold fD; simp only[go_sem]);have g2:y 2=some (.int .i64 dom):=w 2 _ (by unfold fD; simp only[go_sem]);have g3:y 3=some (.int .i64 ayM):=w 3 _ (by unfold fD; simp only[go_sem]);have g8:y 8=some (.int .i64 j):=w 8 _ (by unfold fD; simp only[go_sem]);have g9:y 9=some (.int .i64 n):=w 9 _ (by unfold fD; simp only[go_sem]);simp only[go_sem,wG,S,ei];refine aL (i+1,A,B,H') ⟨hlt,I⟩ (by simp only; omega) ?_ b_;exact Lq
 ·have M:¬ (i:Int)<(n:Nat):=Om;have:i=n:=Om;subst this;simp only[go_sem,M];exact hK _ N O _ _ (.inl rfl) E
theorem C2 {C:Ctx} (O:nD C) {l:List Nat} {v:PV} (T:Tp l v) (mc ayM k:Nat) (V:0<mc) (J:mc≤1000) (E:ayM≤60) (hk:k≤4) (M:∀ k',k=k'+1→YC C l v mc ayM k') (G:GE) (X N:PV) (s:GS) (dom:Nat) (x:cP)
  (R:GOk l ayM s) (Z:s.ayW[dom]?=some x) (hl:x.level=4-(k:Int)) (S:PH) (I:aK S (G.boxes v mc X N s.a) (mH s X N)) :
  xL.wp C (aT um.res (fun r H'=>∃ B' L',R3 G v mc (eY l mc ayM k dom s) r B' L'∧aK H' B' L')) (PF.args [.ptr G.o 2 0 0,.ptr G.fo 7 0 0,.int .i64 dom,.int .i64 ayM]) S:=by
 have B:dom<s.ayW.length:=(aBD.1 Z).1;have b1:=I.at 1 rfl;have fin:∀ (e:kC) (j u:PV) (y:PF) (H':PH),(e=.exit 0∨e=.ret)→aK H' (G.boxes v mc j u (eY l mc ayM k dom s).a) (mH (eY l mc ayM k dom s) j u) →
   fZ 0 (aT um.res (fun r H'=>∃ B' L',R3 G v mc (eY l mc ayM k dom s) r B' L'∧aK H' B' L')) e y H':=by
  intro e j u y H' he w;rcases he with rfl | rfl
  ·rw[BD,if_pos rfl];exact aV (vs:=[]) (.inl rfl) H' rfl b_ ⟨_,_,⟨rfl,j,u,rfl,rfl⟩,w⟩
  ·exact aV (vs:=[]) (.inr rfl) H' rfl b_ ⟨_,_,⟨rfl,j,u,rfl,rfl⟩,w⟩
 obtain⟨q,rs,e1,e2,e3,e4⟩:∃ q rs,X=.osl q 7 0 s.ayW.length∧S q=some (.rows 7 rs)∧s.ayW.length≤rs.length∧rs.take s.ayW.length=kE s.ayW:=by
  rcases I.own 0 rfl with ⟨A,_⟩ | ⟨q,rs,A,h2,h3,h4⟩
  ·have:=congrArg List.length A;rw[aAA] at this;simp at this; rw[this] at B; simp at B
  ·rw[aAA] at A h3 h4;exact⟨q,rs,A,h2,h3,h4⟩
 have W:rs[dom]?=some x.cells:=by
  have:(kE s.ayW)[dom]?=some x.cells:=by simp[kE,Z]
  rw[← e4,List.getElem?_take_of_lt B] at this;exact this
 subst e1;have c1:(dom:Int)<(s.ayW.length:Nat):=Om;have ew:IntKind.i64.wrap (x.level+1)=((5-k:Nat):Int):=by rw[hl,wrap_i64 Om Om]; omega
 have β:=cF l (show 0<2 by decide) s.a;have en:IntKind.i64.wrap (1+((aD l 2 s.a).1:Int))=((1+(aD l 2 s.a).1:Nat):Int):=by rw[wrap_i64 Om Om]; omega
 have A:=I.set 0 rfl (aS v (aD l 2 s.a).2);have F:GOk l ayM { s with a:=(aD l 2 s.a).2 }:=⟨R.ayW,R.azG,bE l 2 R.a⟩;have α:¬ q=G.o:=fun h=>I.neL 0 0 rfl rfl rfl h.symm;simp only[go_sem,xL,C3,b1,c1,e2,W,ew,C4];refine cX O.tozX T (o:=G.o) (n:=2) (a:=s.a) (by decide) R.a (by simp only[go_sem]; rfl) (I.at 0 rfl) ?_;simp only[go_sem,en,C5];cases k with
 | zero =>
  simp only[go_sem,bC (Om:¬ ((5-0:Nat):Int)=2),HD];refine C1 (C:=C) O T G mc ayM dom (1+(aD l 2 s.a).1) V J E Om { s with a:=(aD l 2 s.a).2 } F _ N _ _ _ ?_ A ?_
  ·unfold fD;exact Lq
  ·intro j u y H' w;exact fin _ j u y H' (.inl rfl) w
 | succ k =>
  have K:=M k rfl;by_cases Y:4-k=2
  ·have U:eY l mc ayM (k+1) dom s=gV l (4-k) ayM dom (eY l mc ayM k) { s with a:=(aD l 2 s.a).2 } 1:=by simp only[eY,if_pos Y]
   simp only[go_sem,bO (show ((5-(k+1):Nat):Int)=2 by omega),C6,HD];refine JT (C:=C) O T G mc ayM dom 1 k Om E (by decide) K { s with a:=(aD l 2 s.a).2 } F (by simp only; omega) _ N _ _ _ ?_ A ?_
   ·unfold fD
    (repeat' (first|exact c_|refine d_ ?_ ?_))<;>first|(simp only[go_sem,show 4-k=5-(k+1) by omega]<;>rfl)|rfl
   ·intro e j u y H' he w;rw[← U] at w;exact fin e j u y H' he w
  ·have U:eY l mc ayM (k+1) dom s=gV l (4-k) ayM dom (eY l mc ayM k) { s with a:=(aD l 2 s.a).2 } (1+(aD l 2 s.a).1):=by simp only[eY,if_neg Y]
   simp only[go_sem,bC (show ¬ ((5-(k+1):Nat):Int)=2 by omega),HD];refine JT (C:=C) O T G mc ayM dom (1+(aD l 2 s.a).1) k Om E Om K { s with a:=(aD l 2 s.a).2 } F (by simp only; omega) _ N _ _ _ ?_ A ?_
   ·unfold fD
    (repeat' (first|exact c_|refine d_ ?_ ?_))<;>first|(simp only[go_sem,show 4-k=5-(k+1) by omega]<;>rfl)|rfl
   ·intro e j u y H' he w;rw[← U] at w;exact fin e j u y H' he w
theorem Av {C:Ctx} (A:nD C) {l:List Nat} {v:PV} (T:Tp l v) (mc ayM:Nat) (w:0<mc) (j:mc≤1000) (u:ayM≤60)
  (B:∀ (args:List PV) (H:PH) (R:PV→PH→Prop),args.length=4→xL.wp C (aT um.res R) (PF.args args) H→aG C 7 args H R):∀ k,k≤4→YC C l v mc ayM k
 | 0,h=>fun G K M s dom x I J F y E=>B _ _ _ rfl (C2 A T mc ayM 0 w j u h (fun _ e=>by omega) G K M s dom x I J F y E)
 | k+1,h=>fun G K M s dom x I J F y E=>B _ _ _ rfl (C2 A T mc ayM (k+1) w j u h (fun N e=>by have:N=k:=Om;subst this;exact Av A T mc ayM w j u B N Om) G K M s dom x I J F y E)
theorem alL (l:List Nat) (eM:Nat) {a:Nat} (h:a≤l.length):(qJ l eM a).2≤l.length:=(iy l (1+(aD l eM a).1) (bE l eM h) (1+(aD l eM a).1)).1
theorem GG (l:List Nat) {a:Nat} (h:a≤l.length):∀ k,(hJ l a k).2≤l.length∧(hJ l a k).1.length=k
 | 0=>⟨h,rfl⟩
 | k+1=>by obtain⟨e,j⟩:=GG l h k;exact⟨alL l 2 e,by simp only[hJ,aAE,aAI,j]⟩
theorem xN (l:List Nat) (ayU:Nat) {a:Nat} (h:a≤l.length):∀ k,(eI l ayU a k).2≤l.length∧(eI l ayU a k).1.length=k
 | 0=>⟨h,rfl⟩
 | k+1=>by obtain⟨e,j⟩:=xN l ayU h k;exact⟨bE l ayU (bE l 8 (bE l 4 e)),by simp only[eI,aAE,aAI,j]⟩
structure FE where
 o:Nat
 o6:Nat
 o7:Nat
 ayM:Nat
 ayO:Nat
abbrev flZ:bF:=flB (.int .i64 0) .aA .aA .aA .aA .aA .aA
abbrev FE.boxes (E:FE) (v ext e j l u w x:PV) (a:Nat):List BX:=[(E.o,aS v a),(E.o7,flB ext e j l u w x),(E.o6,flZ)]
def fV (E:FE):PF:=(((((PF.nil.set 0 (.ptr E.o 2 0 0)).set 1 (.int .i64 E.ayM)).set 2 (.int .i64 E.ayO)).set 6 (.ptr E.o6 7 0 0)).set 7 (.ptr E.o7 7 0 0))
abbrev iV (l:List cT):List (List PV):=l.map cT.cells
abbrev jY (l:List dD):List (List PV):=l.map dD.cells
theorem QC {E:FE} {F:PF} (e:F 0=some (.ptr E.o 2 0 0)) (j:F 1=some (.int .i64 E.ayM)) (l:F 2=some (.int .i64 E.ayO)) (u:F 6=some (.ptr E.o6 7 0 0)) (h7:F 7=some (.ptr E.o7 7 0 0)):(fV E).le F :=
 d_ (d_ (d_ (d_ (d_ c_ e) j) l) u) h7
theorem aeC {C:Ctx} (N:nD C) {l:List Nat} {v:PV} (T:Tp l v) (E:FE) (n a:Nat) (hn:n≤10) (Y:a≤l.length) (ext:PV) (K:cK) (F:PF) (H:PH)
  (W:(((fV E).set 8 (.int .i64 n)).set 9 (.int .i64 0)).le F) (x:aK H (E.boxes v ext .aA .aA .aA .aA .aA .aA a) [])
  (X:∀ I M H',(fV E).le M→aK H' (E.boxes v ext I .aA .aA .aA .aA .aA (hJ l a n).2) [(I,4,iV (hJ l a n).1)]→K (.exit 0) M H') :
  aE.wp C (.loop MC) K F H:=by
 refine wp_loop (α:=Nat × PV × PH) (fun t=>((fV E).set 8 (.int .i64 n)).set 9 (.int .i64 t.1)) (fun t=>t.2.2) (fun t=>t.1≤n∧aK t.2.2 (E.boxes v ext t.2.1 .aA .aA .aA .aA .aA (hJ l a t.1).2) [(t.2.1,4,iV (hJ l a t.1).1)]) (fun t=>n-t.1) (0,.aA,H) ⟨aAP _,x.mB 4⟩ W b_ ?_;rintro⟨i,I,H0⟩ ⟨hi,x⟩;simp only at hi x ⊢;obtain⟨k1,k2⟩:=GG l Y i;have w:hJ l a (i+1)=((hJ l a i).1++[{ (qJ l 2 (hJ l a i).2).1 with name:=[108,97,119]++bU i }],(qJ l 2 (hJ l a i).2).2):=rfl;simp only[go_sem,MC,np,fV];by_cases hlt:i<n
 ·have j:(i:Int)<(n:Nat):=Om;generalize hg:hJ l a i=g at *
  simp only[go_sem,j,nr];refine lK (N.law l v T E.o 2 g.2 (by decide) (by decide) k1) (x.at 0 rfl) rfl ?_;have U:=x.set 0 rfl (aS v (qJ l 2 g.2).2);generalize hz:qJ l 2 g.2=z at *
  simp only[go_sem];refine aP fun p Z=>?_;have V:=U.new Z (.rows 4 [z.1.cells]);simp only[go_sem,nt,aAK,aAY,or_false,forall_eq,forall_eq_or_imp];refine aB (N.name [108,97,119] i (by decide) Om) rfl ?_;have y:=V.set 3 rfl (.rows 4 [({ z.1 with name:=[108,97,119]++bU i }:cT).cells]);rw[PH.set_set] at y;have O:=y.at 1 rfl;have A:¬ E.o7=p:=y.ne 1 3 rfl rfl (by decide);have u:¬ E.o7=E.o:=y.ne 1 0 rfl rfl (by decide);simp only[aQ,if_neg A,if_neg u] at O;have J:(1:Nat)*4≤16777216:=by decide
  simp only[go_sem,nu,A,u,O,J,aAK,aAY,or_false,forall_eq,forall_eq_or_imp];refine y.append 0 (src:=[({ z.1 with name:=[108,97,119]++bU i }:cT).cells]) rfl rfl (by unfold roomFor; rw[aAA]; simp only[aAI,maxLen]; omega) fun w' H2 R hw=>?_;obtain⟨q,rfl⟩:=hw (by simp);have S:=R.at 1 rfl;simp only[go_sem,S,aAK,aAY,or_false,forall_eq];have h5:=R.set 1 rfl (flB ext (.osl q 4 0 (iV g.1++[({ z.1 with name:=[108,97,119]++bU i }:cT).cells]).length) .aA .aA .aA .aA .aA);simp only[go_sem,nv,wZz i];refine aL (i+1,.osl q 4 0 (iV g.1++[({ z.1 with name:=[108,97,119]++bU i }:cT).cells]).length,_) ⟨hlt,?_⟩ (by simp only; omega) ?_ b_
  ·rw[w];have e:iV (g.1++[{ z.1 with name:=[108,97,119]++bU i }])=iV g.1++[({ z.1 with name:=[108,97,119]++bU i }:cT).cells]:=by simp[iV]
   simp only;rw[e];exact h5.dropLast (B:=E.boxes v ext _ .aA .aA .aA .aA .aA z.2)
  ·exact Lq
 ·have j:¬ (i:Int)<(n:Nat):=Om;have:i=n:=Om;subst this;simp only[go_sem,j];exact X I _ _ (QC rfl rfl rfl rfl rfl) x
theorem T5 {C:Ctx} (R:nD C) {l:List Nat} {v:PV} (T:Tp l v) (E:FE) (n a nl:Nat) (hn:n≤10) (β:nl≤1000) (ha:a≤l.length) (ext u:PV) (ayU:List cT) (W:ayU.length=nl) (K:cK) (F:PF) (H:PH)
  (hF:(((fV E).set 11 (.int .i64 n)).set 12 (.int .i64 0)).le F) (w:aK H (E.boxes v ext u .aA .aA .aA .aA .aA a) [(u,4,iV ayU)])
  (hK:∀ I S H',(fV E).le S→S 11=some (.int .i64 n)→aK H' (E.boxes v ext u I .aA .aA .aA .aA (eI l nl a n).2) [(u,4,iV ayU),(I,4,jY (eI l nl a n).1)]→K (.exit 2) S H') :
  aE.wp C (.loop GQ) K F H:=by
 refine wp_loop (α:=Nat × PV × PH) (fun t=>((fV E).set 11 (.int .i64 n)).set 12 (.int .i64 t.1)) (fun t=>t.2.2) (fun t=>t.1≤n∧aK t.2.2 (E.boxes v ext u t.2.1 .aA .aA .aA .aA (eI l nl a t.1).2) [(u,4,iV ayU),(t.2.1,4,jY (eI l nl a t.1).1)]) (fun t=>n-t.1) (0,.aA,H) ⟨aAP _,w.mB 4⟩ hF b_ ?_;rintro⟨i,I,H0⟩ ⟨hi,w⟩;simp only at hi w ⊢;obtain⟨k1,k2⟩:=xN l nl ha i;have A:eI l nl a (i+1)=((eI l nl a i).1++[⟨[109]++bU i,(1+(aD l 4 (eI l nl a i).2).1:Nat),(1+(aD l 8 (aD l 4 (eI l nl a i).2).2).1:Nat),((aD l nl (aD l 8 (aD l 4 (eI l nl a i).2).2).2).1:Nat)⟩],(aD l nl (aD l 8 (aD l 4 (eI l nl a i).2).2).2).2):=rfl;simp only[go_sem,GQ,aj,fV];by_cases hlt:i<n
 ·have j:(i:Int)<(n:Nat):=Om;generalize hg:eI l nl a i=g at *
  have hx:=cF l (show 0<4 by decide) g.2;have X:=bE l 4 k1;have hy:=cF l (show 0<8 by decide) (aD l 4 g.2).2;have Y:=bE l 8 X;have az:=bE l nl Y;have U:=w.set 0 rfl (aS v (aD l 4 g.2).2);have B:=U.set 0 rfl (aS v (aD l 8 (aD l 4 g.2).2).2);have h3:=B.set 0 rfl (aS v (aD l nl (aD l 8 (aD l 4 g.2).2).2).2);generalize M:aD l 4 g.2=x at *
  generalize N:aD l 8 x.2=y at *
  generalize O:aD l nl y.2=z at *
  have b1:=w.at 1 rfl;have lw:=(w.own 0 rfl).tA;rw[aAA,W] at lw;have J:(PH.nil.set E.o7 (flB ext u I .aA .aA .aA .aA)).le H0:=e_ a_ b1;have ex:IntKind.i64.wrap (1+(x.1:Int))=((1+x.1:Nat):Int):=by rw[wrap_i64 Om Om]; omega
  have ey:IntKind.i64.wrap (1+(y.1:Int))=((1+y.1:Nat):Int):=by rw[wrap_i64 Om Om]; omega
  simp only[go_sem,j];refine bN (PH.nil.set E.o7 (flB ext u I .aA .aA .aA .aA)) (mkS l v) J ?_;simp only[go_sem,al];refine EQ R.tosL (s:=[109]) (n:=i) (by decide) Om rfl J ?_;simp only[go_sem];refine rB R.tozX T (o:=E.o) (n:=4) (a:=g.2) (by decide) k1 rfl (w.at 0 rfl) ?_ ?_
  ·rw[M]; exact e_ a_ (U.at 1 rfl)
  rw[M];simp only[go_sem,ex];refine rB R.tozX T (o:=E.o) (n:=8) (a:=x.2) (by decide) X rfl (U.at 0 rfl) ?_ ?_
  ·rw[N]; exact e_ a_ (B.at 1 rfl)
  rw[N];simp only[go_sem,ey,lw];rw[PH.set_set] at B;refine rB R.tozX T (o:=E.o) (n:=nl) (a:=y.2) Om Y rfl (B.at 0 rfl) ?_ ?_
  ·rw[O]; exact e_ a_ ((B.set 0 rfl (aS v z.2)).at 1 rfl)
  rw[O];have h4:=B.set 0 rfl (aS v z.2);have V:(1:Nat)*4≤16777216:=by decide
  simp only[go_sem,V,aAK,aAY,or_false,forall_eq,forall_eq_or_imp];rw[PH.set_set] at h4;refine h4.append 1 (src:=[(⟨[109]++bU i,(1+x.1:Nat),(1+y.1:Nat),(z.1:Nat)⟩:dD).cells]) rfl rfl (by unfold roomFor; rw[aAA]; simp only[aAI,maxLen]; omega) fun w' H2 h5 hw=>?_;obtain⟨q,rfl⟩:=hw (by simp);have Z:=h5.at 1 rfl;refine⟨e_ a_ Z,?_⟩;refine bN .nil dC a_ ?_;simp only[go_sem,an,Z,aAK,aAY,or_false,forall_eq];have h6:=h5.set 1 rfl (flB ext u (.osl q 4 0 (jY g.1++[(⟨[109]++bU i,(1+x.1:Nat),(1+y.1:Nat),(z.1:Nat)⟩:dD).cells]).length) .aA .aA .aA .aA);refine⟨a_,?_⟩;simp only[go_sem,ao,wZz i];refine aL (i+1,.osl q 4 0 (jY g.1++[(⟨[109]++bU i,(1+x.1:Nat),(1+y.1:Nat),(z.1:Nat)⟩:dD).cells]).length,_) ⟨hlt,?_⟩ (by simp only; omega) ?_ b_
  ·rw[A];have e:jY (g.1++[⟨[109]++bU i,(1+x.1:Nat),(1+y.1:Nat),(z.1:Nat)⟩])=jY g.1++[(⟨[109]++bU i,(1+x.1:Nat),(1+y.1:Nat),(z.1:Nat)⟩:dD).cells]:=by simp[jY]
   simp only;rw[e];exact h6
  ·exact Lq
 ·have j:¬ (i:Int)<(n:Nat):=Om;have:i=n:=Om;subst this;simp only[go_sem,j];exact hK I _ _ (QC rfl rfl rfl rfl rfl) rfl w
abbrev wU (x:cC) (w:PV):List PV:=[.str x.name,.int .i64 x.k,.int .i64 x.m,.int .i64 x.azL,.int .i64 x.s0,.int .i64 x.s1,.int .i64 x.s2,.int .i64 x.s3,.int .i64 x.s4,w,frs x.repair,
 .bool x.target.neg,aI x.target.num,aI x.target.den,.bool x.ayX.neg,aI x.ayX.num,aI x.ayX.den]
def i6 (E:FE) (mc n i:Nat):PF:=(((fV E).set 11 (.int .i64 mc)).set 13 (.int .i64 n)).set 14 (.int .i64 i)
structure PAt (E:FE) (mc n i:Nat) (F:PF):Prop where
 f0:F 0=some (.ptr E.o 2 0 0)
 f1:F 1=some (.int .i64 E.ayM)
 f2:F 2=some (.int .i64 E.ayO)
 f6:F 6=some (.ptr E.o6 7 0 0)
 f7:F 7=some (.ptr E.o7 7 0 0)
 f11:F 11=some (.int .i64 mc)
 f13:F 13=some (.int .i64 n)
 f14:F 14=some (.int .i64 i)
def qL (l:List Nat) (a:Nat):Nat→List Int × Nat
 | 0=>([],a)
 | j+1=>let s:=qL l a j
  let t:=hQ l s.2
  (s.1++[t.1],t.2)
theorem tP (l:List Nat) {a:Nat} (h:a≤l.length):(hQ l a).2≤l.length:=by
 unfold hQ;simp only;split
 ·exact bE l 3 (bE l 3 h)
 ·exact bE l 3 h
theorem kc (l:List Nat) {a:Nat} (h:a≤l.length):∀ j,(qL l a j).2≤l.length∧(qL l a j).1.length=j
 | 0=>⟨h,rfl⟩
 | j+1=>by obtain⟨e,u⟩:=kc l h j;exact⟨tP l e,by simp only[qL,aAE,aAI,u]⟩
abbrev qK (pre post:List PV) (s:List Int):List PV:=pre++(s.map fun x=>PV.int .i64 x)++aAC (4-s.length) (.int .i64 0)++post
theorem anN {pre post:List PV} {s:List Int} (e:pre.length=5) (l:s.length<4) (x:Int):(qK pre post s).set (5+s.length) (.int .i64 x)=qK pre post (s++[x]):=by
 obtain⟨k,j⟩:∃ k,4-s.length=k+1:=⟨3-s.length,by omega⟩;unfold qK;rw[aAE,aAI,show 4-(s.length+1)=k by omega,j,List.replicate_succ,aBO,aBG,aCP];rw[List.set_append_left _ _ (by simp[e]),aDQ _ _ (by simp[e])];have:5+s.length-(pre++s.map fun x=>PV.int .i64 x).length=0:=by simp[e]
 rw[this,aDX];simp
theorem agK {pre post:List PV} {s:List Int} (j:pre.length=5) (l:s.length<4):qK pre post s=qK pre post (s++[0]):=by
 obtain⟨k,e⟩:∃ k,4-s.length=k+1:=⟨3-s.length,by omega⟩;unfold qK;rw[aAE,aAI,show 4-(s.length+1)=k by omega,e,List.replicate_succ,aBO,aBG,aCP];simp
theorem T6 {C:Ctx} (Lb:nD C) {l:List Nat} {v:PV} (T:Tp l v) (E:FE) (mc n i a p:Nat) (ha:a≤l.length) (B:List BX) (L:List LI) (pre post:List PV) (e:pre.length=5) (A:post.length=8) (K:cK) (F:PF) (H:PH)
  (w:PAt E mc n i F) (U:F 15=some (.ptr p 17 0 0)) (V:F 16=some (.int .i64 1)) (I:aK H ((E.o,aS v a)::B++[(p,.rows 17 [qK pre post []])]) L)
  (hK:∀ R H',PAt E mc n i R→R 15=some (.ptr p 17 0 0)→aK H' ((E.o,aS v (qL l a 4).2)::B++[(p,.rows 17 [qK pre post (qL l a 4).1])]) L→K (.exit 6) R H') :
  aE.wp C (.loop xF) K F H:=by
 refine wp_loop (α:=Nat × PH) (fun t=>((i6 E mc n i).set 15 (.ptr p 17 0 0)).set 16 (.int .i64 (t.1+1:Nat))) (fun t=>t.2) (fun t=>t.1≤4∧aK t.2 ((E.o,aS v (qL l a t.1).2)::B++[(p,.rows 17 [qK pre post (qL l a t.1).1])]) L) (fun t=>4-t.1) (0,H) ⟨aAP _,I⟩ ?_ b_ ?_
 ·unfold i6 fV
  (repeat' (first|exact c_|refine d_ ?_ ?_))<;>first|(simp only[go_sem,w.f0,w.f1,w.f2,w.f6,w.f7,w.f11,w.f13,w.f14,U,V]<;>rfl)|rfl
 rintro⟨j,H0⟩ ⟨hj,I⟩;simp only at hj I ⊢;obtain⟨k1,k2⟩:=kc l ha j;have u:qL l a (j+1)=((qL l a j).1++[(hQ l (qL l a j).2).1],(hQ l (qL l a j).2).2):=rfl;simp only[go_sem,xF,ba,i6,fV];by_cases hlt:j<4
 ·generalize hg:qL l a j=g at *
  have ei:=dN (Om:j+1<9223372036854775807);simp only[go_sem,show ((j+1:Nat):Int)<5 by omega,bb];refine cX Lb.tozX T (o:=E.o) (n:=3) (a:=g.2) (by decide) k1 (by simp only[go_sem]; rfl) (I.at 0 rfl) ?_;have N:aK _ ((E.o,aS v (aD l 3 g.2).2)::B++[(p,.rows 17 [qK pre post g.1])]) L:=I.set 0 rfl (aS v (aD l 3 g.2).2);by_cases c:(aD l 3 g.2).1=0
  ·have Z:hQ l g.2=(((1+(aD l 3 (aD l 3 g.2).2).1:Nat):Int),(aD l 3 (aD l 3 g.2).2).2):=by unfold hQ; simp only[c,if_true]
   have n2:=cF l (show 0<3 by decide) (aD l 3 g.2).2;have e2:IntKind.i64.wrap (1+((aD l 3 (aD l 3 g.2).2).1:Int))=((1+(aD l 3 (aD l 3 g.2).2).1:Nat):Int):=by rw[wrap_i64 Om Om]; omega
   simp only[go_sem,bO (show (((aD l 3 g.2).1:Nat):Int)=0 by omega),bc];refine cX Lb.tozX T (o:=E.o) (n:=3) (a:=(aD l 3 g.2).2) (by decide) (bE l 3 k1) (by simp only[go_sem]; rfl) (N.at 0 rfl) ?_;have O:aK _ ((E.o,aS v (aD l 3 (aD l 3 g.2).2).2)::B++[(p,.rows 17 [qK pre post g.1])]) L:=N.set 0 rfl (aS v (aD l 3 (aD l 3 g.2).2).2);have S:=O.mP;rw[PH.set_set] at S O;have M:¬ p=E.o:=fun h=>by have Y:=O.ndB;simp[dU,h] at Y
   simp only[aQ,if_neg M] at S;have X:((j+1:Nat):Int)<((5:Nat):Int):=Om;have W:(0:Int)≤((j+1:Nat):Int):=Om;have β:(qK pre post g.1).length=17:=by simp[qK,e,A,k2]; omega
   have x:=anN (pre:=pre) (post:=post) (s:=g.1) e Om ((1+(aD l 3 (aD l 3 g.2).2).1:Nat):Int);rw[k2] at x;have J:4+(j+1)*1=5+j:=Om;have y:5+j+1≤17:=Om;simp only[go_sem,e2,X,W,J,M,S,y,aAK,aAY,or_false,forall_eq,x,GX,ei];refine aL (j+1,_) ⟨hlt,?_⟩ (by simp only; omega) ?_ b_
   ·rw[u,Z];exact O.rY _
   ·exact Lq
  ·have Z:hQ l g.2=(0,(aD l 3 g.2).2):=by unfold hQ; simp only[c,if_false]
   simp only[go_sem,bC (show ¬ (((aD l 3 g.2).1:Nat):Int)=0 by omega),GX,ei];refine aL (j+1,_) ⟨hlt,?_⟩ (by simp only; omega) ?_ b_
   ·rw[agK (pre:=pre) (post:=post) (s:=g.1) e Om] at N;rw[u,Z];exact N
   ·exact Lq
 ·have:j=4:=Om;subst this;simp only[go_sem,show ¬ ((4+1:Nat):Int)<5 by decide];exact hK _ _ ⟨by simp only[go_sem],by simp only[go_sem],by simp only[go_sem],by simp only[go_sem],by simp only[go_sem],by simp only[go_sem],by simp only[go_sem],by simp only[go_sem]⟩ Sq I
theorem aK.pE {E:FE} {v ext e j l u w x:PV} {a:Nat} {H:PH} {B:List BX} {L:List LI} (h:aK H (E.boxes v ext e j l u w x a++B) L) (b:Nat):aK (H.set E.o (aS v b)) (E.boxes v ext e j l u w x b++B) L:=h.set 0 rfl _
abbrev XA (s:List UInt8) (k m q:Int) (w r e j l:PV) (h:RF):List PV:=[.str s,.int .i64 k,.int .i64 m,.int .i64 q,.int .i64 0,.int .i64 0,.int .i64 0,.int .i64 0,.int .i64 0,w,r,e,j,l,.bool h.neg,aI h.num,aI h.den]
theorem aeD {C : Ctx} (Lb : nD C) {l : List Nat} {v : PV} (T : Tp l v) (E : FE) (mc n i a : Nat) (ha : a ≤ l.length) (hi : i < 50) (ext w1 w2 w3 w4 w5 w6 : PV) (L : List LI) (rest : aE) (K : cK) (F : PF) (H : PH)
    (hF : PAt E mc n i F) (hH : aK H (E.boxes v ext w1 w2 w3 w4 w5 w6 a) L)
    (hK : ∀ p F' H', PAt E mc n i F' → F' 15 = some (.ptr p 17 0 0) →
      (let k := aD l 2 a; let m := aD l 3 k.2; let h := aD l 4 m.2; let q := aD l (m.1 + 1) h.2; let r := kI l q.2 (max m.1 1); let g := aD l 9 r.2
       aK H' (E.boxes v ext w1 w2 w3 w4 w5 w6 g.2 ++ [(p, .rows 17 [qK [.str ([112] ++ bU i), .int .i64 (1 + k.1 : Nat), .int .i64 (m.1 : Nat), .int .i64 (1 + k.1 + q.1 : Nat), .int .i64 0]
        ([.aA, frs r.1] ++ (mkT (g.1 : Nat) 8).cells ++ (mkT ((1 + h.1 : Nat) : Int) 1).cells) []])]) L) → aE.wp C rest K F' H') :
    aE.wp C (.seq (.region GU) (.seq (.seq (.draw xG) (.draw xH)) (.seq (.region xI) (.seq (.region xJ) rest)))) K F H := by
  obtain ⟨f0, f1, f2, f6, f7, f11, f13, f14⟩ := hF;have nk := cF l (show 0 < 2 by decide) a;have ak := bE l 2 ha;have nm := cF l (show 0 < 3 by decide) (aD l 2 a).2;have am := bE l 3 ak;simp only at hK;generalize hk : aD l 2 a = k at *
  generalize hm : aD l 3 k.2 = m at *
  have nh := cF l (show 0 < 4 by decide) m.2;have ah := bE l 4 am;generalize hh : aD l 4 m.2 = h at *
  have nq := cF l (Om : 0 < m.1 + 1) h.2;have aq := bE l (m.1 + 1) ah;generalize hq : aD l (m.1 + 1) h.2 = q at *
  have ar := DY l aq (max m.1 1);generalize hr : kI l q.2 (max m.1 1) = r at *
  have ng := cF l (show 0 < 9 by decide) r.2;have ag := bE l 9 ar;generalize hg : aD l 9 r.2 = g at *
  have ek : IntKind.i64.wrap (1 + (k.1 : Int)) = ((1 + k.1 : Nat) : Int) := by rw [wrap_i64 Om Om]; omega
  have eh : IntKind.i64.wrap (1 + (h.1 : Int)) = ((1 + h.1 : Nat) : Int) := by rw [wrap_i64 Om Om]; omega
  have em : IntKind.i64.wrap ((m.1 : Int) + 1) = ((m.1 + 1 : Nat) : Int) := dN Om;have eq' : IntKind.i64.wrap (((1 + k.1 : Nat) : Int) + (q.1 : Int)) = ((1 + k.1 + q.1 : Nat) : Int) := by rw [wrap_i64 Om Om]; omega
  have h0 : aK H (E.boxes v ext w1 w2 w3 w4 w5 w6 a ++ []) L := by rw [aBU]; exact hH
  simp only[go_sem,GU,f14];refine aB (Lb.name [112] i (by decide) Om) rfl ?_;simp only[go_sem,f0];refine cX Lb.tozX T (o := E.o) (n := 2) (a := a) (by decide) ha rfl (h0.at 0 rfl) ?_;have g1 := h0.pE k.2;rw [hk];simp only[go_sem,ek,f0];refine cX Lb.tozX T (o := E.o) (n := 3) (a := k.2) (by decide) ak rfl (g1.at 0 rfl) ?_;have g2 := g1.pE m.2;rw [hm];rw [PH.set_set] at g2;simp only[go_sem,f0];refine cX Lb.tozX T (o := E.o) (n := 4) (a := m.2) (by decide) am rfl (g2.at 0 rfl) ?_;have g3 := g2.pE h.2;rw [hh];rw [PH.set_set] at g3;simp only[go_sem,eh];refine aB (Lb.int ((1 + h.1 : Nat) : Int) (by unfold dO; omega)) rfl ?_;simp only[go_sem,aAK,aAY,or_false,forall_eq,forall_eq_or_imp];refine aP fun p hp => ?_;have g4 := g3.new hp (.rows 17 [XA ([112] ++ bU i) (1 + k.1 : Nat) (m.1 : Nat) 0 .aA .aA (.bool false) .aA .aA (mkT ((1 + h.1 : Nat) : Int) 1)]);have hpo : ¬ p = E.o := g4.ne 3 0 rfl rfl (by decide);have hop : ¬ E.o = p := fun e => hpo e.symm;have q2 : ∀ (F2 : PF) (H2 : PH), PAt E mc n i F2 → F2 15 = some (.ptr p 17 0 0) → aK H2 (E.boxes v ext w1 w2 w3 w4 w5 w6 h.2 ++ [(p, .rows 17 [XA ([112] ++ bU i) (1 + k.1 : Nat) (m.1 : Nat) 0 .aA .aA (.bool false) .aA .aA (mkT ((1 + h.1 : Nat) : Int) 1)])]) L →
      aE.wp C (.seq (.seq (.draw xG) (.draw xH)) (.seq (.region xI) (.seq (.region xJ) rest))) K F2 H2 := by
    intro F2 H2 hF2 f15 hH2;obtain ⟨f0, f1, f2, f6, f7, f11, f13, f14⟩ := hF2;have bp := hH2.at 3 rfl;have hHs : (PH.nil.set p (.rows 17 [XA ([112] ++ bU i) (1 + k.1 : Nat) (m.1 : Nat) 0 .aA .aA (.bool false) .aA .aA (mkT ((1 + h.1 : Nat) : Int) 1)])).le H2 := e_ a_ bp;simp only[go_sem];refine bN _ (mkS l v) hHs ?_;simp only[go_sem,xG,f15,bp,em,f0];refine rB Lb.tozX T (o := E.o) (n := m.1 + 1) (a := h.2) Om ah rfl (hH2.at 0 rfl) ?_ ?_
    · rw [hq]; exact e_ a_ ((hH2.pE q.2).at 3 rfl)
    rw [hq];have g5 := hH2.pE q.2;simp only[go_sem,eq',f15];refine bN .nil dC a_ ?_;simp only[go_sem,xH,hpo,bp];refine ⟨a_, ?_⟩;have g6 : aK _ (E.boxes v ext w1 w2 w3 w4 w5 w6 q.2 ++ [(p, .rows 17 [XA ([112] ++ bU i) (1 + k.1 : Nat) (m.1 : Nat) (1 + k.1 + q.1 : Nat) .aA .aA (.bool false) .aA .aA (mkT ((1 + h.1 : Nat) : Int) 1)])]) L := g5.set 3 rfl (.rows 17 [XA ([112] ++ bU i) (1 + k.1 : Nat) (m.1 : Nat) (1 + k.1 + q.1 : Nat) .aA .aA (.bool false) .aA .aA (mkT ((1 + h.1 : Nat) : Int) 1)]);have bq := g6.at 3 rfl;simp only[go_sem,xI,f0,f15];refine lK (Lb.rep l v T E.o q.2 m.1 Om aq) (g6.at 0 rfl) rfl ?_;have g7 := g6.pE r.2;rw [hr];simp only[go_sem,hpo,f15];have g8 : aK _ (E.boxes v ext w1 w2 w3 w4 w5 w6 r.2 ++ [(p, .rows 17 [XA ([112] ++ bU i) (1 + k.1 : Nat) (m.1 : Nat) (1 + k.1 + q.1 : Nat) .aA (frs r.1) (.bool false) .aA .aA (mkT ((1 + h.1 : Nat) : Int) 1)])]) L := g7.set 3 rfl (.rows 17 [XA ([112] ++ bU i) (1 + k.1 : Nat) (m.1 : Nat) (1 + k.1 + q.1 : Nat) .aA (frs r.1) (.bool false) .aA .aA (mkT ((1 + h.1 : Nat) : Int) 1)]);simp only[go_sem,xJ,f0];refine cX Lb.tozX T (o := E.o) (n := 9) (a := r.2) (by decide) ar rfl (g8.at 0 rfl) ?_;have g9 := g8.pE g.2;rw [hg];simp only[go_sem];refine aB (Lb.fmk (g.1 : Int) 8 (by unfold dO; omega) (by unfold dO; omega)) rfl ?_;unfold wL;rw [if_neg (by decide)];simp only[go_sem,f15,hpo];have g10 := g9.set 3 rfl (.rows 17 [qK [.str ([112] ++ bU i), .int .i64 (1 + k.1 : Nat), .int .i64 (m.1 : Nat), .int .i64 (1 + k.1 + q.1 : Nat), .int .i64 0]
        ([.aA, frs r.1] ++ (mkT (g.1 : Nat) 8).cells ++ (mkT ((1 + h.1 : Nat) : Int) 1).cells) []])
    refine hK p _ _ ⟨by simp only[go_sem,f0], by simp only[go_sem,f1], by simp only[go_sem,f2], by simp only[go_sem,f6], by simp only[go_sem,f7], by simp only[go_sem,f11], by simp only[go_sem,f13], by simp only[go_sem,f14]⟩ (by simp only[go_sem,f15]) g10
  simp only [aE.wp, go_sem] at q2;simp only[go_sem,aAK,aAY,or_false,forall_eq,forall_eq_or_imp];exact q2 _ _ ⟨by simp only[go_sem,f0], by simp only[go_sem,f1], by simp only[go_sem,f2], by simp only[go_sem,f6], by simp only[go_sem,f7], by simp only[go_sem,f11], by simp only[go_sem,f13], by simp only[go_sem,f14]⟩ rfl g4
abbrev FE.lists (x y A B E:PV) (l:List cT) (u:List dD) (e:List cP) (j:List cZ) (w:List (List PV)):List LI:=[(x,4,iV l),(y,4,jY u),(A,7,kE e),(B,3,mQ j),(E,17,w)]
theorem aeE {C:Ctx} (Lb:nD C) {l:List Nat} {v:PV} (T:Tp l v) (E:FE) (mc n i a:Nat) (ha:a≤l.length) (η:0<mc) (μ:mc≤50) (ext y A B I w5:PV) (lw:List cT) (md:List dD) (dm:List cP) (dv:List cZ) (pr:List (List PV)) (ρ:pr.length≤50)
  (s:List UInt8) (k m q:Int) (r t h:RF) (M:List RF) (p:Nat) (K:cK) (F:PF) (H:PH)
  (hF:PAt E mc n i F) (u:F 15=some (.ptr p 17 0 0))
  (hH:aK H (E.boxes v ext y A B I w5 .aA a++[(p,.rows 17 [qK [.str s,.int .i64 k,.int .i64 m,.int .i64 q,.int .i64 0] ([.aA,frs M]++t.cells++h.cells) []])]) (FE.lists y A B I w5 lw md dm dv pr))
  (V:(let J:=qL l a 4; let f:=aD l mc J.2; let b:=aD l 2 f.2
   let ms:List Int × Nat:=if 1<mc then (if b.1=0 then ([(f.1:Int),1-(f.1:Int)],b.2) else ([(f.1:Int)],b.2)) else ([(f.1:Int)],f.2)
   ∀ (w j:PV) (W:PF) (H':PH) (B':List BX),PAt E mc n i W→(∃ o,w=.osl o 1 0 ms.1.length)→aK H' (E.boxes v ext y A B I j .aA ms.2++B')
    (FE.lists y A B I j lw md dm dv (pr++[wU ⟨s,k,m,q,0,(J.1.getD 0 0),(J.1.getD 1 0),(J.1.getD 2 0),(J.1.getD 3 0),ms.1,M,t,h⟩ w])++[(w,1,bT ms.1)])→K .normal W H')) :
  aE.wp C (.seq (.seq (.region GW) (.block 6 (.loop xF))) (.seq (.region GY) (.seq (.region GZ) (.seq (.seq (.region HA) (.cond (.tmp 143) (.region HB) .skip)) (.region xK))))) K F H:=by
 obtain⟨f0,f1,f2,f6,f7,f11,f13,f14⟩:=hF;simp only[go_sem,GW];refine T6 (C:=C) Lb T E mc n i a p ha [(E.o7,flB ext y A B I w5 .aA),(E.o6,flZ)] _ _ _ rfl rfl _ _ H ⟨by simp only[go_sem,f0],by simp only[go_sem,f1],by simp only[go_sem,f2],by simp only[go_sem,f6],by simp only[go_sem,f7],by simp only[go_sem,f11],by simp only[go_sem,f13],by simp only[go_sem,f14]⟩ (by simp only[go_sem,u]) rfl hH ?_;clear f0 f1 f2 f6 f7 f11 f13 f14 u hH;intro F1 H1 ε u x;obtain⟨f0,f1,f2,f6,f7,f11,f13,f14⟩:=ε;obtain⟨α,ls⟩:=kc l ha 4;have ι:∃ N O R S,(qL l a 4).1=[N,O,R,S]:=⟨_,_,_,_,rfl⟩;simp only at V;generalize ν:qL l a 4=J at *
 obtain⟨N,O,R,S,hx⟩:=ι;rw[hx] at V x;replace x:aK H1 (E.boxes v ext y A B I w5 .aA J.2++[(p,.rows 17 [wU ⟨s,k,m,q,0,N,O,R,S,[],M,t,h⟩ .aA])]) (FE.lists y A B I w5 lw md dm dv pr):=x;have nf:=cF l η J.2;have af:=bE l mc α;generalize hf:aD l mc J.2=f at *
 have ab:=bE l 2 af;generalize hb:aD l 2 f.2=b at *
 have Z:¬ p=E.o:=x.ne 3 0 rfl rfl (by decide);have θ:¬ p=E.o7:=x.ne 3 1 rfl rfl (by decide);have ο:¬ E.o7=p:=fun e=>θ e.symm;have ξ:¬ E.o7=E.o:=x.ne 1 0 rfl rfl (by decide);simp only[go_sem,GY,f0,f11];refine cX Lb.tozX T (o:=E.o) (n:=mc) (a:=J.2) Om α rfl (x.at 0 rfl) ?_;have h2:=x.set 0 rfl (aS v f.2);rw[hf];simp only[go_sem,GZ];refine aP fun o ho=>?_;have h3:=h2.jm (s:=1) (rows:=bT [(f.1:Int)]) ho;have b3:=h3.at 3 rfl;have ob:¬ p=o:=h3.neL 3 5 rfl rfl rfl;have σ:¬ E.o7=o:=h3.neL 1 5 rfl rfl rfl;have τ:¬ E.o=o:=h3.neL 0 5 rfl rfl rfl;simp only[aQ,if_neg ob,if_neg Z] at b3;simp only[go_sem,u,ob,Z,b3,aAK,aAY,or_false,forall_eq];have h4:=h3.set 3 rfl (.rows 17 [wU ⟨s,k,m,q,0,N,O,R,S,[],M,t,h⟩ (.osl o 1 0 1)]);have fin:∀ (w:PV) (ms:List Int) (a':Nat) (W:PF) (H':PH),PAt E mc n i W→W 15=some (.ptr p 17 0 0)→(∃ o,w=.osl o 1 0 ms.length) →
   aK H' (E.boxes v ext y A B I w5 .aA a'++[(p,.rows 17 [wU ⟨s,k,m,q,0,N,O,R,S,ms,M,t,h⟩ w])]) (FE.lists y A B I w5 lw md dm dv pr++[(w,1,bT ms)]) →
   (∀ (j:PV) (U:PF) (H2:PH),PAt E mc n i U→aK H2 (E.boxes v ext y A B I j .aA a'++[(p,.rows 17 [wU ⟨s,k,m,q,0,N,O,R,S,ms,M,t,h⟩ w])]) (FE.lists y A B I j lw md dm dv (pr++[wU ⟨s,k,m,q,0,N,O,R,S,ms,M,t,h⟩ w])++[(w,1,bT ms)])→K .normal U H2) →
   wpOps C xK (K .normal) W H':=by
  intro w ms a' W H' δ u hw Y ζ;obtain⟨wo,rfl⟩:=hw;obtain⟨f0,f1,f2,f6,f7,f11,f13,f14⟩:=δ;have c1:=Y.at 1 rfl;have c3:=Y.at 3 rfl;have γ:(1:Nat)*17≤16777216:=by decide
  simp only[go_sem,xK,f7,u,c1,c3,γ,aAK,aAY,or_false,forall_eq,forall_eq_or_imp];refine Y.append 4 (src:=[wU ⟨s,k,m,q,0,N,O,R,S,ms,M,t,h⟩ (.osl wo 1 0 ms.length)]) rfl rfl (by unfold roomFor; simp only[aAI,maxLen]; omega) fun j H2 h5 κ=>?_;obtain⟨q5,rfl⟩:=κ (by simp);have c2:=h5.at 1 rfl;simp only[go_sem,c2,aAK,aAY,or_false,forall_eq];exact ζ _ _ _ ⟨by simp only[go_sem,f0],by simp only[go_sem,f1],by simp only[go_sem,f2],by simp only[go_sem,f6],by simp only[go_sem,f7],by simp only[go_sem,f11],by simp only[go_sem,f13],by simp only[go_sem,f14]⟩ (h5.set 1 rfl (flB ext y A B I _ .aA))
 simp only[go_sem,HA,f11];by_cases c:1<mc
 ·have c':(mc:Int)>1:=Om;simp only[go_sem,c',f0];refine cX Lb.tozX T (o:=E.o) (n:=2) (a:=f.2) (by decide) af rfl (h4.at 0 rfl) ?_;have h5:=h4.set 0 rfl (aS v b.2);rw[hb];by_cases c2:b.1=0
  ·have X:(b.1:Int)=0:=Om;rw[if_pos c,if_pos c2] at V;have e1:IntKind.i64.wrap (1-(f.1:Int))=1-(f.1:Int):=wrap_i64 Om Om;have c3:=h5.at 3 rfl;have β:(1:Nat)*1≤16777216:=by decide
   simp only[go_sem,bO X,HB,u,Z,e1,β];refine h5.append 5 (src:=[[.int .i64 (1-(f.1:Int))]]) rfl rfl (by unfold roomFor; simp only[bT,aAA,aAI,maxLen]; omega) fun w' H2 h6 hw=>?_;obtain⟨q2,rfl⟩:=hw (by simp);have c4:=h6.at 3 rfl;simp only[go_sem,c4,u,aAK,aAY,or_false,forall_eq];have h7:=h6.set 3 rfl (.rows 17 [wU ⟨s,k,m,q,0,N,O,R,S,[(f.1:Int),1-(f.1:Int)],M,t,h⟩ (.osl q2 1 0 2)]);exact fin (.osl q2 1 0 2) [(f.1:Int),1-(f.1:Int)] b.2 _ _ ⟨by simp only[go_sem,f0],by simp only[go_sem,f1],by simp only[go_sem,f2],by simp only[go_sem,f6],by simp only[go_sem,f7],by simp only[go_sem,f11],by simp only[go_sem,f13],by simp only[go_sem,f14]⟩ (by simp only[go_sem,u]) ⟨q2,rfl⟩ h7 (fun j U H2 g1 g2=>V _ j U H2 _ g1 ⟨q2,rfl⟩ g2)
  ·have X:¬ (b.1:Int)=0:=Om;rw[if_pos c,if_neg c2] at V;simp only[go_sem,bC X];exact fin (.osl o 1 0 1) [(f.1:Int)] b.2 _ _ ⟨by simp only[go_sem,f0],by simp only[go_sem,f1],by simp only[go_sem,f2],by simp only[go_sem,f6],by simp only[go_sem,f7],by simp only[go_sem,f11],by simp only[go_sem,f13],by simp only[go_sem,f14]⟩ (by simp only[go_sem,u]) ⟨o,rfl⟩ h5 (fun j U H2 g1 g2=>V _ j U H2 _ g1 ⟨o,rfl⟩ g2)
 ·have c':¬ (mc:Int)>1:=Om;rw[if_neg c] at V;simp only[go_sem,c'];exact fin (.osl o 1 0 1) [(f.1:Int)] f.2 _ _ ⟨by simp only[go_sem,f0],by simp only[go_sem,f1],by simp only[go_sem,f2],by simp only[go_sem,f6],by simp only[go_sem,f7],by simp only[go_sem,f11],by simp only[go_sem,f13],by simp only[go_sem,f14]⟩ (by simp only[go_sem,u]) ⟨o,rfl⟩ h4 (fun j U H2 g1 g2=>V _ j U H2 _ g1 ⟨o,rfl⟩ g2)
abbrev mI (l:List cC):List (List PV):=l.map cC.cells
abbrev oK (l:List gI):List (List PV):=l.map gI.cells
theorem qD {rows:List (List PV)} (h:∀ r∈rows,∀ c∈r,c.oid=none):Flat rows:=Flat.of fun r j c e q s rs=>FH (h r j c e) q s rs
theorem N1 (l:List cT):Flat (iV l):=qD fun r j c e=>by
 obtain⟨x,_,rfl⟩:=aAW.1 j;simp only[cT.cells,aAK,aAY,or_false] at e;rcases e with rfl | rfl | rfl | rfl<;>rfl
theorem Oh (l:List dD):Flat (jY l):=qD fun r j c e=>by
 obtain⟨x,_,rfl⟩:=aAW.1 j;simp only[dD.cells,aAK,aAY,or_false] at e;rcases e with rfl | rfl | rfl | rfl<;>rfl
theorem Ku (l:List cP):Flat (kE l):=qD fun r j c e=>by
 obtain⟨x,_,rfl⟩:=aAW.1 j;simp only[cP.cells,aAK,aAY,or_false] at e;rcases e with rfl | rfl | rfl | rfl | rfl | rfl | rfl<;>rfl
theorem Kw (l:List cZ):Flat (mQ l):=qD fun r j c e=>by
 obtain⟨x,_,rfl⟩:=aAW.1 j;simp only[cZ.cells,aAK,aAY,or_false] at e;rcases e with rfl | rfl | rfl<;>rfl
theorem aoC (l:List gI):Flat (oK l):=qD fun r j c e=>by
 obtain⟨x,_,rfl⟩:=aAW.1 j;simp only[gI.cells,aAK,aAY,or_false] at e;rcases e with rfl | rfl<;>rfl
theorem Qt (l:List cC):Flat (mI l):=qD fun r j c e=>by
 obtain⟨x,_,rfl⟩:=aAW.1 j;simp only[cC.cells,aAK,aAY,or_false] at e;rcases e with rfl | rfl | rfl | rfl | rfl | rfl | rfl | rfl | rfl | rfl | rfl | rfl | rfl | rfl | rfl | rfl | rfl<;>rfl
theorem U5 (l:List Nat) (mc i:Nat) {a:Nat} (h:a≤l.length):(mM l mc i a).2≤l.length:=by
 have j:=bE l 9 (DY l (bE l ((aD l 3 (aD l 2 a).2).1+1) (bE l 4 (bE l 3 (bE l 2 h)))) (max (aD l 3 (aD l 2 a).2).1 1));have e:=bE l mc (tP l (tP l (tP l (tP l j))));unfold mM;simp only;split
 ·split
  ·exact bE l 2 e
  ·exact bE l 2 e
 ·exact e
theorem tJ (l:List Nat) (mc:Nat) {a:Nat} (h:a≤l.length):∀ k,(dV l mc a k).2≤l.length∧(dV l mc a k).1.length=k
 | 0=>⟨h,rfl⟩
 | k+1=>by obtain⟨e,j⟩:=tJ l mc h k;exact⟨U5 l mc k e,by simp only[dV,aAE,aAI,j]⟩
theorem DF (l:List Nat) (pc:Nat) {a:Nat} (h:a≤l.length):∀ k,(eQ l pc a k).2≤l.length∧(eQ l pc a k).1.length=k
 | 0=>⟨h,rfl⟩
 | k+1=>by obtain⟨e,j⟩:=DF l pc h k;exact⟨bE l pc e,by simp only[eQ,aAE,aAI,j]⟩
theorem Cw {C:Ctx} (Lb:nD C) {l:List Nat} {v:PV} (T:Tp l v) (E:FE) (mc n a:Nat) (hn:n≤10) (θ:0<mc) (Z:mc≤50) (ha:a≤l.length) (N:Int) (j u y A:PV) (S:List cT) (U:List dD) (O:List cP) (R:List cZ) (K:cK) (F:PF) (H:PH)
  (J:PAt E mc n 0 F) (W:aK H (E.boxes v (.int .i64 N) j u y A .aA .aA a) [(j,4,iV S),(u,4,jY U),(y,7,kE O),(A,3,mQ R)])
  (hK:∀ V F' H',(fV E).le F'→aK H' (E.boxes v (.int .i64 N) j u y A V .aA (dV l mc a n).2) (FE.lists j u y A V S U O R (mI (dV l mc a n).1))→K (.exit 4) F' H') :
  aE.wp C (.loop GR) K F H:=by
 refine wp_loop (α:=Nat × PV × PH) (fun t=>i6 E mc n t.1) (fun t=>t.2.2) (fun t=>t.1≤n∧aK t.2.2 (E.boxes v (.int .i64 N) j u y A t.2.1 .aA (dV l mc a t.1).2) (FE.lists j u y A t.2.1 S U O R (mI (dV l mc a t.1).1))) (fun t=>n-t.1) (0,.aA,H) ⟨aAP _,W.mB 17⟩ ?_ b_ ?_
 ·unfold i6 fV
  (repeat' (first|exact c_|refine d_ ?_ ?_))<;>first|(simp only[go_sem,J.f0,J.f1,J.f2,J.f6,J.f7,J.f11,J.f13,J.f14]<;>rfl)|rfl
 rintro⟨i,V,H0⟩ ⟨hi,W⟩;simp only at hi W ⊢;obtain⟨k1,k2⟩:=tJ l mc ha i;have I:dV l mc a (i+1)=((dV l mc a i).1++[(mM l mc i (dV l mc a i).2).1],(mM l mc i (dV l mc a i).2).2):=rfl;simp only[go_sem,GR,ay,i6,fV];by_cases hlt:i<n
 ·have B:(i:Int)<(n:Nat):=Om;generalize hg:dV l mc a i=g at *
  simp only[go_sem,B];refine aeD (C:=C) Lb T E mc n i g.2 k1 Om (.int .i64 N) j u y A V .aA _ _ _ _ H0 ⟨by simp only[go_sem],by simp only[go_sem],by simp only[go_sem],by simp only[go_sem],by simp only[go_sem],by simp only[go_sem],by simp only[go_sem],by simp only[go_sem]⟩ W ?_;intro p F1 H1 γ β X;simp only at X;have ι:mM l mc i g.2=_:=rfl;have Y:=bE l 9 (DY l (bE l ((aD l 3 (aD l 2 g.2).2).1+1) (bE l 4 (bE l 3 (bE l 2 k1)))) (max (aD l 3 (aD l 2 g.2).2).1 1));refine aeE (C:=C) Lb T E mc n i _ Y θ Z (.int .i64 N) j u y A V S U O R _ (by rw[aAA,k2]; omega) _ _ _ _ (mkT 0 1) _ _ _ p _ F1 H1 γ β X ?_;intro M f b ms w e F2 H2 B' δ hw ε;obtain⟨o,rfl⟩:=hw;have hP:mM l mc i g.2=(⟨[112]++bU i,(1+(aD l 2 g.2).1:Nat),((aD l 3 (aD l 2 g.2).2).1:Nat),(1+(aD l 2 g.2).1+(aD l ((aD l 3 (aD l 2 g.2).2).1+1) (aD l 4 (aD l 3 (aD l 2 g.2).2).2).2).1:Nat),0,M.1.getD 0 0,M.1.getD 1 0,M.1.getD 2 0,M.1.getD 3 0,ms.1,(kI l (aD l ((aD l 3 (aD l 2 g.2).2).1+1) (aD l 4 (aD l 3 (aD l 2 g.2).2).2).2).2 (max (aD l 3 (aD l 2 g.2).2).1 1)).1,mkT ((aD l 9 (kI l (aD l ((aD l 3 (aD l 2 g.2).2).1+1) (aD l 4 (aD l 3 (aD l 2 g.2).2).2).2).2 (max (aD l 3 (aD l 2 g.2).2).1 1)).2).1:Nat) 8,mkT ((1+(aD l 4 (aD l 3 (aD l 2 g.2).2).2).1:Nat):Int) 1⟩,ms.2):=rfl;rw[hP] at I;generalize ζ:(⟨[112]++bU i,(1+(aD l 2 g.2).1:Nat),((aD l 3 (aD l 2 g.2).2).1:Nat),(1+(aD l 2 g.2).1+(aD l ((aD l 3 (aD l 2 g.2).2).1+1) (aD l 4 (aD l 3 (aD l 2 g.2).2).2).2).1:Nat),0,M.1.getD 0 0,M.1.getD 1 0,M.1.getD 2 0,M.1.getD 3 0,ms.1,(kI l (aD l ((aD l 3 (aD l 2 g.2).2).1+1) (aD l 4 (aD l 3 (aD l 2 g.2).2).2).2).2 (max (aD l 3 (aD l 2 g.2).2).1 1)).1,mkT ((aD l 9 (kI l (aD l ((aD l 3 (aD l 2 g.2).2).1+1) (aD l 4 (aD l 3 (aD l 2 g.2).2).2).2).2 (max (aD l 3 (aD l 2 g.2).2).1 1)).2).1:Nat) 8,mkT ((1+(aD l 4 (aD l 3 (aD l 2 g.2).2).2).1:Nat):Int) 1⟩:cC)=P at *
  have η:P.ayN=ms.1:=by rw[← ζ]
  obtain⟨rs,z1,z2,z3,z4,z5⟩:=ε.frz 5 rfl;have y1:=z4 0 _ (by decide) rfl;have y2:=z4 1 _ (by decide) rfl;have y3:=z4 2 _ (by decide) rfl;have y4:=z4 3 _ (by decide) rfl;have y5:=z4 4 _ (by decide) rfl;simp only at y1 y2 y3 y4 y5;have y0:=T.frz o 1 rs;obtain⟨f0,f1,f2,f6,f7,f11,f13,f14⟩:=δ;simp only[go_sem,bd,f14,wZz i];refine AJ (i+1,e,H2.frz o 1 rs) z1 ⟨hlt,?_⟩ (by simp only; omega) ?_ b_
  ·rw[I];have eB:(E.boxes v (.int .i64 N) j u y A e .aA ms.2).map (fun b=>(b.1,b.2.frz o 1 rs))=E.boxes v (.int .i64 N) j u y A e .aA ms.2:=by show [(E.o,bF.rows 2 [[PV.bP o 1 rs v,.int .i64 ms.2]]),(E.o7,bF.rows 7 [[.int .i64 N,PV.bP o 1 rs j,PV.bP o 1 rs u,PV.bP o 1 rs y,PV.bP o 1 rs A,PV.bP o 1 rs e,.aA]]),(E.o6,flZ)]=_;rw[y0,y1,y2,y3,y4,y5]
   have e5:(mI g.1++[wU P (.osl o 1 0 ms.1.length)]).map (fun r=>r.map (PV.bP o 1 rs))=mI (g.1++[P]):=by
    rw[aBO,Qt];have:([wU P (.osl o 1 0 ms.1.length)]:List (List PV)).map (fun r=>r.map (PV.bP o 1 rs))=[P.cells]:=by show [[PV.str P.name,.int .i64 P.k,.int .i64 P.m,.int .i64 P.azL,.int .i64 P.s0,.int .i64 P.s1,.int .i64 P.s2,.int .i64 P.s3,.int .i64 P.s4,PV.bP o 1 rs (.osl o 1 0 ms.1.length),frs P.repair,.bool P.target.neg,aI P.target.num,aI P.target.den,.bool P.ayX.neg,aI P.ayX.num,aI P.ayX.den]]=_;rw[z2,← η];rfl
    rw[this];simp[mI]
   have eL:(FE.lists j u y A e S U O R (mI g.1++[wU P (.osl o 1 0 ms.1.length)])).map (fun x=>(x.1,x.2.1,x.2.2.map fun r=>r.map (PV.bP o 1 rs)))=FE.lists j u y A e S U O R (mI (g.1++[P])):=by show [(j,4,(iV S).map _),(u,4,(jY U).map _),(y,7,(kE O).map _),(A,3,(mQ R).map _),(e,17,(mI g.1++[wU P (.osl o 1 0 ms.1.length)]).map _)]=_;rw[N1,Oh,Ku,Kw,e5]
   rw[← eB,← eL];exact z5.sub (by rw[aBO]; exact aDY ..) (aCG.refl _)
  ·(repeat' (first|exact c_|refine d_ ?_ ?_))<;>first|(simp only[go_sem,f0,f1,f2,f6,f7,f11,f13]<;>rfl)|rfl
 ·have B:¬ (i:Int)<(n:Nat):=Om;have:i=n:=Om;subst this;simp only[go_sem,B];exact hK V _ _ (QC Sq Sq Sq Sq Sq) W
theorem Jz {C:Ctx} (V:nD C) {l:List Nat} {v:PV} (T:Tp l v) (E:FE) (pc n a:Nat) (hn:n≤60) (β:pc≤50) (ha:a≤l.length) (ext B I J M j:PV) (A:List cC) (S:A.length=pc) (L:List LI) (K:cK) (F:PF) (H:PH)
  (hF:(((fV E).set 18 (.int .i64 n)).set 19 (.int .i64 0)).le F) (x:aK H (E.boxes v ext B I J M j .aA a) ((j,17,mI A)::L))
  (hK:∀ w U H',(fV E).le U→aK H' (E.boxes v ext B I J M j w (eQ l pc a n).2) ((j,17,mI A)::L++[(w,2,oK (eQ l pc a n).1)])→K (.exit 8) U H') :
  aE.wp C (.loop GT) K F H:=by
 refine wp_loop (α:=Nat × PV × PH) (fun t=>((fV E).set 18 (.int .i64 n)).set 19 (.int .i64 t.1)) (fun t=>t.2.2) (fun t=>t.1≤n∧aK t.2.2 (E.boxes v ext B I J M j t.2.1 (eQ l pc a t.1).2) ((j,17,mI A)::L++[(t.2.1,2,oK (eQ l pc a t.1).1)])) (fun t=>n-t.1) (0,.aA,H) ⟨aAP _,x.mB 2⟩ hF b_ ?_;rintro⟨i,w,Z⟩ ⟨hi,x⟩;simp only at hi x ⊢;obtain⟨k1,k2⟩:=DF l pc ha i;have y:eQ l pc a (i+1)=((eQ l pc a i).1++[⟨[118]++bU i,((aD l pc (eQ l pc a i).2).1:Nat)⟩],(aD l pc (eQ l pc a i).2).2):=rfl;simp only[go_sem,GT,bg,fV];by_cases hlt:i<n
 ·have u:(i:Int)<(n:Nat):=Om;generalize hg:eQ l pc a i=g at *
  have X:=x.set 0 rfl (aS v (aD l pc g.2).2);generalize O:aD l pc g.2=z at *
  have b1:=x.at 1 rfl;have Y:=(x.own 0 rfl).tA;rw[aAA,S] at Y;have N:(PH.nil.set E.o7 (flB ext B I J M j w)).le Z:=e_ a_ b1;simp only[go_sem,u];refine bN (PH.nil.set E.o7 (flB ext B I J M j w)) (mkS l v) N ?_;simp only[go_sem,bi];refine EQ V.tosL (s:=[118]) (n:=i) (by decide) Om rfl N ?_;simp only[go_sem,Y];refine rB V.tozX T (o:=E.o) (n:=pc) (a:=g.2) Om k1 rfl (x.at 0 rfl) ?_ ?_
  ·rw[O]; exact e_ a_ (X.at 1 rfl)
  rw[O];have R:(1:Nat)*2≤16777216:=by decide
  simp only[go_sem,R,aAK,aAY,or_false,forall_eq,forall_eq_or_imp];refine X.append (v:=w) (s:=2) (rows:=oK g.1) (L.length+1) (src:=[(⟨[118]++bU i,(z.1:Nat)⟩:gI).cells]) (by simp) rfl (by unfold roomFor; rw[aAA]; simp only[aAI,maxLen]; omega) fun w' H2 h5 hw=>?_;obtain⟨q,rfl⟩:=hw (by simp);rw[show ((j,17,mI A)::L++[(w,2,oK g.1)])=((j,17,mI A)::L)++[(w,2,oK g.1)] from rfl,aDQ _ _ (by simp),show L.length+1-((j,17,mI A)::L).length=0 by simp] at h5;have W:=h5.at 1 rfl;refine⟨e_ a_ W,?_⟩;refine bN .nil dC a_ ?_;simp only[go_sem,bj,W,aAK,aAY,or_false,forall_eq];have h6:=h5.set 1 rfl (flB ext B I J M j (.osl q 2 0 (oK g.1++[(⟨[118]++bU i,(z.1:Nat)⟩:gI).cells]).length));refine⟨a_,?_⟩;simp only[go_sem,bk,wZz i];refine aL (i+1,.osl q 2 0 (oK g.1++[(⟨[118]++bU i,(z.1:Nat)⟩:gI).cells]).length,_) ⟨hlt,?_⟩ (by simp only; omega) ?_ b_
  ·rw[y];have e:oK (g.1++[⟨[118]++bU i,(z.1:Nat)⟩])=oK g.1++[(⟨[118]++bU i,(z.1:Nat)⟩:gI).cells]:=by simp[oK]
   simp only;rw[e];exact h6
  ·exact Lq
 ·have u:¬ (i:Int)<(n:Nat):=Om;have:i=n:=Om;subst this;simp only[go_sem,u];exact hK w _ _ (QC rfl rfl rfl rfl rfl) x
def KB (l:List Nat) (v:PV) (o ayM ayO a:Nat) (r:PV) (H:PH):Prop:=Co r (.agg (gW l ayM ayO a).1.cells)∧H=PH.nil.set o (aS v (gW l ayM ayO a).2)
structure u7 (C:Ctx):Prop extends nD C where
 grow:∀ (l:List Nat) (v:PV),Tp l v→∀ (mc ayM:Nat),0<mc→mc≤1000→ayM≤60→YC C l v mc ayM 4
theorem Yc {C:Ctx} (R:u7 C) {l:List Nat} {v:PV} (T:Tp l v) (o ayM ayO a:Nat) (Δ:ayM≤60) (Ψ:ayO≤50) (ha:a≤l.length) :
  BP.wp C (aT Cx.res (KB l v o ayM ayO a)) (PF.args [.ptr o 2 0 0,.int .i64 ayM,.int .i64 ayO]) (PH.nil.set o (aS v a)):=by
 have hT:gW l ayM ayO a=gW l ayM ayO a:=rfl
 conv at hT=>rhs; unfold gW
 dsimp only at hT;have hR:∀ r H,KB l v o ayM ayO a r H↔Co r (.agg (gW l ayM ayO a).1.cells)∧H=PH.nil.set o (aS v (gW l ayM ayO a).2):=fun _ _=>Iff.rfl;have ne:=cF l (show 0<2 by decide) a;have ae:=bE l 2 ha;generalize he:aD l 2 a=e at *
 have Ω:=cF l (show 0<2 by decide) e.2;have ζ:=bE l 2 ae;generalize Θ:aD l 2 e.2=O at *
 obtain⟨S,δ⟩:=GG l ζ (1+O.1);generalize α:hJ l O.2 (1+O.1)=ayU at *
 have a':=cF l (show 0<2 by decide) ayU.2;have η:=bE l 2 S;generalize Λ:aD l 2 ayU.2=u at *
 obtain⟨U,Y⟩:=xN l (1+O.1) η (1+u.1);generalize W:eI l (1+O.1) u.2 (1+u.1)=ayN at *
 have κ:GOk l ayM ⟨[mJ],[],ayN.2⟩:=⟨by simp,aAP _,U⟩;obtain⟨hG,-⟩:=FT (mc:=1+u.1) 4 0 κ;generalize hg:eY l (1+u.1) ayM 4 0 ⟨[mJ],[],ayN.2⟩=g at *
 have b':=cF l (show 0<2 by decide) g.a;have θ:=bE l 2 hG.a;generalize Φ:aD l 2 g.a=pl at *
 obtain⟨V,ε⟩:=tJ l (1+u.1) θ (1+pl.1);generalize β:dV l (1+u.1) pl.2 (1+pl.1)=pols at *
 have c':=cF l (Om:0<ayO+1) pols.2;have σ:=bE l (ayO+1) V;generalize ο:aD l (ayO+1) pols.2=vo at *
 generalize γ:eQ l (1+pl.1) vo.2 vo.1=vols at *
 have ee:IntKind.i64.wrap (1+(e.1:Int))=((1+e.1:Nat):Int):=by rw[wrap_i64 Om Om]; omega
 have τ:IntKind.i64.wrap (1+(O.1:Int))=((1+O.1:Nat):Int):=by rw[wrap_i64 Om Om]; omega
 have υ:IntKind.i64.wrap (1+(u.1:Int))=((1+u.1:Nat):Int):=by rw[wrap_i64 Om Om]; omega
 have χ:IntKind.i64.wrap (1+(pl.1:Int))=((1+pl.1:Nat):Int):=by rw[wrap_i64 Om Om]; omega
 have ψ:IntKind.i64.wrap ((ayO:Int)+1)=((ayO+1:Nat):Int):=dN Om;have h0:aK (PH.nil.set o (aS v a)) [(o,aS v a)] []:=aK.nil.new (H:=PH.nil) rfl (aS v a);simp only[go_sem,BP,nc,Cx];refine aP fun o6 μ=>?_;have w:=h0.new μ flZ;simp only[go_sem,ni];refine cX R.tozX T (o:=o) (n:=2) (a:=a) (by decide) ha rfl (w.at 0 rfl) ?_;have A:=w.set 0 rfl (aS v e.2);rw[he];simp only[go_sem,ee];refine aP fun o7 ν=>?_;have J:=A.new ν (flB (.int .i64 (1+e.1:Nat)) .aA .aA .aA .aA .aA .aA);simp only[go_sem,nj,aAK,aAY,or_false,forall_eq,forall_eq_or_imp];refine cX R.tozX T (o:=o) (n:=2) (a:=e.2) (by decide) ae rfl (J.at 0 rfl) ?_;have h4:=J.set 0 rfl (aS v O.2);rw[Θ];have h5:=h4.perm (B':=FE.boxes ⟨o,o6,o7,ayM,ayO⟩ v (.int .i64 (1+e.1:Nat)) .aA .aA .aA .aA .aA .aA O.2) (L':=[]) (aCO.cons _ (aCO.swap _ _ _)) (aCO.refl _);obtain⟨E,j⟩:∃ E:FE,E=⟨o,o6,o7,ayM,ayO⟩:=⟨_,rfl⟩;rw[← j] at h5;simp only[go_sem,τ,nn];refine aeC (C:=C) R.tonD T E (1+O.1) O.2 Om ζ _ _ _ _ ?_ h5 ?_
 ·rw[j];unfold fV;exact Lq
 clear h5 h4 J A w h0 μ ν;intro y F1 H1 K w;rw[α] at w;have f0:F1 0=some (.ptr o 2 0 0):=K 0 _ (by rw[j]; unfold fV; simp only[go_sem]);have f1:F1 1=some (.int .i64 ayM):=K 1 _ (by rw[j]; unfold fV; simp only[go_sem]);have f2:F1 2=some (.int .i64 ayO):=K 2 _ (by rw[j]; unfold fV; simp only[go_sem]);have f6:F1 6=some (.ptr o6 7 0 0):=K 6 _ (by rw[j]; unfold fV; simp only[go_sem]);have f7:F1 7=some (.ptr o7 7 0 0):=K 7 _ (by rw[j]; unfold fV; simp only[go_sem]);have Z:=w.at 0 rfl;rw[j] at Z;simp only[go_sem,ac,f0];refine cX R.tozX T (o:=o) (n:=2) (a:=ayU.2) (by decide) S rfl Z ?_;have A:=w.set 0 rfl (aS v u.2);rw[Λ];simp only[go_sem,υ,ai];refine T5 (C:=C) R.tonD T E (1+u.1) u.2 (1+O.1) Om Om η (.int .i64 (1+e.1:Nat)) y ayU.1 δ _ _ _ ?_ (by rw[j] at A ⊢; exact A) ?_
 ·rw[j];unfold fV;exact Lq
 clear Z A w f0 f1 f2 f6 f7 K;intro w2 F2 H2 M f11 A;rw[W] at A;have f0:F2 0=some (.ptr o 2 0 0):=M 0 _ (by rw[j]; unfold fV; simp only[go_sem]);have f1:F2 1=some (.int .i64 ayM):=M 1 _ (by rw[j]; unfold fV; simp only[go_sem]);have f2:F2 2=some (.int .i64 ayO):=M 2 _ (by rw[j]; unfold fV; simp only[go_sem]);have f6:F2 6=some (.ptr o6 7 0 0):=M 6 _ (by rw[j]; unfold fV; simp only[go_sem]);have f7:F2 7=some (.ptr o7 7 0 0):=M 7 _ (by rw[j]; unfold fV; simp only[go_sem]);obtain⟨qm,ξ⟩:=(A.own 1 rfl).one (by rw[aAA]; omega);rw[aAA,Y] at ξ;subst ξ;have ω:(1:Nat)*7≤16777216:=by decide
 simp only[go_sem,ap];refine aB (R.int 0 (by unfold dO; omega)) rfl ?_;simp only[go_sem,aAK,aAY,or_false,forall_eq,forall_eq_or_imp,ω];refine aP fun od Ξ=>?_;have J:=A.jm (s:=7) (rows:=kE [mJ]) Ξ;have b7:=A.at 1 rfl;rw[j] at b7;have n7:¬ o7=od:=by have:=J.neL 1 2 rfl rfl rfl;rw[j] at this; exact this
 simp only[go_sem,f7,b7,n7,aAK,aAY,or_false,forall_eq];have h4:=(J.set 1 rfl (flB (.int .i64 (1+e.1:Nat)) y (.osl qm 4 0 (1+u.1)) (.osl od 7 0 1) .aA .aA .aA)).mB 3;rw[j] at h4;have h5:=h4.perm (B':=(GE.mk o o7 qm (.int .i64 (1+e.1:Nat)) y .aA .aA).boxes v (1+u.1) (.osl od 7 0 1) .aA ayN.2++[(o6,flZ)]) (L':=mH ⟨[mJ],[],ayN.2⟩ (.osl od 7 0 1) .aA++[(y,4,iV ayU.1),(.osl qm 4 0 (1+u.1),4,jY ayN.1)]) (aCO.refl _)
  (List.perm_append_comm (l₁:=[(y,4,iV ayU.1),(.osl qm 4 0 (1+u.1),4,jY ayN.1)]) (l₂:=mH ⟨[mJ],[],ayN.2⟩ (.osl od 7 0 1) .aA))
 simp only[go_sem,au,f0,f1,f7];refine DH h5 (fun H0 Γ=>R.grow l v T (1+u.1) ayM Om Om Δ (GE.mk o o7 qm (.int .i64 (1+e.1:Nat)) y .aA .aA) (.osl od 7 0 1) .aA ⟨[mJ],[],ayN.2⟩ 0 mJ κ rfl rfl H0 Γ) (by simp only[go_sem,f0,f1,f7]; rfl) ?_;rintro r B' L' H3 ⟨rfl,F,I,rfl,rfl⟩ h6;rw[hg] at h6;have h7:=h6.perm (B':=E.boxes v (.int .i64 (1+e.1:Nat)) y (.osl qm 4 0 (1+u.1)) F I .aA .aA g.a) (L':=[(y,4,iV ayU.1),(.osl qm 4 0 (1+u.1),4,jY ayN.1),(F,7,kE g.ayW),(I,3,mQ g.azG)]) (by rw[j]; exact aCO.refl _)
  (List.perm_append_comm (l₁:=mH g F I) (l₂:=[(y,4,iV ayU.1),(.osl qm 4 0 (1+u.1),4,jY ayN.1)]))
 have Z:=h7.at 0 rfl;rw[j] at Z;simp only[go_sem,av,f0];refine cX R.tozX T (o:=o) (n:=2) (a:=g.a) (by decide) hG.a rfl Z ?_;have h8:=h7.set 0 rfl (aS v pl.2);rw[Φ];simp only[go_sem,χ,aw];refine Cw (C:=C) R.tonD T E (1+u.1) (1+pl.1) pl.2 Om Om Om θ ((1+e.1:Nat):Int) y (.osl qm 4 0 (1+u.1)) F I ayU.1 ayN.1 g.ayW g.azG _ _ _ (by rw[j]; exact⟨by simp only[go_sem,f0],by simp only[go_sem,f1],by simp only[go_sem,f2],by simp only[go_sem,f6],by simp only[go_sem,f7],by simp only[go_sem,f11],by simp only[go_sem],by simp only[go_sem]; rfl⟩) (by rw[j] at h8 ⊢; exact h8) ?_;clear h8 h7 h6 h5 h4 J A Z b7 f0 f1 f2 f6 f7 M;intro w5 F4 H4 N w;rw[β] at w;have f0:F4 0=some (.ptr o 2 0 0):=N 0 _ (by rw[j]; unfold fV; simp only[go_sem]);have f1:F4 1=some (.int .i64 ayM):=N 1 _ (by rw[j]; unfold fV; simp only[go_sem]);have f2:F4 2=some (.int .i64 ayO):=N 2 _ (by rw[j]; unfold fV; simp only[go_sem]);have f6:F4 6=some (.ptr o6 7 0 0):=N 6 _ (by rw[j]; unfold fV; simp only[go_sem]);have f7:F4 7=some (.ptr o7 7 0 0):=N 7 _ (by rw[j]; unfold fV; simp only[go_sem]);have Z:=w.at 0 rfl;rw[j] at Z;simp only[go_sem,be,f0,f2,ψ];refine cX R.tozX T (o:=o) (n:=ayO+1) (a:=pols.2) Om V rfl Z ?_;have A:=w.set 0 rfl (aS v vo.2);rw[ο];have J:=A.perm (B':=E.boxes v (.int .i64 (1+e.1:Nat)) y (.osl qm 4 0 (1+u.1)) F I w5 .aA vo.2) (L':=(w5,17,mI pols.1)::[(y,4,iV ayU.1),(.osl qm 4 0 (1+u.1),4,jY ayN.1),(F,7,kE g.ayW),(I,3,mQ g.azG)]) (aCO.refl _)
  (List.perm_append_comm (l₁:=[(y,4,iV ayU.1),(.osl qm 4 0 (1+u.1),4,jY ayN.1),(F,7,kE g.ayW),(I,3,mQ g.azG)]) (l₂:=[(w5,17,mI pols.1)]))
 simp only[go_sem,bf];refine Jz (C:=C) R.tonD T E (1+pl.1) vo.1 vo.2 Om Om σ _ _ _ _ _ w5 pols.1 ε _ _ _ _ ?_ (by rw[j] at J ⊢; exact J) ?_
 ·rw[j];unfold fV;exact Lq
 clear J A w Z f0 f1 f2 f6 f7 N;intro w6 F5 H5 ι w;rw[γ] at w;have f6:F5 6=some (.ptr o6 7 0 0):=ι 6 _ (by rw[j]; unfold fV; simp only[go_sem]);have f7:F5 7=some (.ptr o7 7 0 0):=ι 7 _ (by rw[j]; unfold fV; simp only[go_sem]);rw[j] at w;have b7:=w.at 1 rfl;have b6:=w.at 2 rfl;have one:∀ (x:PV),x∈[y,F,I,w5,w6]→(∃ q s n,x=.osl q s 0 n)∨x=.aA:=by
  intro x hx;have X:∀ {s:Nat} {rows:List (List PV)},bY H5 s x rows→(∃ q s n,x=.osl q s 0 n)∨x=.aA:=by
   rintro s rows (⟨_,h⟩ | ⟨q,rs,h,_⟩)
   ·exact .inr h
   ·exact .inl ⟨q,s,_,h⟩
  simp only[aAK,aAY,or_false] at hx;rcases hx with rfl | rfl | rfl | rfl | rfl
  ·exact X (w.own 1 rfl)
  ·exact X (w.own 3 rfl)
  ·exact X (w.own 4 rfl)
  ·exact X (w.own 0 rfl)
  ·exact X (w.own 5 rfl)
 have B:∀ (x:PV),x∈[y,F,I,w5,w6]→PV.one x=true:=fun x hx=>by rcases one x hx with ⟨q,s,n,rfl⟩ | rfl<;>rfl
 have o1:=B y (by simp);have o3:=B F (by simp);have o4:=B I (by simp);have o5:=B w5 (by simp);have ρ:=B w6 (by simp);simp only[PV.one] at o1 o3 o4 o5 ρ;simp only[go_sem,bn,f6,f7,b7,b6,aAK,aAY,or_false,forall_eq,forall_eq_or_imp,o1,o3,o4,o5,ρ];have A:=w.set 2 rfl (flB (.int .i64 (1+e.1:Nat)) y (.osl qm 4 0 (1+u.1)) F I w5 w6);have J:=A.sub (B':=[(o,aS v vols.2)]) (aCG.cons_cons _ (List.nil_sublist _)) (aCG.refl _);obtain⟨φ,H6,k1,k2,k3,k4⟩:=aK.giveUp _ J (fun x hx=>by
  simp only[List.cons_append,aDN,aAK,aAY,or_false] at hx;rcases hx with rfl | rfl | rfl | rfl | rfl | rfl
  ·exact Qt _
  ·exact N1 _
  ·exact Oh _
  ·exact Ku _
  ·exact Kw _
  ·exact aoC _) (fun b hb q s rs=>by
  simp only[aAK,aAY,or_false] at hb;subst hb;simp only[bF.frz,aBG,aCP,T.frz];rfl)
 refine oR (vs:=[.agg [.int .i64 (1+e.1:Nat),y,.osl qm 4 0 (1+u.1),F,I,w5,w6]]) (.inr rfl) (by simp only[go_sem,f6]) (k4 _ _ (.done (H2:=PH.nil.set o (aS v vols.2)) ?_ (e_ a_ (k3.at 0 rfl))));rw[hR,hT];refine⟨CoL.agg ?_,rfl⟩;have s5:=k1 (w5,17,mI pols.1) (by simp);have s1:=k1 (y,4,iV ayU.1) (by simp);have s2:=k1 (.osl qm 4 0 (1+u.1),4,jY ayN.1) (by simp);have s3:=k1 (F,7,kE g.ayW) (by simp);have s4:=k1 (I,3,mQ g.azG) (by simp);have s6:=k1 (w6,2,oK vols.1) (by simp);have s0:φ (.int .i64 (1+e.1:Nat))=.int .i64 (1+e.1:Nat):=k2 _ rfl;show CoL [φ (.int .i64 (1+e.1:Nat)),φ y,φ (.osl qm 4 0 (1+u.1)),φ F,φ I,φ w5,φ w6] _;rw[s0];exact CoL.cons (.refl _) (CoL.cons s1.co (CoL.cons s2.co (CoL.cons s3.co (CoL.cons s4.co (CoL.cons s5.co (CoL.cons s6.co .nil))))))
structure We (C:Ctx):Prop extends u7 C where
 new:∀ (l:List Nat),(∀ x∈l,x<256)→l.length≤9223372036854775807→aG C 28 [.sl 1 (fQ l)] .nil (gm l)
 fleet:∀ (l:List Nat) (v:PV),Tp l v→∀ (o ayM ayO a:Nat),ayM≤60→ayO≤50→a≤l.length →
  aG C 0 [.ptr o 2 0 0,.int .i64 ayM,.int .i64 ayO] (PH.nil.set o (aS v a)) (fun r H=>r=.agg (gW l ayM ayO a).1.cells∧H=PH.nil.set o (aS v (gW l ayM ayO a).2))
theorem KB.exact {C:Ctx} {name:Nat} {args:List PV} {H:PH} {l:List Nat} {v:PV} {o ayM ayO a:Nat} (h:aG C name args H (KB l v o ayM ayO a)):aG C name args H (fun r H=>r=.agg (gW l ayM ayO a).1.cells∧H=PH.nil.set o (aS v (gW l ayM ayO a).2)) :=
 h.post fun r H' e=>⟨_,e.1,rfl,e.2⟩
theorem X8 {C:Ctx} (y:We C) (l:List Nat) (hb:∀ x∈l,x<256) (B:l.length≤9223372036854775807) (ayM ayO:Nat) (j:ayM≤60) (w:ayO≤50) :
  BO.wp C (aT Cc.res (cL (.agg (gW (l.take 400) ayM ayO 0).1.cells))) (PF.args [.sl 1 (fQ l),.int .i64 ayM,.int .i64 ayO]) .nil:=by
 simp only[go_sem,BO,m7,Cc];refine aP fun o6 E=>?_;simp only[go_sem,m8];refine dS (y.new l hb B) rfl a_ ?_;rintro r H' ⟨o,v,rfl,T,rfl⟩ A;have u:¬ o6=o:=by intro e;subst e;have:=A o6 (aS v 0) (by rw[aQ,if_pos rfl]) rfl;rw[aQ,if_pos rfl] at this;cases this
 rw[PH.nL];simp only[go_sem];refine lK (y.fleet _ v T o ayM ayO 0 j w (aAP _)) (by rw[aQ,if_pos rfl]) rfl ?_;simp only[go_sem,u];exact aV (vs:=[.agg (gW (l.take 400) ayM ayO 0).1.cells]) (.inr rfl) .nil Sq a_ ⟨.refl _,rfl⟩
theorem CoL.Uq:CoL [] []:=⟨rfl,fun j p q h=>by simp at h⟩
theorem CoL.uY {p q:PV} {ps l:List PV} (h:Co p q) (e:CoL ps l):CoL (p::ps) (q::l):=by
 refine⟨by simp[e.len],fun j x y a b=>?_⟩;cases j with
 | zero =>simp only[List.getElem?_cons_zero,aCI.injEq] at a b;subst a; subst b; exact h
 | succ j=>exact e.at_ j x y (by simpa using a) (by simpa using b)
theorem aG.seen {C:Ctx} {name:Nat} {args:List PV} {H:PH} {v:PV} (h:aG C name args H (cL v)):aG C name args H (aM v) :=
 h.post fun r H' e=>⟨v,e.1,rfl,e.2⟩
def QN (x:RF):Bool:=(x.num.all (fun n=>decide (n<4294967296))&&x.den.all fun n=>decide (n<4294967296))&&(decide (x.num.length≤9)&&decide (x.den.length≤9))
theorem HZ {x:RF} (h:QN x=true):x.Ok:=by
 simp only[QN,aAO,aBK,decide_eq_true_eq] at h;exact⟨h.1.1,h.1.2,by omega,by omega⟩
def EA (l:List RF):Bool:=decide (l.length≤9)&&l.all QN
theorem AP {l:List RF} (h:EA l=true):oL l:=by
 simp only[EA,aAO,aBK,decide_eq_true_eq] at h;exact⟨by unfold Fits; omega,fun x e=>HZ (h.2 x e)⟩
def Bq (x:cT):Bool:=(EA x.start&&EA x.exit)&&(decide (x.ayR.length≤9)&&x.ayR.all EA)
theorem Xx {x:cT} (h:Bq x=true):x.Ok:=by
 simp only[Bq,aAO,aBK,decide_eq_true_eq] at h;exact⟨AP h.1.1,AP h.1.2,by unfold Fits; omega,fun r e=>AP (h.2.2 r e)⟩
def F6 (x:cC):Bool:=(decide (dO x.k∧dO x.m∧dO x.azL)&&(decide (x.ayN.length≤9)&&x.ayN.all fun m=>decide (dO m)))&&(EA x.repair&&(QN x.target&&QN x.ayX))
theorem Zg {x:cC} (h:F6 x=true):x.Ok:=by
 simp only[F6,aAO,aBK,decide_eq_true_eq] at h;exact⟨h.1.1.1,h.1.1.2.1,h.1.1.2.2,by unfold Fits; omega,h.1.2.2,AP h.2.1,HZ h.2.2.1,HZ h.2.2.2⟩
def okB (f:aC):Bool:=(decide (f.ayU.length≤99∧f.ayN.length≤99∧f.ayP.length≤99∧f.ayM.length≤99∧f.ayQ.length≤99∧f.ayO.length≤99)&&(f.ayU.all Bq&&f.ayQ.all F6)) &&
 (f.ayP.all (fun x=>QN x.azC&&decide (dO x.level∧dO x.parent))&&(f.ayM.all (fun x=>decide (dO x.model∧dO x.machine))&&f.ayO.all fun x=>decide (dO x.ayZ)))
theorem apW {f:aC} (h:okB f=true):f.Ok:=by
 simp only[okB,aAO,aBK,decide_eq_true_eq] at h;obtain⟨⟨⟨y,A,B,E,F,I⟩,l,u⟩,j,w,h5⟩:=h;exact⟨by unfold Fits; omega,by unfold Fits; omega,by unfold Fits; omega,by unfold Fits; omega,by unfold Fits; omega,by unfold Fits; omega,fun x e=>Xx (l x e),fun x e=>⟨HZ (j x e).1,(j x e).2⟩,w,fun x e=>Zg (u x e),h5⟩
noncomputable def eR:aC:={ (gW [] 1 0 0).1 with ayO:=[⟨[118,48],0⟩] }
theorem jN:cV eR=true:=by decide +kernel
theorem rZ:eR.Ok:=apW (by decide +kernel)
theorem J9:wD eR [[0]] []=true:=by
 unfold wD V3;rw[jN,if_pos rfl,if_pos (by decide +kernel)];decide +kernel
end Go.PM
