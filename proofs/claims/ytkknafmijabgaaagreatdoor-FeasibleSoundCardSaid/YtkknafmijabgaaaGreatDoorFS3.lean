/-
  Texts of ours, joined. No condition.
-/
import Derived.Test.YtkknafmijabgaaaGreatDoorFS1
import Derived.Test.YtkknafmijabgaaaGreatDoorFS2
import Derived.Lib.ItoaNum
set_option linter.unusedSimpArgs false
set_option linter.unusedVariables false
open Nat renaming reduceEqDiff → γ, reduceAdd → δ, reduceSub → ε, reduceMul → ζ, reduceLT → η, reduceLeDiff → θ, reduceBEq → τ
open Int renaming reduceLT → ι, reduceLE → κ, reduceEq → μ, reduceToNat → ν, reduceAdd → ξ, reduceNeg → ο, reduceBEq → ρ, reduceBNe → σ
open List renaming reduceReplicate → υ
open List renaming length_map → aGK, range → aGL, replicate → aGM, length_append → aGO, getElem_mem → aGP, length_singleton → aGR, getElem?_eq_getElem → aGS, getD_eq_getElem?_getD → aGU, mem_cons → aGV, length_take → aGY, take_of_length_le → aGZ, getElem?_map → aHF, mem_range → aHG, not_mem_nil → aHH, mem_map → aHJ, append_assoc → aHN, getElem?_eq_some_iff → aHP, mem_append → aHQ, map_cons → aHR, mem_singleton → aHU, take_length → aHV, drop_zero → aHW, map_append → aHX, append_nil → aHY, getElem?_eq_none → aHZ, all_eq_true → aIA, getElem_of_mem → aIH, mem_of_getElem? → aII, getElem_map → aIN, length_set → aIO, map_congr_left → aIP, Sublist → aIQ, take_succ_eq_append_getElem → aIR, length_nil → aIV, map_nil → aIW, drop_eq_getElem_cons → aIZ, range_succ → aJA, Perm → aJG, take_append_drop → aJH, getElem?_range → aJI, nodup_append → aJK, map_map → aJQ, ext_getElem → aJV, mem_cons_of_mem → aJW, nil_append → aJX, set_append_right → aKB, drop_of_length_le → aKG, flatMap_append → aKH, sublist_append_left → aKI
open Nat renaming gcd → aGN, le_refl → aGQ, zero_le → aGW, lt_or_ge → aHD, zero_add → aHE, mod_eq_of_lt → aIB, add_zero → aIC, mod_lt → aIG, eq_zero_or_pos → aIS, min_eq_left → aIT, le_trans → aJC, pos_of_ne_zero → aJE
open Option renaming map_some → aHS, getD_some → aJF
open Bool renaming false_and → aHA, not_true → aHB, and_eq_true → aHC, true_and → aHK, not_false → aHM, and_false → aID, and_true → aIY, false_eq_true → aJP
open Array renaming getElem?_eq_some_iff → aKJ
open Int renaming toNat_natCast → aJN
namespace Go.PM
open Go Go.Na
theorem aV {t:Nat} {b j:Bool} {F:PF} {H:PH} (h:F t=some (.bool b)) (e:b=j):aT [.tmp t] (cD (.bool j)) .ret F H:=by
 subst e;exact aU (.inr rfl) .nil (vs:=[.bool b]) (by rw[kY,oJ,h,pH]) a_ ⟨.refl _,rfl⟩
theorem avT {C:Ctx} (n lo hi:Int):AL.wp C (aT gin.res (cD (.bool (within n lo hi)))) (PF.args [.int .i64 n,.int .i64 lo,.int .i64 hi]) .nil:=by
 by_cases a:lo≤n
 ·by_cases b:n≤hi
  ·simp only[go_sem,AL,cz,c7,gin,show n≥lo from a,b];exact aV Ev (by simp[within,a,b])
  ·simp only[go_sem,AL,cz,c7,gin,show n≥lo from a,b];exact aV Ev (by simp[within,a,b])
 ·have e:¬ n≥lo:=a;simp only[go_sem,AL,cz,c7,gin,e];exact aV Ev (by simp[within,a])
theorem abY {C:Ctx} (L:tQ C) (x:RF) (e:x.Ok):DG.wp C (aT Cx.res (cD (.bool (bT x)))) (PF.args [.agg x.cells]) .nil:=by
 simp only[go_sem,DG,pn,po,Cx];refine aB (L.bits x.num e.1 e.2.2.1) Ev ?_;simp only[go_sem];refine aV Ev ?_;have:=@kG (val x.num);rw[bT,decide_eq_decide];omega
structure yo (C:Ctx):Prop extends GW C where
 frac:∀ n d:Int,dV n→dV d→aG C 115 [.int .i64 n,.int .i64 d] .nil (aM (dh n d))
 red:∀ x:RF,x.Ok→aG C 116 [.agg x.cells] .nil (aM (frV (vQ x)))
 ord:∀ x y:RF,x.Ok→y.Ok→aG C 114 [.agg x.cells,.agg y.cells] .nil (aM (BJ x.neg (val x.num) (val x.den) y.neg (val y.num) (val y.den)))
 plus:∀ x y:RF,x.Ok→y.Ok→aG C 113 [.agg x.cells,.agg y.cells] .nil (aM (frV (kS x.v y.v)))
 tot:∀ l:List RF,pB l→aG C 117 [frs l] .nil (aM (frV (rI (l.map RF.v))))
theorem IT {neg:Bool} {a b:Nat} {e:Int} (h:lL neg a b=.error e):e=2:=by
 unfold lL at h;split at h
 ·injection h with h; exact h.symm
 ·cases h
theorem amE {x:RF} {e:Int} (h:vQ x=.error e):e≠0:=by
 unfold vQ at h;split at h
 ·rw[IT h]; decide
 ·injection h with h; subst h; decide
theorem atS {x:RF} {r:FV} (h:vQ x=.ok r):r.rf.Ok:=by
 unfold vQ at h;split at h
 ·exact (uF h).2
 ·cases h
theorem arB {C:Ctx} (L:yo C) (x:RF) (y:x.Ok):OA.wp C (aT aiR.res (cD (.bool (fP x)))) (PF.args [.agg x.cells]) .nil:=by
 simp only[go_sem,OA,Ri,Rj,aiR];refine aB (L.red x y) Ev ?_;unfold fP;cases u:vQ x with
 | error e =>have:=bB (amE u);simp only[go_sem,frV];refine aQ fun o w=>?_;simp only[go_sem,SH,this];exact aV Ev rfl
 | ok r =>
  obtain⟨n,a,b⟩:=r;obtain⟨A,B,E,F⟩:=atS u;simp only[go_sem,frV];refine aQ fun o w=>?_;cases n with
  | true =>simp only[go_sem,SH];exact aV Ev rfl
  | false =>
   simp only[go_sem,SH];refine aB (L.bits _ A E) Ev ?_;rw[show val (FV.rf (false,a,b)).num=a from aY a];by_cases l:cN a≤32
   ·have j:((cN a:Nat):Int)≤32:=Om;simp only[go_sem,j];refine aB (L.bits _ B F) Ev ?_;rw[show val (FV.rf (false,a,b)).den=b from aY b];simp only[go_sem];refine aV Ev ?_;rw[decide_eq_true l];simp;omega
   ·have j:¬ ((cN a:Nat):Int)≤32:=Om;simp only[go_sem,j];refine aV Ev ?_;rw[decide_eq_false l];rfl
theorem Fq:lL false 1 1=.ok (false,1,1):=by
 have:cN 1=1:=by rw[sB (by decide),lS]
 simp[lL,this]
theorem Fy:dh 1 1=frV (.ok (false,1,1)):=by
 rw[dh,if_neg (by decide),k6];show frV (lL false 1 1)=_;rw[Fq]
theorem aeG:(FV.rf (false,1,1)).Ok:=(uF Fq).2
theorem xq:dZ 1 1=true:=by
 have:cN 1=1:=by rw[sB (by decide),lS]
 simp[dZ,this]
theorem arF {C:Ctx} (L:yo C) (x:RF) (e:x.Ok):OC.wp C (aT gone.res (cD (.bool (ZI x)))) (PF.args [.agg x.cells]) .nil:=by
 simp only[go_sem,OC,Rn,Ro,gone];refine aB (L.frac 1 1 (by decide) (by decide)) Ev ?_;rw[Fy];simp only[go_sem,frV];refine aQ fun o j=>?_;simp only[go_sem,Rp];refine aB (L.ord x (FV.rf (false,1,1)) e aeG) Ev ?_;rw[show val (FV.rf (false,1,1)).num=1 from aY 1,show val (FV.rf (false,1,1)).den=1 from aY 1,show (FV.rf (false,1,1)).neg=false from rfl];unfold BJ ZI;rw[xq,aIY];cases l:dZ (val x.num) (val x.den) with
 | false =>simp only[go_sem,ko];exact aV Ev rfl
 | true =>simp only[go_sem,ko];exact aV Ev rfl
theorem aiJ {C:Ctx} (p:RF→Bool) (fn:Nat) (l:List RF) (y:Fits l) (h:∀ x∈l,aG C fn [.agg x.cells] .nil (aM (.bool (p x)))) :
  HV.wp C (aT Xd.res (cD (.bool (l.all p)))) (PF.args [frs l,.fn fn []]) .nil:=by
 simp only[go_sem,HV,C8,C9,Xd];refine wp_loop (α:=Nat) (fun k=>((((PF.nil.set 1 (.fn fn [])).set 7 (frs l)).set 8 (.int .i64 (l.length:Nat))).set 9 (.int .i64 k))) (fun _=>.nil) (fun k=>k≤l.length∧(l.take k).all p=true) (fun k=>l.length-k) 0 ⟨aGW _,rfl⟩ ?_ a_ ?_
 ·(repeat' (first|exact d_|refine c_ ?_ ?_))<;>first|(simp only[go_sem,aGK]<;>rfl)|rfl
 rintro k ⟨A,j⟩;simp only[go_sem,C7,Da];by_cases hlt:k<l.length
 ·have e:(k:Int)<(l.length:Nat):=Om;have w:(l.map RF.cells)[k]?=some (l[k]).cells:=by simp[hlt]
  simp only[go_sem,e,Db,w];refine aQ fun o B=>?_;simp only[go_sem,Dc];refine aB (h _ (aGP hlt)) Ev ?_;cases u:p l[k] with
  | false =>simp only[go_sem,Dd];exact aV (b:=false) Ev (GY (p:=p) hlt u).symm
  | true =>simp only[go_sem,De,wZz k];refine aH (k+1) ⟨hlt,aIA.1 (GX hlt j u)⟩ Om ?_ a_;exact Lq
 ·have e:¬ (k:Int)<(l.length:Nat):=Om;simp only[go_sem,e,Df];have:k=l.length:=Om;subst this;rw[aGZ (aGQ _)] at j;exact aV Ev j.symm
theorem aiL {C:Ctx} (p:Int→Bool) (fn:Nat) (l:List Int) (y:Fits l) (h:∀ x∈l,aG C fn [.int .i64 x] .nil (aM (.bool (p x)))) :
  HW.wp C (aT Xe.res (cD (.bool (l.all p)))) (PF.args [ints l,.fn fn []]) .nil:=by
 simp only[go_sem,HW,Dh,Di,Xe];refine wp_loop (α:=Nat) (fun k=>((((PF.nil.set 1 (.fn fn [])).set 7 (ints l)).set 8 (.int .i64 (l.length:Nat))).set 9 (.int .i64 k))) (fun _=>.nil) (fun k=>k≤l.length∧(l.take k).all p=true) (fun k=>l.length-k) 0 ⟨aGW _,rfl⟩ ?_ a_ ?_
 ·(repeat' (first|exact d_|refine c_ ?_ ?_))<;>first|(simp only[go_sem,aGK]<;>rfl)|rfl
 rintro k ⟨A,j⟩;simp only[go_sem,Dg,Dj];by_cases hlt:k<l.length
 ·have e:(k:Int)<(l.length:Nat):=Om;have w:(l.map fun n=>[PV.int .i64 n])[k]?=some [.int .i64 l[k]]:=by simp[hlt]
  simp only[go_sem,e,Dk,w,Dl];refine aB (h _ (aGP hlt)) Ev ?_;cases u:p l[k] with
  | false =>simp only[go_sem,Dm];exact aV (b:=false) Ev (GY (p:=p) hlt u).symm
  | true =>simp only[go_sem,Dn,wZz k];refine aH (k+1) ⟨hlt,aIA.1 (GX hlt j u)⟩ Om ?_ a_;exact Lq
 ·have e:¬ (k:Int)<(l.length:Nat):=Om;simp only[go_sem,e,Do];have:k=l.length:=Om;subst this;rw[aGZ (aGQ _)] at j;exact aV Ev j.symm
abbrev kM (l:List Bool):PV:=.sl 1 (l.map fun b=>[PV.bool b])
theorem aiH {C:Ctx} (p:Bool→Bool) (fn:Nat) (l:List Bool) (y:Fits l) (h:∀ x∈l,aG C fn [.bool x] .nil (aM (.bool (p x)))) :
  HU.wp C (aT Xc.res (cD (.bool (l.all p)))) (PF.args [kM l,.fn fn []]) .nil:=by
 simp only[go_sem,HU,Cz,C0,Xc];refine wp_loop (α:=Nat) (fun k=>((((PF.nil.set 1 (.fn fn [])).set 7 (kM l)).set 8 (.int .i64 (l.length:Nat))).set 9 (.int .i64 k))) (fun _=>.nil) (fun k=>k≤l.length∧(l.take k).all p=true) (fun k=>l.length-k) 0 ⟨aGW _,rfl⟩ ?_ a_ ?_
 ·(repeat' (first|exact d_|refine c_ ?_ ?_))<;>first|(simp only[go_sem,aGK]<;>rfl)|rfl
 rintro k ⟨A,j⟩;simp only[go_sem,Cy,C1];by_cases hlt:k<l.length
 ·have e:(k:Int)<(l.length:Nat):=Om;have w:(l.map fun b=>[PV.bool b])[k]?=some [.bool l[k]]:=by simp[hlt]
  simp only[go_sem,e,C2,w,C3];refine aB (h _ (aGP hlt)) Ev ?_;cases u:p l[k] with
  | false =>simp only[go_sem,C4];exact aV (b:=false) Ev (GY (p:=p) hlt u).symm
  | true =>simp only[go_sem,C5,wZz k];refine aH (k+1) ⟨hlt,aIA.1 (GX hlt j u)⟩ Om ?_ a_;exact Lq
 ·have e:¬ (k:Int)<(l.length:Nat):=Om;simp only[go_sem,e,C6];have:k=l.length:=Om;subst this;rw[aGZ (aGQ _)] at j;exact aV Ev j.symm
theorem acA {C:Ctx} (b:Bool):DH.wp C (aT Ds.res (cD (.bool b))) (PF.args [.bool b]) .nil:=by
 simp only[go_sem,DH,pq,pt,Ds];exact aV Ev rfl
theorem aiT {C:Ctx} (e:∀ n lo hi:Int,aG C 104 [.int .i64 n,.int .i64 lo,.int .i64 hi] .nil (aM (.bool (within n lo hi)))) (n:Int):IA.wp C (aT Xk.res (cD (.bool (within n 0 8)))) (PF.args [.int .i64 n]) .nil:=by
 simp only[go_sem,IA,D1,D2,Xk];refine aB (e n 0 8) Ev ?_;simp only[go_sem];exact aV Ev rfl
theorem acD {C:Ctx} (j:∀ x:RF,x.Ok→aG C 105 [.agg x.cells] .nil (aM (.bool (fP x)))) (l:∀ x:RF,x.Ok→aG C 97 [.agg x.cells] .nil (aM (.bool (bT x)))) (x:RF) (e:x.Ok) :
  DI.wp C (aT D6.res (cD (.bool (fP x&&bT x)))) (PF.args [.agg x.cells]) .nil:=by
 simp only[go_sem,DI,p6,p7,D6];refine aB (j x e) Ev ?_;cases u:fP x with
 | false =>simp only[go_sem];exact aV Ev rfl
 | true =>simp only[go_sem];refine aB (l x e) Ev ?_;simp only[go_sem];exact aV Ev rfl
structure tL (C:Ctx):Prop extends yo C where
 inn:∀ n lo hi:Int,aG C 104 [.int .i64 n,.int .i64 lo,.int .i64 hi] .nil (aM (.bool (within n lo hi)))
 wC:∀ x:RF,x.Ok→aG C 97 [.agg x.cells] .nil (aM (.bool (bT x)))
 lim:∀ x:RF,x.Ok→aG C 105 [.agg x.cells] .nil (aM (.bool (fP x)))
 one:∀ x:RF,x.Ok→aG C 101 [.agg x.cells] .nil (aM (.bool (ZI x)))
 allf:∀ (p:RF→Bool) (fn:Nat) (l:List RF),Fits l→(∀ x∈l,aG C fn [.agg x.cells] .nil (aM (.bool (p x))))→aG C 99 [frs l,.fn fn []] .nil (aM (.bool (l.all p)))
 alli:∀ (p:Int→Bool) (fn:Nat) (l:List Int),Fits l→(∀ x∈l,aG C fn [.int .i64 x] .nil (aM (.bool (p x))))→aG C 100 [ints l,.fn fn []] .nil (aM (.bool (l.all p)))
 allb:∀ (p:Bool→Bool) (fn:Nat) (l:List Bool),Fits l→(∀ x∈l,aG C fn [.bool x] .nil (aM (.bool (p x))))→aG C 98 [kM l,.fn fn []] .nil (aM (.bool (l.all p)))
 ends1:∀ b:Bool,aG C 103 [.bool b] .nil (aM (.bool b))
 num1:∀ n:Int,aG C 107 [.int .i64 n] .nil (aM (.bool (within n 0 8)))
 rate1:∀ x:RF,x.Ok→aG C 109 [.agg x.cells] .nil (aM (.bool (fP x&&bT x)))
 name:∀ s:List UInt8,aG C 123 [.str s] .nil (aM (.bool (isName s)))
theorem tL.ajP {C:Ctx} (L:tL C) (l:List RF) (h:pB l):aG C 99 [frs l,.fn 105 []] .nil (aM (.bool (l.all fP))) :=
 L.allf fP 105 l h.fits fun x e=>L.lim x (h.all x e)
theorem within_iff {n lo hi:Int}:within n lo hi=true↔lo≤n∧n≤hi:=by simp[within]
theorem arD {C:Ctx} (L:tL C) (p:cW) (F:p.Ok) :
  OB.wp C (aT aiS.res (cD (.bool (ZG p)))) (PF.args [.int .i64 p.k,.int .i64 p.m,.int .i64 p.aFV,.agg [.int .i64 p.s0,.int .i64 p.s1,.int .i64 p.s2,.int .i64 p.s3,.int .i64 p.s4]]) .nil:=by
 simp only[go_sem,OB,Rk,Rl,aiS];refine aB (L.inn p.k 1 6) rfl ?_;unfold ZG;cases y:within p.k 1 6 with
 | false =>simp only[go_sem,aHM,zT];exact aV rfl (by simp only[aHA])
 | true =>
  obtain⟨k1,k2⟩:=within_iff.1 y;simp only[go_sem,aHB];refine aB (L.inn p.m 0 4) rfl ?_;cases A:within p.m 0 4 with
  | false =>simp only[go_sem,aHM,zT];exact aV rfl (by simp only[aHA,aID])
  | true =>
   obtain⟨I,J⟩:=within_iff.1 A;have w:IntKind.i64.wrap (p.k+p.m)=p.k+p.m:=wrap_i64 Om Om;by_cases u:p.k+p.m≤8
   ·have e:¬ p.k+p.m>8:=Om;simp only[go_sem,aHB,w,e];refine aB (L.inn p.aFV p.k (p.k+p.m)) rfl ?_;cases E:within p.aFV p.k (p.k+p.m) with
    | false =>simp only[go_sem,aHM,zT];exact aV rfl (by simp only[aHA,aID])
    | true =>
     have j:(0:Int)<((5:Nat):Int):=by decide
     by_cases h5:p.s0=0
     ·have l:chunks 1 5 [PV.int .i64 p.s0,.int .i64 p.s1,.int .i64 p.s2,.int .i64 p.s3,.int .i64 p.s4]=([p.s0,p.s1,p.s2,p.s3,p.s4].map fun n=>[PV.int .i64 n]):=rfl;have B:5≤maxLen:=by decide
      simp only[go_sem,aHB,j,cK h5,Rm,l,B];refine aB (L.alli (fun n=>within n 0 8) 107 [p.s0,p.s1,p.s2,p.s3,p.s4] (show 5≤9223372036854775807 by decide) fun x _=>L.num1 x) rfl ?_;simp only[go_sem];exact aV rfl (by rw[decide_eq_true u,decide_eq_true h5]; simp only[aHK])
     ·simp only[go_sem,aHB,j,dN h5,zT];exact aV rfl (by rw[decide_eq_false h5]; simp only[aHA,aID])
   ·have e:p.k+p.m>8:=Om;simp only[go_sem,aHB,w,e,zT];exact aV rfl (by rw[decide_eq_false u]; simp only[aHA,aID])
theorem max_eq (a b:Int):(if a<b then b else a)=max a b:=by
 rw[Int.max_def];by_cases h:a<b
 ·rw[if_pos h,if_pos Om]
 ·by_cases e:a≤b
  ·rw[if_neg h,if_pos e]; omega
  ·rw[if_neg h,if_neg e]
theorem aiW {C:Ctx} (L:tL C) (p:cW) (e:p.Ok) :
  IB.wp C (aT Xl.res (cD (.bool (SX p)))) (PF.args [.int .i64 p.m,frs p.repair,.agg p.target.cells,.agg p.aFH.cells]) .nil:=by
 simp only[go_sem,IB,D7,D8,Xl,max_eq,aGK];unfold SX;by_cases j:(p.repair.length:Int)=max p.m 1
 ·simp only[go_sem,bM j];refine aB (L.allf (fun x=>fP x&&bT x) 109 p.repair e.repair.fits fun x l=>L.rate1 x (e.repair.all x l)) rfl ?_;rw[decide_eq_true j,aHK];cases u:p.repair.all fun x=>fP x&&bT x with
  | false =>simp only[go_sem];exact aV rfl rfl
  | true =>
   simp only[go_sem];refine aB (L.lim _ e.target) rfl ?_;cases w:fP p.target with
   | false =>simp only[go_sem];exact aV rfl rfl
   | true =>
    simp only[go_sem];refine aB (L.one _ e.target) rfl ?_;cases y:ZI p.target with
    | false =>simp only[go_sem];exact aV rfl rfl
    | true =>simp only[go_sem];refine aB (L.lim _ e.aFH) rfl ?_;simp only[go_sem];exact aV rfl rfl
 ·simp only[go_sem,bB j];exact aV rfl (by rw[decide_eq_false j]; rfl)
def qY (l:List (List UInt8)) (k:List KS):Option PV:=match k with
 | [.str s]=>if l.contains s then some (.bool true) else none
 | _=>none
theorem aeW (l:List (List UInt8)) (s:List UInt8):(fun k=>if k=[KS.str s] then some (PV.bool true) else qY l k)=qY (l++[s]):=by
 funext k
 match k with
 | []=>rfl
 | [.int a b]=>simp[qY]
 | [.bool a]=>simp[qY]
 | [.str t] =>
  by_cases h:t=s
  ·subst h; simp[qY]
  ·simp[qY,h]
 | a::b::c=>simp[qY]
abbrev texts (l:List (List UInt8)):PV:=.sl 1 (l.map fun s=>[PV.str s])
theorem aeV:qY []=(fun _=>none:jX):=by
 funext k
 match k with
 | []=>rfl
 | [.int a b]=>rfl
 | [.bool a]=>rfl
 | [.str t]=>rfl
 | a::b::c=>cases a<;>rfl
theorem aeX (l:List (List UInt8)) (s:List UInt8):jX.upd (qY l) [KS.str s] (.bool true)=qY (l++[s]):=aeW l s
theorem Kc (l:List (List UInt8)) (s:List UInt8):(qY l [KS.str s]).getD (.bool false)=.bool (l.contains s):=by
 show (if l.contains s then some (PV.bool true) else none).getD (.bool false)=_;cases l.contains s<;>rfl
theorem mz {p:Nat→Bool} {k:Nat} (h:(aGL k).all p=true) (e:p k=true):(aGL (k+1)).all p=true:=by
 rw[aJA,List.all_append,h]; simp[e]
theorem fE {p:Nat→Bool} {n k:Nat} (e:k<n) (j:p k=false):(aGL n).all p=false:=by
 rw[List.all_eq_false];exact⟨k,aHG.2 e,by simp[j]⟩
def rQ (p:Nat→Bool) (k:Nat):Prop:=(aGL k).all p=true
theorem rQ.zero {p:Nat→Bool}:rQ p 0:=rfl
theorem rQ.step {p:Nat→Bool} {k:Nat} (h:rQ p k) (e:p k=true):rQ p (k+1):=mz h e
def Zx (l:List (List UInt8)) (o k:Nat):PF:=((((PF.nil.set 3 (.map o)).set 7 (texts l)).set 8 (.int .i64 (l.length:Nat))).set 9 (.int .i64 k))
theorem aiZ {C:Ctx} (L:tL C) (l:List (List UInt8)) (F:Fits l):ID.wp C (aT Xo.res (cD (.bool (distinct l)))) (PF.args [texts l]) .nil:=by
 simp only[go_sem,ID,Ee,Ef,Xo];refine aQ fun o J=>?_;simp only[go_sem,Eg];have A:(PH.nil.set o (.map (false,[.str]) (fun _=>none)))=PH.nil.set o (.map (false,[.str]) (qY (l.take 0))):=by rw[List.take_zero,aeV]
 unfold distinct;generalize B:(fun i=>isName (l.getD i [])&&!(l.take i).contains (l.getD i []))=p;have w:∀ k (h:k<l.length),p k=(isName l[k]&&!(l.take k).contains l[k]):=by intro k h;rw[← B];simp only[aGU,aGS h,aJF]
 refine wp_loop (α:=Nat) (fun k=>Zx l o k) (fun k=>PH.nil.set o (.map (false,[.str]) (qY (l.take k)))) (fun k=>k≤l.length∧rQ p k) (fun k=>l.length-k) 0 ⟨aGW _,.zero⟩ ?_ ?_ ?_
 ·unfold Zx
  (repeat' (first|exact d_|refine c_ ?_ ?_))<;>first|(simp only[go_sem,aGK]<;>rfl)|rfl
 ·rw[A]; exact b_
 rintro k ⟨I,y⟩;simp only[go_sem,Ed,Eh,Zx];by_cases hlt:k<l.length
 ·have j:(k:Int)<(l.length:Nat):=Om;have E:(l.map fun s=>[PV.str s])[k]?=some [.str l[k]]:=by simp[hlt]
  simp only[go_sem,j,Ei,E,Ej];refine aB (L.name l[k]) rfl ?_;have e:=w k hlt;cases x:isName l[k] with
  | false =>rw[x,aHA] at e;simp only[go_sem,aHM,WW];exact aV (b:=false) rfl (fE hlt e).symm
  | true =>
   rw[x,aHK] at e;cases u:(l.take k).contains l[k] with
   | true =>rw[u] at e;simp only[go_sem,aHB,Kc,u,WW];exact aV (b:=false) rfl (fE hlt e).symm
   | false =>
    rw[u] at e;simp only[go_sem,aHB,Kc,u,Ek,aeX,El,wZz k];refine aH (k+1) ⟨hlt,y.step e⟩ Om ?_ ?_
    ·exact Lq
    ·rw[aIR hlt];exact e_ a_ Sq
 ·have j:¬ (k:Int)<(l.length:Nat):=Om;simp only[go_sem,j,p8];have:k=l.length:=Om;subst this;exact aV (b:=true) rfl (show rQ p l.length from y).symm
def marks (n:Nat) (l:List Int):List Bool:=(aGL n).map fun (i:Nat)=>l.contains (i:Int)
theorem qo (n:Nat) (l:List Int):(marks n l).length=n:=by simp[marks]
theorem qp (n:Nat):marks n []=aGM n false:=by
 refine aJV (by simp[marks]) fun i e j=>by simp[marks]
theorem AR {n:Nat} {l:List Int} {m:Int} (e:0≤m) (j:m<n):(marks n l)[m.toNat]?=some (l.contains m):=by
 have:m.toNat<n:=Om;simp only[marks,aHF,aJI this,aHS];rw[Int.toNat_of_nonneg e]
theorem OJ {n:Nat} {l:List Int} {m:Int} (j:0≤m) (u:m<n):(marks n l).set m.toNat true=marks n (l++[m]):=by
 refine aJV (by simp[marks]) fun i w x=>?_;simp only[marks,aIN,List.getElem_range,List.getElem_set,List.contains_append];by_cases h:m.toNat=i
 ·subst h;rw[if_pos rfl,Int.toNat_of_nonneg j]; simp
 ·have e:((i:Nat):Int)≠m:=Om;rw[if_neg h]; simp[e]
abbrev bF (l:List Bool):List (List PV):=l.map fun b=>[PV.bool b]
theorem pV (l:List Bool) (i:Nat) (b:Bool):(bF l).set i [.bool b]=bF (l.set i b):=by unfold bF; rw[List.map_set]
structure zj (C:Ctx):Prop extends tL C where
 num:∀ p:cW,p.Ok→aG C 106 [.int .i64 p.k,.int .i64 p.m,.int .i64 p.aFV,.agg [.int .i64 p.s0,.int .i64 p.s1,.int .i64 p.s2,.int .i64 p.s3,.int .i64 p.s4]] .nil (aM (.bool (ZG p)))
 rate:∀ p:cW,p.Ok→aG C 108 [.int .i64 p.m,frs p.repair,.agg p.target.cells,.agg p.aFH.cells] .nil (aM (.bool (SX p)))
 uniq:∀ l:List (List UInt8),Fits l→aG C 110 [texts l] .nil (aM (.bool (distinct l)))
def alX (p:cW) (aEX:Nat) (o k:Nat):PF:=(((((PF.nil.set 1 (.int .i64 aEX)).set 5 (.osl o 1 0 aEX)).set 39 (ints p.aEX)).set 40 (.int .i64 (p.aEX.length:Nat))).set 41 (.int .i64 k))
theorem arH {C:Ctx} (L:zj C) (p:cW) (I:p.Ok) (aEX:Nat) (V:aEX≤4):OD.wp C (aT aiV.res (cD (.bool (kX aEX p)))) (PF.args [.agg p.cells,.int .i64 aEX]) .nil:=by
 simp only[go_sem,OD,Rq,Rr,aiV];refine aB (L.num p I) rfl ?_;unfold kX;cases x:ZG p with
 | false =>simp only[go_sem,aHM,SI];exact aV rfl (by simp only[aHA])
 | true =>
  by_cases w:p.aEX.length=0
  ·simp only[go_sem,aHB,aGK,bM (Om:(p.aEX.length:Int)=0),SI];refine aV rfl ?_;have:decide (p.aEX.length≠0)=false:=by simp[w]
   rw[this]; simp only[aHA,aID]
  ·have B:decide (p.aEX.length≠0)=true:=by simp[w]
   simp only[go_sem,aHB,aGK,bB (Om:(p.aEX.length:Int)≠0)];refine aB (L.rate p I) rfl ?_;rw[B];cases S:SX p with
   | false =>simp only[go_sem,aHM,SI];exact aV rfl (by simp only[aHA,aID])
   | true =>
    have E:((aEX:Nat):Int)*((1:Nat):Int)≤140737488355328:=Om;have F:((aEX:Nat):Int)≤9223372036854775807:=Om;simp only[aHK];simp only[go_sem,aHB,Rs,E,F];refine aQ fun o W=>?_;simp only[go_sem,Rt];have N:aGM aEX [PV.bool false]=bF (marks aEX (p.aEX.take 0)):=by rw[List.take_zero,qp]; simp[bF]
    rw[N];generalize hq:(fun j=>within (p.aEX.getD j 0) 0 ((aEX:Int)-1)&&!(p.aEX.take j).contains (p.aEX.getD j 0))=q;have J:∀ k (h:k<p.aEX.length),q k=(within p.aEX[k] 0 ((aEX:Int)-1)&&!(p.aEX.take k).contains p.aEX[k]):=by intro k h;rw[← hq];simp only[aGU,aGS h,aJF]
    refine wp_loop (α:=Nat) (fun k=>alX p aEX o k) (fun k=>PH.nil.set o (.rows 1 (bF (marks aEX (p.aEX.take k))))) (fun k=>k≤p.aEX.length∧rQ q k) (fun k=>p.aEX.length-k) 0 ⟨aGW _,.zero⟩ ?_ (b_) ?_
    ·unfold alX
     (repeat' (first|exact d_|refine c_ ?_ ?_))<;>first|(simp only[go_sem,aGK]<;>rfl)|rfl
    rintro k ⟨U,K⟩;simp only[go_sem,D3,Ru,alX];have M:=I.aEX;by_cases hlt:k<p.aEX.length
    ·have l:(k:Int)<(p.aEX.length:Nat):=Om;have O:(p.aEX.map fun n=>[PV.int .i64 n])[k]?=some [.int .i64 p.aEX[k]]:=by simp[hlt]
     have R:IntKind.i64.wrap ((aEX:Int)-1)=(aEX:Int)-1:=wrap_i64 Om Om;simp only[go_sem,l,Rv,O,Rw,R];refine aB (L.inn p.aEX[k] 0 ((aEX:Int)-1)) rfl ?_;have e:=J k hlt;cases x:within p.aEX[k] 0 ((aEX:Int)-1) with
     | false =>rw[x,aHA] at e;simp only[go_sem,aHM,kp];exact aV (b:=false) rfl (fE hlt e).symm
     | true =>
      rw[x,aHK] at e;obtain⟨y,X⟩:=within_iff.1 x;have A:p.aEX[k]<(aEX:Nat):=Om;have u:(bF (marks aEX (p.aEX.take k)))[p.aEX[k].toNat]?=some [.bool ((p.aEX.take k).contains p.aEX[k])]:=by unfold bF;rw[aHF,AR y A]; rfl
      cases w:(p.aEX.take k).contains p.aEX[k] with
      | true =>rw[w] at e u;simp only[go_sem,aHB,y,A,aHE,u,kp];exact aV (b:=false) rfl (fE hlt e).symm
      | false =>
       rw[w] at e u;simp only[go_sem,aHB,y,A,aHE,u,Rx,pV,OJ y A,D4,wZz k];refine aH (k+1) ⟨hlt,K.step e⟩ Om ?_ ?_
       ·exact Lq
       ·rw[aIR hlt];exact e_ a_ Sq
    ·have l:¬ (k:Int)<(p.aEX.length:Nat):=Om;simp only[go_sem,l,D5];have:k=p.aEX.length:=Om;subst this;exact aV (b:=true) rfl (show rQ q p.aEX.length from K).symm
def ahL:PV→RF
 | .agg [.bool n,a,b]=>⟨n,mI a,mI b⟩
 | _=>⟨false,[],[]⟩
theorem Wu (x:RF):ahL (.agg x.cells)=x:=by
 show (⟨x.neg,mI (aJ x.num),mI (aJ x.den)⟩:RF)=x;rw[fS,fS]
def flS:Spec:=fun name vs=>match name,vs with
 | 104,[.int _ n,.int _ lo,.int _ hi]=>some ([],fun _=>aM (.bool (within n lo hi)))
 | 105,[x]=>some ([],fun _=>aM (.bool (fP (ahL x))))
 | 97,[x]=>some ([],fun _=>aM (.bool (bT (ahL x))))
 | _,_=>none
theorem A5 (n lo hi:Int):flS 104 [.int .i64 n,.int .i64 lo,.int .i64 hi]=some ([],fun _=>aM (.bool (within n lo hi))):=rfl
theorem aqO (x:RF):flS 105 [.agg x.cells]=some ([],fun _=>aM (.bool (fP x))):=by
 show some _=_; rw[Wu]
def Xh (f:aC) (t:List cU) (k:Nat):PF:=((((PF.nil.set 1 (.cS f.cells)).set 45 (.sl 7 (t.map cU.cells))).set 46 (.int .i64 (t.length:Nat))).set 47 (.int .i64 k))
theorem aqX {C:Ctx} (L:tL C) (f:aC) (hf:f.Ok):BN.wp C (aT Xg.res (cD (.bool (pL f)))) (PF.args [.agg f.cells]) .nil:=by
 obtain⟨aGC,aFE,aEX,aEZ,aEW,aFA,aEY⟩:=f;cases aEZ with
 | nil =>rw[show pL ⟨aGC,aFE,aEX,[],aEW,aFA,aEY⟩=false from rfl];simp only[go_sem,BN,kk,kn,Xg,aIW,aIV];have:(((0:Nat):Int)==0)=true:=rfl;simp only[go_sem,this,Q1];exact aV rfl rfl
 | cons r t =>
  generalize hF:(⟨aGC,aFE,aEX,r::t,aEW,aFA,aEY⟩:aC)=f at *
  have B:f.aEZ=r::t:=by rw[← hF]
  have hP:pL f=SA f r t:=by unfold pL; rw[B]
  rw[hP];unfold SA;have j:f.aEZ.length=t.length+1:=by rw[B]; rfl
  have β:=hf.aEZ;have J:(f.aEZ.map cU.cells)[0]?=some r.cells:=by rw[B]; rfl
  have γ:(f.aEZ.map cU.cells)[Int.toNat 0]?=some r.cells:=J;have F:=hf.dom;have w:=F r (by rw[B]; exact List.mem_cons_self ..);simp only[go_sem,BN,kk,kn,Xg,aGK,j,bB (Om:((t.length+1:Nat):Int)≠0),Q3,J];refine aQ fun o ho=>?_;by_cases x:r.name=[]
  ·rw[decide_eq_true x];by_cases A:r.level=0
   ·rw[decide_eq_true A];by_cases E:r.parent=-1
    ·rw[decide_eq_true E];by_cases K:r.aFR=0
     ·rw[decide_eq_true K];simp only[go_sem,zR,qN x,aHB,cK A,cK E,cK K];refine aB (L.lim r.aFM w.1) rfl ?_;cases c5:fP r.aFM with
      | false =>simp only[go_sem,aHM,vI];exact aV rfl (by simp only[aID,aHA])
      | true =>
       simp only[go_sem,aHB];refine aB (L.wC r.aFM w.1) rfl ?_;cases c6:bT r.aFM with
       | true =>simp only[go_sem,vI];exact aV rfl (by simp only[aHB,aID,aHA])
       | false =>
        have V:(0:Int)≤1∧(1:Int)≤((t.length+1:Nat):Int):=Om;have y:((f.aEZ.map cU.cells).take (t.length+1)).drop (Int.toNat 1)=t.map cU.cells:=by rw[aGZ (by simp[j]),B]; rfl
        have u:((f.aEZ.map cU.cells).take (t.length+1)).drop 1=t.map cU.cells:=y;simp only[go_sem,Q4,aGK,j,V,u,aJN];generalize hq:(fun i=>match t[i]? with | some d=>VV f i d | none=>false)=q;have S:∀ k (h:k<t.length),q k=VV f k t[k]:=by intro k h;rw[← hq];simp only[aGS h]
        refine wp_loop (α:=Nat) (fun k=>Xh f t k) (fun k=>.nil) (fun k=>k≤t.length∧rQ q k) (fun k=>t.length-k) 0 ⟨aGW _,.zero⟩ ?_ a_ ?_
        ·unfold Xh
         (repeat' (first|exact d_|refine c_ ?_ ?_))<;>first|(simp only[go_sem,aGK]<;>rfl)|rfl
        rintro k ⟨hk,Z⟩;simp only[go_sem,Dp,Q5,Xh];by_cases hlt:k<t.length
        ·have l:(k:Int)<(t.length:Nat):=Om;have U:(t.map cU.cells)[k]?=some (t[k]).cells:=by simp[hlt]
         have O:=F t[k] (by rw[B]; exact aJW _ (aGP hlt));have e:=S k hlt;unfold VV at e;simp only[go_sem,l,Q6,U];refine aQ fun o2 δ=>?_;simp only[go_sem];refine bP .nil flS a_ ?_;simp only[go_sem,Q7];refine dP (A5 _ 0 k) (L.inn (t[k]).parent 0 k) rfl a_ ?_;cases N:within (t[k]).parent 0 k with
         | false =>simp only[N,aHA] at e;simp only[go_sem,aHM,vH];exact aV (b:=false) rfl (fE hlt e).symm
         | true =>
          obtain⟨i1,i2⟩:=within_iff.1 N;have i3:(t[k]).parent.toNat<f.aEZ.length:=Om;have I:(f.aEZ.map cU.cells)[(t[k]).parent.toNat]?=some (f.aEZ[(t[k]).parent.toNat]).cells:=by simp[i3]
          have R:(f.aEZ.map cU.level).getD (t[k]).parent.toNat 0=(f.aEZ[(t[k]).parent.toNat]).level:=by simp[i3]
          rw[R,N,aHK] at e;by_cases M:(f.aEZ[(t[k]).parent.toNat]).level=IntKind.i64.wrap ((t[k]).level-1)
          ·rw[decide_eq_true M,aHK] at e;simp only[go_sem,aHB,i1,I,cK M];refine dP (A5 _ 1 4) (L.inn (t[k]).level 1 4) rfl a_ ?_;cases W:within (t[k]).level 1 4 with
           | false =>simp only[W,aHA] at e;simp only[go_sem,aHM,vH];exact aV (b:=false) rfl (fE hlt e).symm
           | true =>
            rw[W,aHK] at e;simp only[go_sem,aHB];refine dP (A5 _ 1 64) (L.inn (t[k]).aFR 1 64) rfl a_ ?_;cases X:within (t[k]).aFR 1 64 with
            | false =>simp only[X,aHA] at e;simp only[go_sem,aHM,vH];exact aV (b:=false) rfl (fE hlt e).symm
            | true =>
             rw[X,aHK] at e;simp only[go_sem,aHB];refine dP (aqO (t[k]).aFM) (L.lim _ O.1) rfl a_ ?_;cases Y:fP (t[k]).aFM with
             | false =>rw[Y] at e;simp only[go_sem,aHM,vH];exact aV (b:=false) rfl (fE hlt e).symm
             | true =>rw[Y] at e;simp only[go_sem,aHB,Dq,wZz k];refine aH (k+1) ⟨hlt,Z.step e⟩ Om ?_ a_;exact Lq
          ·simp only[decide_eq_false M,aHA] at e;simp only[go_sem,aHB,i1,I,dN M,vH];exact aV (b:=false) rfl (fE hlt e).symm
        ·have l:¬ (k:Int)<(t.length:Nat):=Om;simp only[go_sem,l,Dr];have:k=t.length:=Om;subst this;exact aV (b:=true) rfl (show rQ q t.length from Z).symm
     ·simp only[go_sem,zR,qN x,aHB,cK A,cK E,dN K,vI];exact aV rfl (by rw[decide_eq_false K]; simp only[aID,aHA])
    ·simp only[go_sem,zR,qN x,aHB,cK A,dN E,vI];exact aV rfl (by rw[decide_eq_false E]; simp only[aID,aHA])
   ·simp only[go_sem,zR,qN x,aHB,dN A,vI];exact aV rfl (by rw[decide_eq_false A]; simp only[aID,aHA])
  ·simp only[go_sem,zR,bg x,aHM,vI];exact aV rfl (by rw[decide_eq_false x]; simp only[aID,aHA])
theorem AX (R:List Bool) (i:Nat) (row:List RF):∀ k,(eH R i row k).length=R.length
 | 0=>rfl
 | k+1=>by simp only[eH,aIO,AX R i row k]
theorem J0 (l:dA) (R:List Bool) (i:Nat):(mQ l R i).length=R.length:=by
 unfold mQ; rw[AX,aIO]
theorem vP (l:dA) (R:List Bool):∀ i,(fJ l R i).length=R.length
 | 0=>rfl
 | i+1=>by simp only[fJ,J0,vP l R i]
theorem ie (l:dA):∀ r,(iW l r).length=l.exit.length
 | 0=>by simp[iW]
 | r+1=>by simp only[iW,vP,ie l r]
theorem mG {R:List Bool} {i:Nat} (h:i<R.length):(bF R)[i]?=some [.bool (R.getD i false)]:=by
 unfold bF;rw[aHF,aGS h,aGU,aGS h]; rfl
theorem jC (R:List Bool):(bF R).length=R.length:=by simp[bF]
def SB (l:dA) (o r:Nat):PF:=(((PF.nil.set 1 (.cS l.cells)).set 3 (.osl o 1 0 l.exit.length)).set 4 (.int .i64 r))
def HH (l:dA) (o r i:Nat):PF:=(((((PF.nil.set 1 (.cS l.cells)).set 3 (.osl o 1 0 l.exit.length)).set 4 (.int .i64 r)).set 19 (.int .i64 (l.exit.length:Nat))).set 20 (.int .i64 i))
def tZ (l:dA) (o r i:Nat) (row:List RF) (k:Nat):PF:=(((((((((PF.nil.set 1 (.cS l.cells)).set 3 (.osl o 1 0 l.exit.length)).set 4 (.int .i64 r)).set 19 (.int .i64 (l.exit.length:Nat))).set 20 (.int .i64 i)).set 5 (.int .i64 i)).set 42 (frs row)).set 43 (.int .i64 (row.length:Nat))).set 44 (.int .i64 k))
def uA (o:Nat) (R:List Bool):PH:=PH.nil.set o (.rows 1 (bF R))
theorem N4 {C:Ctx} (L:tL C) (l:dA) (o r i:Nat) (row:List RF) (I:pB row) (W:row.length=l.exit.length) (hi:i<l.exit.length) (hn:l.exit.length≤4) (e:List Bool) (X:e.length=l.exit.length) (K:cG) (F:PF) (H:PH)
  (N:(tZ l o r i row 0).le F) (J:(uA o e).le H)
  (U:∀ F H,(tZ l o r i row row.length).le F→(uA o (eH e i row row.length)).le H→K .normal F H) :
  aE.wp C (.block 4 (.loop BO)) K F H:=by
 simp only[go_sem];refine wp_loop (α:=Nat) (fun k=>tZ l o r i row k) (fun k=>uA o (eH e i row k)) (fun k=>k≤row.length) (fun k=>row.length-k) 0 (aGW _) N J ?_;intro k Z;simp only[go_sem,BO,Dz,tZ,uA];have O:=AX e i row k;by_cases hlt:k<row.length
 ·have j:(k:Int)<(row.length:Nat):=Om;have V:(row.map RF.cells)[k]?=some (row[k]).cells:=by simp[hlt]
  simp only[go_sem,j,pw,V];refine aQ fun o7 E=>?_;have M:o≠o7:=by rintro rfl; simp only[aP,if_true] at E; cases E
  have w:(i:Int)<(l.exit.length:Nat):=Om;have B:(k:Int)<(l.exit.length:Nat):=Om;have u:=mG (R:=eH e i row k) (i:=i) Om;have x:=mG (R:=eH e i row k) (i:=k) Om;have y:eH e i row (k+1)=(eH e i row k).set i ((eH e i row k).getD i false||bT row[k]&&(eH e i row k).getD k false):=by simp only[eH,aGU,aHF,aGS hlt,aHS,aJF]
  have fin:∀ (b:Bool) (F:PF) (H:PH),b=((eH e i row k).getD i false||bT row[k]&&(eH e i row k).getD k false)→(tZ l o r i row (k+1)).le F→H o=some (.rows 1 ((bF (eH e i row k)).set i [.bool b])) →
    jE (fun k=>tZ l o r i row k) (fun k=>uA o (eH e i row k)) (fun k=>k≤row.length) (fun k=>row.length-k) (row.length-k) (fF 4 K) .normal F H:=by
   intro b F H hb N J;refine aH (k+1) hlt Om N ?_;rw[pV,hb,← y] at J;exact e_ a_ J
  unfold tZ uA at fin;generalize hb:(eH e i row k).getD i false=b at *
  generalize Y:(eH e i row k).getD k false=c at *
  generalize S:bT row[k]=A at *
  cases b with
  | true =>simp only[go_sem,NX,M,w,aHE,u,BQ,wZz k];exact fin true _ _ (by simp) Lq Sq
  | false =>
   simp only[go_sem,NX,M,w,aHE,u];refine aB (L.wC _ (I.all _ (aGP hlt))) rfl ?_;rw[S];cases A with
   | false =>simp only[go_sem,w,B,M,aHE,u,x,BQ,wZz k];exact fin false _ _ (by simp) Lq Sq
   | true =>simp only[go_sem,w,B,M,aHE,u,x,BQ,wZz k];exact fin c _ _ (by simp) Lq Sq
 ·have j:¬ (k:Int)<(row.length:Nat):=Om;simp only[go_sem,j];have:k=row.length:=Om;subst this;exact U _ _ (by unfold tZ; exact Lq) (b_)
structure an (l:dA):Prop where
 n:l.exit.length≤4
 aFB:l.aFB.length=l.exit.length
 row:∀ r∈l.aFB,r.length=l.exit.length
theorem N5 {C:Ctx} (L:tL C) (l:dA) (U:l.Ok) (he:an l) (o r:Nat) (R:List Bool) (hR:R.length=l.exit.length) (K:cG) (F:PF) (H:PH)
  (x:(HH l o r 0).le F) (N:(uA o R).le H)
  (hK:∀ F H,(SB l o r).le F→(uA o (fJ l R l.exit.length)).le H→K .normal F H) :
  aE.wp C (.block 2 (.loop BP)) K F H:=by
 simp only[go_sem];refine wp_loop (α:=Nat) (fun i=>HH l o r i) (fun i=>uA o (fJ l R i)) (fun i=>i≤l.exit.length) (fun i=>l.exit.length-i) 0 (aGW _) x N ?_;intro i hi;have V:=vP l R i;have hn:=he.n;by_cases hlt:i<l.exit.length
 ·have e:(i:Int)<(l.exit.length:Nat):=Om;have w:i<l.aFB.length:=by rw[he.aFB]; exact hlt
  have y:=mG (R:=fJ l R i) (i:=i) Om;have hx:(l.exit.map RF.cells)[i]?=some (l.exit[i]).cells:=by simp[hlt]
  have I:(l.aFB.map fun r=>[frs r])[i]?=some [frs l.aFB[i]]:=by simp[w]
  have S:(l.aFB[i]).length=l.exit.length:=he.row _ (aGP w);generalize u:(fJ l R i).set i ((fJ l R i).getD i false||bT l.exit[i])=J;have E:J.length=l.exit.length:=by rw[← u,aIO]; omega
  have A:fJ l R (i+1)=eH J i l.aFB[i] (l.aFB[i]).length:=by
   simp only[fJ,mQ];have X:(l.exit.map bT).getD i false=bT l.exit[i]:=by simp[aGU,hlt]
   have Y:l.aFB.getD i []=l.aFB[i]:=by simp[aGU,w]
   rw[X,Y,u]
  have j:∀ (F:PF) (H:PH),(((((((PF.nil.set 1 (.cS l.cells)).set 3 (.osl o 1 0 l.exit.length)).set 4 (.int .i64 r)).set 19 (.int .i64 (l.exit.length:Nat))).set 20 (.int .i64 i)).set 5 (.int .i64 i)):PF).le F→H o=some (.rows 1 (bF J)) →
    aE.wp C (.seq (.region WS) (.block 4 (.loop BO))) (fF 3 (kL C (aE.wp C (.region NY)) (jE (fun i=>HH l o r i) (fun i=>uA o (fJ l R i)) (fun i=>i≤l.exit.length) (fun i=>l.exit.length-i) (l.exit.length-i) (fF 2 K)))) F H:=by
   intro F H x N;have f1:F 1=some (.cS l.cells):=x 1 _ rfl;have f3:F 3=some (.osl o 1 0 l.exit.length):=x 3 _ rfl;have f4:F 4=some (.int .i64 r):=x 4 _ rfl;have Z:F 19=some (.int .i64 (l.exit.length:Nat)):=x 19 _ rfl;have β:F 20=some (.int .i64 i):=x 20 _ rfl;have f5:F 5=some (.int .i64 i):=x 5 _ rfl;rw[nv];simp only[go_sem,WS,f1,f5,I,aGK];have inner:=N4 L l o r i l.aFB[i] (U.row _ (aGP w)) S hlt hn J E;simp only[aE.wp,go_sem] at inner;refine inner _ _ _ ?_ (e_ a_ N) ?_
   ·unfold tZ;exact Lq
   ·intro W H' B O;have M:W 20=some (.int .i64 i):=B 20 _ (by unfold tZ; simp only[go_sem]);simp only[go_sem,NY,M,wZz i];refine aH (i+1) hlt Om ?_ (by rw[A]; exact O);have g:=fun (q:Nat) v h=>B q v h;unfold HH;unfold tZ at g;refine c_ (c_ (c_ (c_ (c_ d_ ?_) ?_) ?_) ?_) ?_
    ·simp only[go_sem]; exact g 1 _ rfl
    ·simp only[go_sem]; exact g 3 _ rfl
    ·simp only[go_sem]; exact g 4 _ rfl
    ·simp only[go_sem]; exact g 19 _ rfl
    ·simp only[go_sem]
  simp only[aE.wp,go_sem] at j;simp only[go_sem,BP,WQ,HH,uA,e,Dy];generalize hb:(fJ l R i).getD i false=b at *
  cases b with
  | true =>simp only[go_sem,WR,e,aHE,y];refine j _ _ Lq ?_;rw[← u];simp only[go_sem,pV,Bool.true_or]
  | false =>simp only[go_sem,WR,e,aHE,y,hx];refine aB (L.wC _ (U.exit.all _ (aGP hlt))) rfl ?_;simp only[go_sem,e,aHE,y];refine j _ _ Lq ?_;rw[← u];simp only[go_sem,pV,Bool.false_or]
 ·have e:¬ (i:Int)<(l.exit.length:Nat):=Om;simp only[go_sem,BP,WQ,HH,uA,e];have:i=l.exit.length:=Om;subst this;exact hK _ _ (by unfold SB; exact Lq) b_
theorem aiO {C:Ctx} (L:tL C) (l:dA) (I:l.Ok) (he:an l):HX.wp C (aT Xi.res (cD (.bool (uB l)))) (PF.args [.agg l.cells]) .nil:=by
 have J:=he.n;have A:(l.exit.length:Int)*((1:Nat):Int)≤140737488355328:=Om;have B:(l.exit.length:Int)≤9223372036854775807:=Om;simp only[go_sem,HX,Dt,Du,Xi,aGK,A,B];refine aQ fun o K=>?_;simp only[go_sem,Dv];refine wp_loop (α:=Nat) (fun r=>SB l o r) (fun r=>uA o (iW l r)) (fun r=>r≤l.exit.length+1) (fun r=>l.exit.length+1-r) 0 (aGW _) ?_ ?_ ?_
 ·unfold SB;exact Lq
 ·refine e_ a_ ?_;simp only[go_sem,iW];simp[bF]
 intro r M;have j:=ie l r;simp only[go_sem,pu,Dw,SB,uA];by_cases hlt:r≤l.exit.length
 ·have e:(r:Int)≤(l.exit.length:Nat):=Om;simp only[go_sem,e,Dx];have inner:=N5 L l I he o r (iW l r) j;simp only[aE.wp,go_sem] at inner;refine inner _ _ _ ?_ b_ ?_
  ·unfold HH;exact Lq
  ·intro E H' w y;have g:=fun (q:Nat) v h=>w q v h;unfold SB at g;have g4:E 4=some (.int .i64 r):=g 4 _ rfl;simp only[go_sem,p4,g4,wZz r];refine aH (r+1) Om Om ?_ y;refine c_ (c_ (c_ d_ ?_) ?_) ?_
   ·simp only[go_sem]; exact g 1 _ rfl
   ·simp only[go_sem]; exact g 3 _ rfl
   ·simp only[go_sem]
 ·have e:¬ (r:Int)≤(l.exit.length:Nat):=Om;have:r=l.exit.length+1:=Om;subst this;simp only[go_sem,e,p5];have u:=L.allb id 103 (iW l (l.exit.length+1)) (Om:(iW l (l.exit.length+1)).length≤_) fun x _=>L.ends1 x;have F:(bF (iW l (l.exit.length+1))).length=l.exit.length:=by rw[jC,j]
  refine rP u (rs:=bF (iW l (l.exit.length+1))) (o:=o) (s:=1) Sq ?_ ?_
  ·simp only[go_sem,zQ (show l.exit.length≤(bF (iW l (l.exit.length+1))).length by omega),aGZ (show (bF (iW l (l.exit.length+1))).length≤l.exit.length by omega)]
  ·simp only[go_sem];exact aV rfl rfl
structure ao (C:Ctx):Prop extends zj C where
 ends:∀ l:dA,l.Ok→an l→aG C 102 [.agg l.cells] .nil (aM (.bool (uB l)))
def QG (l:dA) (i:Nat):Bool:=decide ((l.aFB.getD i []).length=l.start.length)&&(l.aFB.getD i []).all fP&&!((l.aFB.getD i []).map bT).getD i false
def ZV (l:dA):Bool:=match rI (l.start.map RF.v) with
 | .ok (n,a,b)=>decide (xV n a b false 1 1=0)
 | .error _=>false
theorem arU (l:dA):sJ l=(within l.start.length 1 4&&decide (l.exit.length=l.start.length)&&decide (l.aFB.length=l.start.length)&&l.start.all fP&&l.exit.all fP&&(aGL l.aFB.length).all (QG l)&&ZV l&&uB l):=rfl
theorem amP {l:List FV} {e:Int} (h:rI l=.error e):e≠0:=by
 have:∀ (l:List FV) (b:FV) (e:Int),l.foldlM kS b=.error e→e≠0:=by
  intro l
  induction l with
  | nil=>intro b e h; cases h
  | cons x t w =>
   intro b e h;rw[List.foldlM_cons] at h;cases j:kS b x with
   | error u =>
    rw[j] at h;have:u=e:=by injection h
    subst this;obtain⟨E,a1,A⟩:=b;obtain⟨F,a2,B⟩:=x;simp only[kS] at j;split at j
    ·split at j
     ·rw[IT j]; decide
     ·split at j
      ·rw[IT j]; decide
      ·rw[IT j]; decide
    ·injection j with j; subst j; decide
   | ok y=>rw[j] at h; exact w y e h
 exact this l _ e h
theorem auC {l:List FV} {r:FV} (h:rI l=.ok r):r.rf.Ok:=by
 have:∀ (l:List FV) (b r:FV),b.rf.Ok→l.foldlM kS b=.ok r→r.rf.Ok:=by
  intro l
  induction l with
  | nil=>intro b r hb h; injection h with h; subst h; exact hb
  | cons x t j =>
   intro b r hb h;rw[List.foldlM_cons] at h;cases e:kS b x with
   | error u=>rw[e] at h; cases h
   | ok y=>rw[e] at h; exact j y r (Ov e) h
 refine this l _ r ⟨bE _,bE _,?_,?_⟩ h
 ·show (aK 0).length≤_;rw[gV]; simp
 ·show (aK 1).length≤_;rw[pD (by decide) (by decide)]; simp
theorem IU {neg:Bool} {a b:Nat} {r:FV} (hb:b≠0) (h:lL neg a b=.ok r):dZ r.2.1 r.2.2=true:=by
 unfold lL at h;split at h
 ·cases h
 ·rename_i u;injection h with h
  subst h;have e:aGN a b ∣ b:=Nat.gcd_dvd_right _ _;have j:b/aGN a b≠0:=by have:=Nat.div_pos (Nat.le_of_dvd (aJE hb) e) (aJE fun h=>hb (Nat.gcd_eq_zero_iff.1 h).2);omega
  have l:=@kG (b/aGN a b);simp only[dZ,aHC,decide_eq_true_eq];omega
theorem Wf {x y r:FV} (h:kS x y=.ok r):dZ r.2.1 r.2.2=true:=by
 obtain⟨w,a1,l⟩:=x;obtain⟨A,a2,u⟩:=y;simp only[kS] at h;split at h
 ·rename_i j;rw[aHC] at j;have e:l*u≠0:=Nat.mul_ne_zero (nK.1 j.1).1 (nK.1 j.2).1;split at h
  ·exact IU e h
  ·split at h
   ·exact IU e h
   ·exact IU e h
 ·cases h
theorem Z3:dZ 0 1=true:=by
 have:cN 1=1:=by rw[sB (by decide),lS]
 simp[dZ,this,lS]
theorem Zl {l:List FV} {r:FV} (h:rI l=.ok r):dZ r.2.1 r.2.2=true:=by
 have:∀ (l:List FV) (b r:FV),dZ b.2.1 b.2.2=true→l.foldlM kS b=.ok r→dZ r.2.1 r.2.2=true:=by
  intro l
  induction l with
  | nil=>intro b r hb h; injection h with h; subst h; exact hb
  | cons x t j =>
   intro b r hb h;rw[List.foldlM_cons] at h;cases e:kS b x with
   | error u=>rw[e] at h; cases h
   | ok y=>rw[e] at h; exact j y r (Wf e) h
 exact this l _ r Z3 h
theorem ahO:(⟨false,[],[]⟩:RF).Ok:=⟨fun _ h=>absurd h (aHH),fun _ h=>absurd h (aHH),show 0≤35184372087808 by decide,show 0≤35184372087808 by decide⟩
def ajJ (l:dA) (k:Nat):PF:=(((((PF.nil.set 1 (.cS l.cells)).set 3 (.int .i64 (l.start.length:Nat))).set 45 (Zb l.aFB)).set 46 (.int .i64 (l.aFB.length:Nat))).set 47 (.int .i64 k))
theorem acC {C:Ctx} (L:ao C) (l:dA) (E:l.Ok) (he:an l) (F:PF) (B:F 1=some (.cS l.cells)) :
  aE.wp C (.seq (.region WT) (.seq (.region HY) (.seq (.region HZ) (.seq (.region vJ) .ret)))) (aT [.tmp 2] (cD (.bool (ZV l&&uB l)))) F .nil:=by
 simp only[go_sem,WT,B];refine aB (L.tot l.start E.start) rfl ?_;obtain⟨I,x,y,e,S⟩:=SE (rI (l.start.map RF.v));have go:∀ (z:RF) (e:Int),z.Ok→(e=0→(BJ z.neg (val z.num) (val z.den) false 1 1=.tup [.int .i64 (xV z.neg (val z.num) (val z.den) false 1 1),.int .i64 0])∧ZV l=decide (xV z.neg (val z.num) (val z.den) false 1 1=0))→(e≠0→ZV l=false) →
   frV (rI (l.start.map RF.v))=.tup [.agg z.cells,.int .i64 e] →
   wpOps C [⟨(some 69),.mv (.tmp 72),none⟩,⟨(some 73),.extract (.tmp 69) 0,none⟩,⟨(some 74),.extract (.tmp 69) 1,none⟩,⟨(some 6),.alloc [(.bool false),.aA,.aA],none⟩,⟨none,.store 3 (.tmp 6) (.tmp 73),none⟩,⟨(some 7),.mv (.tmp 74),none⟩]
    (aE.wp C (.seq (.region HY) (.seq (.region HZ) (.seq (.region vJ) .ret))) (aT [.tmp 2] (cD (.bool (ZV l&&uB l))))) ((((F.set 70 (.cS [frs l.start,Zb l.aFB,frs l.exit])).set 71 (frs l.start))).set 72 (.tup [.agg z.cells,.int .i64 e])) .nil:=by
  intro z e O J K _;simp only[go_sem];refine aQ fun o6 M=>?_;simp only[go_sem,HY];refine aB (L.frac 1 1 (by decide) (by decide)) rfl ?_;rw[Fy];simp only[go_sem,frV];refine aQ fun o8 u=>?_;have R:o6≠o8:=by rintro rfl; simp only[aP,if_true] at u; cases u
  simp only[go_sem,HZ,R];refine aB (L.ord z (FV.rf (false,1,1)) O aeG) rfl ?_;rw[show val (FV.rf (false,1,1)).num=1 from aY 1,show val (FV.rf (false,1,1)).den=1 from aY 1,show (FV.rf (false,1,1)).neg=false from rfl];by_cases c:e=0
  ·obtain⟨g1,g2⟩:=J c;rw[g1,g2];by_cases d:xV z.neg (val z.num) (val z.den) false 1 1=0
   ·simp only[go_sem,vJ,bM c,bM d,B];refine aB (L.ends l E he) rfl ?_;simp only[go_sem];exact aV rfl (by rw[decide_eq_true d,aHK])
   ·simp only[go_sem,vJ,bM c,bB d];exact aV rfl (by rw[decide_eq_false d,aHA])
  ·rw[K c];have:∃ v w,BJ z.neg (val z.num) (val z.den) false 1 1=.tup [.int .i64 v,.int .i64 w]:=by
    unfold BJ;split
    ·exact⟨_,_,rfl⟩
    ·exact⟨_,_,rfl⟩
   obtain⟨v,w,A⟩:=this;rw[A];simp only[go_sem,vJ,bB c];exact aV rfl rfl
 cases j:rI (l.start.map RF.v) with
 | error e =>rw[j] at go;exact go ⟨false,[],[]⟩ e ahO (fun h=>absurd h (amP j)) (fun _=>by rw[ZV,j]) rfl
 | ok r =>obtain⟨n,a,b⟩:=r;rw[j] at go;have N:=auC j;refine go (FV.rf (n,a,b)) 0 N (fun _=>?_) (fun h=>absurd rfl h) rfl;rw[show val (FV.rf (n,a,b)).num=a from aY a,show val (FV.rf (n,a,b)).den=b from aY b,show (FV.rf (n,a,b)).neg=n from rfl];refine⟨?_,by rw[ZV,j]⟩;have A:dZ a b=true:=Zl j;rw[BJ,A,xq];rfl
theorem aqZ {C:Ctx} (L:ao C) (l:dA) (A:l.Ok):NZ.wp C (aT aiQ.res (cD (.bool (sJ l)))) (PF.args [.agg l.cells]) .nil:=by
 rw[arU];simp only[go_sem,NZ,Q8,Q9,aiQ,Ra,aGK];refine aB (L.inn l.start.length 1 4) rfl ?_;cases O:within l.start.length 1 4 with
 | false =>simp only[go_sem,aHM,zS];exact aV rfl (by simp only[aHA])
 | true =>
  obtain⟨W,X⟩:=within_iff.1 O;by_cases F:l.exit.length=l.start.length
  ·rw[decide_eq_true F];by_cases I:l.aFB.length=l.start.length
   ·rw[decide_eq_true I];simp only[go_sem,aHB,aGK,cK (Om:(l.exit.length:Int)=(l.start.length:Nat)),cK (Om:(l.aFB.length:Int)=(l.start.length:Nat))];refine aB (L.ajP l.start A.start) rfl ?_;cases S:l.start.all fP with
    | false =>simp only[go_sem,aHM,zS];exact aV rfl (by simp only[aHA])
    | true =>
     simp only[go_sem,aHB];refine aB (L.ajP l.exit A.exit) rfl ?_;cases U:l.exit.all fP with
     | false =>simp only[go_sem,aHM,zS];exact aV rfl (by simp only[aHA])
     | true =>
      simp only[go_sem,aHB,Rb,aGK];have y:∀ k (h:k<l.aFB.length),QG l k=(decide ((l.aFB[k]).length=l.start.length)&&(l.aFB[k]).all fP&&!((l.aFB[k]).map bT).getD k false):=by
       intro k h;have:l.aFB.getD k []=l.aFB[k]:=by simp[aGU,h]
       rw[QG,this]
      refine wp_loop (α:=Nat) (fun k=>ajJ l k) (fun _=>.nil) (fun k=>k≤l.aFB.length∧rQ (QG l) k) (fun k=>l.aFB.length-k) 0 ⟨aGW _,.zero⟩ ?_ a_ ?_
      ·unfold ajJ
       (repeat' (first|exact d_|refine c_ ?_ ?_))<;>first|(simp only[go_sem,aGK]<;>rfl)|rfl
      rintro k ⟨V,N⟩;simp only[go_sem,D0,Rc,ajJ];by_cases hlt:k<l.aFB.length
      ·have j:(k:Int)<(l.aFB.length:Nat):=Om;have E:(l.aFB.map fun r=>[frs r])[k]?=some [frs l.aFB[k]]:=by simp[hlt]
       have e:=y k hlt;have w:=A.row l.aFB[k] (aGP hlt);simp only[go_sem,j,Re,E,Rf,aGK];by_cases J:(l.aFB[k]).length=l.start.length
       ·rw[decide_eq_true J,aHK] at e;simp only[go_sem,cK (show (((l.aFB[k]).length:Nat):Int)=(l.start.length:Nat) by omega)];refine aB (L.ajP _ w) rfl ?_;cases K:(l.aFB[k]).all fP with
        | false =>rw[K,aHA] at e;simp only[go_sem,aHM,SG];refine aV (b:=false) rfl ?_;have:(aGL l.aFB.length).all (QG l)=false:=fE hlt e;rw[this]; simp only[aHA,aID]
        | true =>
         have x:k<(l.aFB[k]).length:=Om;have R:((l.aFB[k]).map RF.cells)[k]?=some ((l.aFB[k])[k]).cells:=by simp[x]
         have B:((l.aFB[k]).map bT).getD k false=bT (l.aFB[k])[k]:=by simp[aGU,x]
         rw[K,aHK,B] at e;simp only[go_sem,aHB,R];refine aB (L.wC _ (w.all _ (aGP x))) rfl ?_;cases M:bT (l.aFB[k])[k] with
         | true =>rw[M] at e;simp only[go_sem,SG];refine aV (b:=false) rfl ?_;have:(aGL l.aFB.length).all (QG l)=false:=fE hlt e;rw[this]; simp only[aHA,aID]
         | false =>rw[M] at e;simp only[go_sem,Rh,wZz k];refine aH (k+1) ⟨hlt,N.step e⟩ Om ?_ a_;exact Lq
       ·simp only[decide_eq_false J,aHA] at e;simp only[go_sem,dN (show (((l.aFB[k]).length:Nat):Int)≠(l.start.length:Nat) by omega),SG];refine aV (b:=false) rfl ?_;have:(aGL l.aFB.length).all (QG l)=false:=fE hlt e;rw[this]; simp only[aHA,aID]
      ·have j:¬ (k:Int)<(l.aFB.length:Nat):=Om;have:k=l.aFB.length:=Om;subst this;have u:(aGL l.aFB.length).all (QG l)=true:=N;have he:an l:=⟨by omega,by omega,fun r E=>by obtain⟨i,hi,rfl⟩:=aIH E;have:=aIA.1 u i (aHG.2 hi);rw[y i hi] at this;simp only[aHC,decide_eq_true_eq] at this;omega⟩
       have tail:=acC L l A he;simp only[aE.wp,go_sem] at tail;rw[u];simp only[go_sem,j,aHK,aIY];exact tail _ rfl
   ·simp only[go_sem,aHB,aGK,cK (Om:(l.exit.length:Int)=(l.start.length:Nat)),dN (Om:(l.aFB.length:Int)≠(l.start.length:Nat)),zS];exact aV rfl (by rw[decide_eq_false I]; simp only[aHA,aID])
  ·simp only[go_sem,aHB,aGK,dN (Om:(l.exit.length:Int)≠(l.start.length:Nat)),zS];exact aV rfl (by rw[decide_eq_false F]; simp only[aHA,aID])
structure lD (C:Ctx):Prop extends ao C where
 law:∀ l:dA,l.Ok→aG C 95 [.agg l.cells] .nil (aM (.bool (sJ l)))
 pol:∀ (p:cW) (n:Nat),p.Ok→n≤4→aG C 112 [.agg p.cells,.int .i64 n] .nil (aM (.bool (kX n p)))
 aFG:∀ f:aC,f.Ok→aG C 111 [.agg f.cells] .nil (aM (.bool (pL f)))
abbrev fK (l:List (List UInt8)):List (List PV):=l.map fun s=>[PV.str s]
theorem xL (l:List (List UInt8)) {k:Nat} (h:k<l.length):fK (l.take k)++[[.str l[k]]]=fK (l.take (k+1)):=by
 unfold fK;rw[aIR h,aHX]; rfl
theorem tD {l:List (List UInt8)} (h:l.length≤1000):roomFor (fK l).length 1 16:=by
 unfold roomFor fK;simp only[aGK,maxLen]; omega
def jK {α:Type} (l:List α) (p:α→Bool) (k:Nat):Bool:=(l.take k).all p
theorem tT {α:Type} (l:List α) (p:α→Bool):jK l p 0=true:=rfl
theorem tR {α:Type} (l:List α) (p:α→Bool) {k:Nat} (h:k<l.length):jK l p (k+1)=(jK l p k&&p l[k]):=by
 unfold jK;rw[aIR h,List.all_append]; simp
theorem wW {α:Type} (l:List α) (p:α→Bool):jK l p l.length=l.all p:=by unfold jK; rw[aHV]
def jO (f:aC) (e j l u w:PV) (ok:Bool):PF:=(((((((PF.nil.set 1 (.cS f.cells)).set 3 (e)).set 4 (j)).set 5 (l)).set 6 (u)).set 7 (w)).set 8 (.bool ok))
structure lJ (F:PF) (f:aC) (w3 w4 w5 w6 w7:PV) (ok:Bool):Prop where
 a1:F 1=some (.cS f.cells)
 a3:F 3=some w3
 a4:F 4=some w4
 a5:F 5=some w5
 a6:F 6=some w6
 a7:F 7=some w7
 a8:F 8=some (.bool ok)
theorem Xp {C:Ctx} (L:lD C) (f:aC) (S:f.Ok) (Y:f.aFE.length≤4) (I J M N:PV) (K:cG) (F:PF) (H:PH) (u:lJ F f .aA I J M N true)
  (A:F 67=some (.sl 4 (f.aFE.map dA.cells))) (B:F 68=some (.int .i64 (f.aFE.length:Nat))) (E:F 69=some (.int .i64 0))
  (R:∀ v O H',lJ O f v I J M N (f.aFE.all sJ)→bA H' 1 v (fK (f.aFE.map dA.name))→K (.exit 0) O H') :
  aE.wp C (.loop IE) K F H:=by
 refine wp_loop (α:=Nat × PV × PH) (fun t=>(((jO f t.2.1 I J M N (jK f.aFE sJ t.1)).set 67 (.sl 4 (f.aFE.map dA.cells))).set 68 (.int .i64 (f.aFE.length:Nat))).set 69 (.int .i64 t.1)) (fun t=>t.2.2)
  (fun t=>t.1≤f.aFE.length∧bA t.2.2 1 t.2.1 (fK ((f.aFE.map dA.name).take t.1))) (fun t=>f.aFE.length-t.1) (0,.aA,.nil) ⟨aGW _,.nil⟩ ?_ a_ ?_
 ·unfold jO
  (repeat' (first|exact d_|refine c_ ?_ ?_))<;>first|(simp only[go_sem,u.a1,u.a3,u.a4,u.a5,u.a6,u.a7,u.a8,A,B,E,tT]<;>rfl)|rfl
 rintro⟨k,v,X⟩ ⟨U,y⟩;simp only at U y ⊢;simp only[go_sem,IE,R2,jO];by_cases hlt:k<f.aFE.length
 ·have j:(k:Int)<(f.aFE.length:Nat):=Om;have W:(f.aFE.map dA.cells)[k]?=some (f.aFE[k]).cells:=by simp[hlt]
  have x:=xL (f.aFE.map dA.name) (k:=k) (by simpa using hlt);rw[aIN] at x;simp only[go_sem,j,R3,W];refine aQ fun o V=>?_;simp only[go_sem,R4];refine nZ y V (tD (by simp; omega)) fun v' H' l w=>?_;rw[x] at l;have e:=tR f.aFE sJ hlt;cases hb:jK f.aFE sJ k with
  | false =>rw[hb,aHA] at e;simp only[go_sem,kr,w,WX,wZz k];refine aH (k+1,v',H') ⟨hlt,l⟩ (by simp only; omega) ?_ b_;simp only[e];exact Lq
  | true =>rw[hb,aHK] at e;simp only[go_sem,kr,w];refine aB (L.law _ (S.law _ (aGP hlt))) Ev ?_;simp only[go_sem,WX,wZz k];refine aH (k+1,v',H') ⟨hlt,l⟩ (by simp only; omega) ?_ b_;simp only[e];exact Lq
 ·have j:¬ (k:Int)<(f.aFE.length:Nat):=Om;have:k=f.aFE.length:=Om;subst this;rw[aGZ (by simp)] at y;rw[wW];simp only[go_sem,j];exact R v _ _ ⟨by simp only[go_sem],by simp only[go_sem],by simp only[go_sem],by simp only[go_sem],by simp only[go_sem],by simp only[go_sem],by simp only[go_sem]⟩ y
theorem CX {n:Nat} (h:n≤1000):IntKind.i64.wrap ((n:Int)-1)=(n:Int)-1:=wrap_i64 Om Om
theorem Xq {C:Ctx} (L:lD C) (f:aC) (hs:f.aEX.length≤4) (hl:f.aFE.length≤4) (x:Bool) (E I J M:PV) (K:cG) (F:PF) (H:PH) (u:lJ F f E .aA I J M x)
  (R:F 85=some (.sl 4 (f.aEX.map dX.cells))) (S:F 86=some (.int .i64 (f.aEX.length:Nat))) (U:F 87=some (.int .i64 0))
  (X:∀ v w H',lJ w f E v I J M (x&&f.aEX.all (nG f))→bA H' 1 v (fK (f.aEX.map dX.name))→K (.exit 2) w H') :
  aE.wp C (.loop IF) K F H:=by
 refine wp_loop (α:=Nat × PV × PH) (fun t=>(((jO f E t.2.1 I J M (x&&jK f.aEX (nG f) t.1)).set 85 (.sl 4 (f.aEX.map dX.cells))).set 86 (.int .i64 (f.aEX.length:Nat))).set 87 (.int .i64 t.1)) (fun t=>t.2.2)
  (fun t=>t.1≤f.aEX.length∧bA t.2.2 1 t.2.1 (fK ((f.aEX.map dX.name).take t.1))) (fun t=>f.aEX.length-t.1) (0,.aA,.nil) ⟨aGW _,.nil⟩ ?_ a_ ?_
 ·unfold jO
  (repeat' (first|exact d_|refine c_ ?_ ?_))<;>first|(simp only[go_sem,u.a1,u.a3,u.a4,u.a5,u.a6,u.a7,u.a8,R,S,U,tT,aIY]<;>rfl)|rfl
 rintro⟨k,v,H0⟩ ⟨Z,N⟩;simp only at Z N ⊢;simp only[go_sem,IF,Em,jO];by_cases hlt:k<f.aEX.length
 ·have e:(k:Int)<(f.aEX.length:Nat):=Om;have hr:(f.aEX.map dX.cells)[k]?=some (f.aEX[k]).cells:=by simp[hlt]
  have B:=xL (f.aEX.map dX.name) (k:=k) (by simpa using hlt);rw[aIN] at B;simp only[go_sem,e,En,hr];refine aQ fun o ho=>?_;simp only[go_sem,Eo];refine nZ N ho (tD (by simp; omega)) fun v' H' y j=>?_;rw[B] at y;have l:=tR f.aEX (nG f) hlt;have fin:∀ (c:Bool) (w:PF),c=(x&&jK f.aEX (nG f) (k+1))→((((jO f E v' I J M c).set 85 (.sl 4 (f.aEX.map dX.cells))).set 86 (.int .i64 (f.aEX.length:Nat))).set 87 (.int .i64 (k+1:Nat))).le w →
    jE (fun (t:Nat × PV × PH)=>(((jO f E t.2.1 I J M (x&&jK f.aEX (nG f) t.1)).set 85 (.sl 4 (f.aEX.map dX.cells))).set 86 (.int .i64 (f.aEX.length:Nat))).set 87 (.int .i64 t.1)) (fun (t:Nat × PV × PH)=>t.2.2)  (fun (t:Nat × PV × PH)=>t.1≤f.aEX.length∧bA t.2.2 1 t.2.1 (fK ((f.aEX.map dX.name).take t.1))) (fun (t:Nat × PV × PH)=>f.aEX.length-t.1) (f.aEX.length-k) K .normal w H':=by
   intro c w Y A;refine aH (α:=Nat × PV × PH) (k+1,v',H') ⟨hlt,y⟩ (by simp only; omega) ?_ b_;rw[Y] at A;exact A
  unfold jO at fin;rw[l,← Bool.and_assoc] at fin;have V:nG f f.aEX[k]=(within (f.aEX[k]).aFN 1 16&&within (f.aEX[k]).port 1 64&&within (f.aEX[k]).law 0 ((f.aFE.length:Int)-1)):=rfl;cases hb:(x&&jK f.aEX (nG f) k) with
  | false =>rw[hb,aHA] at fin;simp only[go_sem,WZ,j,AO,wZz k];refine fin false _ rfl ?_;exact Lq
  | true =>
   rw[hb,aHK] at fin;simp only[go_sem,WZ,j];refine aB (L.inn _ 1 16) Ev ?_;cases O:within (f.aEX[k]).aFN 1 16 with
   | false =>simp only[go_sem,AO,wZz k];refine fin false _ (by rw[V,O]; simp only[aHA]) ?_;exact Lq
   | true =>
    simp only[go_sem,j];refine aB (L.inn _ 1 64) Ev ?_;cases W:within (f.aEX[k]).port 1 64 with
    | false =>simp only[go_sem,AO,wZz k];refine fin false _ (by rw[V,O,W]; simp only[aHA,aID]) ?_;exact Lq
    | true =>simp only[go_sem,j,aGK,CX (Om:f.aFE.length≤1000)];refine aB (L.inn _ 0 _) Ev ?_;simp only[go_sem,AO,wZz k];refine fin (within (f.aEX[k]).law 0 ((f.aFE.length:Int)-1)) _ (by rw[V,O,W]; simp only[aHK]) ?_;exact Lq
 ·have e:¬ (k:Int)<(f.aEX.length:Nat):=Om;have:k=f.aEX.length:=Om;subst this;rw[aGZ (by simp)] at N;rw[wW];simp only[go_sem,e];exact X v _ _ ⟨by simp only[go_sem],by simp only[go_sem],by simp only[go_sem],by simp only[go_sem],by simp only[go_sem],by simp only[go_sem],by simp only[go_sem]⟩ N
theorem Xr {C:Ctx} (L:lD C) (f:aC) (t:List cU) (X:t.length≤40) (x:Bool) (E I J M:PV) (K:cG) (F:PF) (H:PH) (j:lJ F f E I .aA J M x)
  (y:F 119=some (.sl 7 (t.map cU.cells))) (A:F 120=some (.int .i64 (t.length:Nat))) (B:F 121=some (.int .i64 0))
  (O:∀ v N H',lJ N f E I v J M x→bA H' 1 v (fK (t.map cU.name))→K (.exit 4) N H') :
  aE.wp C (.loop IG) K F H:=by
 refine wp_loop (α:=Nat × PV × PH) (fun a=>(((jO f E I a.2.1 J M x).set 119 (.sl 7 (t.map cU.cells))).set 120 (.int .i64 (t.length:Nat))).set 121 (.int .i64 a.1)) (fun a=>a.2.2)
  (fun a=>a.1≤t.length∧bA a.2.2 1 a.2.1 (fK ((t.map cU.name).take a.1))) (fun a=>t.length-a.1) (0,.aA,.nil) ⟨aGW _,.nil⟩ ?_ a_ ?_
 ·unfold jO
  (repeat' (first|exact d_|refine c_ ?_ ?_))<;>first|(simp only[go_sem,j.a1,j.a3,j.a4,j.a5,j.a6,j.a7,j.a8,y,A,B]<;>rfl)|rfl
 rintro⟨k,v,W⟩ ⟨R,w⟩;simp only at R w ⊢;simp only[go_sem,IG,Ep,jO];by_cases hlt:k<t.length
 ·have e:(k:Int)<(t.length:Nat):=Om;have V:(t.map cU.cells)[k]?=some (t[k]).cells:=by simp[hlt]
  have u:=xL (t.map cU.name) (k:=k) (by simpa using hlt);rw[aIN] at u;simp only[go_sem,e,Eq,V];refine aQ fun o S=>?_;simp only[go_sem,Er];refine nZ w S (tD (by simp; omega)) fun v' H' l U=>?_;rw[u] at l;simp only[go_sem,Es,wZz k];refine aH (k+1,v',H') ⟨hlt,l⟩ (by simp only; omega) ?_ b_;exact Lq
 ·have e:¬ (k:Int)<(t.length:Nat):=Om;have:k=t.length:=Om;subst this;rw[aGZ (by simp)] at w;simp only[go_sem,e];exact O v _ _ ⟨by simp only[go_sem],by simp only[go_sem],by simp only[go_sem],by simp only[go_sem],by simp only[go_sem],by simp only[go_sem],by simp only[go_sem]⟩ w
theorem Xs {C:Ctx} (L:lD C) (f:aC) (e:List (List UInt8)) (hn:e.length≤40) (hs:f.aEW.length≤24) (hm:f.aEX.length≤4) (hd:f.aEZ.length≤40) (A:Bool) (J M v0 N O:PV) (K:cG) (F:PF) (H:PH) (x:lJ F f J M v0 N O A)
  (h0:bA H 1 v0 (fK e))
  (W:F 132=some (.sl 3 (f.aEW.map dQ.cells))) (X:F 133=some (.int .i64 (f.aEW.length:Nat))) (Y:F 134=some (.int .i64 0))
  (hK:∀ v y H',lJ y f J M v N O (A&&f.aEW.all (lF f))→bA H' 1 v (fK (e++f.aEW.map dQ.name))→K (.exit 6) y H') :
  aE.wp C (.loop IH) K F H:=by
 refine wp_loop (α:=Nat × PV × PH) (fun t=>(((jO f J M t.2.1 N O (A&&jK f.aEW (lF f) t.1)).set 132 (.sl 3 (f.aEW.map dQ.cells))).set 133 (.int .i64 (f.aEW.length:Nat))).set 134 (.int .i64 t.1)) (fun t=>t.2.2)
  (fun t=>t.1≤f.aEW.length∧bA t.2.2 1 t.2.1 (fK (e++(f.aEW.map dQ.name).take t.1))) (fun t=>f.aEW.length-t.1) (0,v0,H) ⟨aGW _,by rw[List.take_zero,aHY]; exact h0⟩ ?_ b_ ?_
 ·unfold jO
  (repeat' (first|exact d_|refine c_ ?_ ?_))<;>first|(simp only[go_sem,x.a1,x.a3,x.a4,x.a5,x.a6,x.a7,x.a8,W,X,Y,tT,aIY]<;>rfl)|rfl
 rintro⟨k,v,H0⟩ ⟨hk,V⟩;simp only at hk V ⊢;simp only[go_sem,IH,Et,jO];by_cases hlt:k<f.aEW.length
 ·have j:(k:Int)<(f.aEW.length:Nat):=Om;have hr:(f.aEW.map dQ.cells)[k]?=some (f.aEW[k]).cells:=by simp[hlt]
  have β:fK (e++(f.aEW.map dQ.name).take k)++[[.str (f.aEW[k]).name]]=fK (e++(f.aEW.map dQ.name).take (k+1)):=by rw[aIR (by simpa using hlt),← aHN,aIN];unfold fK;simp only[aHX,aHR,aIW]
  simp only[go_sem,j,Eu,hr];refine aQ fun o ho=>?_;simp only[go_sem,Ew];refine nZ V ho (tD (by simp; omega)) fun v' H' B u=>?_;rw[β] at B;have w:=tR f.aEW (lF f) hlt;have fin:∀ (c:Bool) (y:PF),c=(A&&jK f.aEW (lF f) (k+1))→((((jO f J M v' N O c).set 132 (.sl 3 (f.aEW.map dQ.cells))).set 133 (.int .i64 (f.aEW.length:Nat))).set 134 (.int .i64 (k+1:Nat))).le y →
    jE (fun (t:Nat × PV × PH)=>(((jO f J M t.2.1 N O (A&&jK f.aEW (lF f) t.1)).set 132 (.sl 3 (f.aEW.map dQ.cells))).set 133 (.int .i64 (f.aEW.length:Nat))).set 134 (.int .i64 t.1)) (fun (t:Nat × PV × PH)=>t.2.2)  (fun (t:Nat × PV × PH)=>t.1≤f.aEW.length∧bA t.2.2 1 t.2.1 (fK (e++(f.aEW.map dQ.name).take t.1))) (fun (t:Nat × PV × PH)=>f.aEW.length-t.1) (f.aEW.length-k) K .normal y H':=by
   intro c y hc E;refine aH (α:=Nat × PV × PH) (k+1,v',H') ⟨hlt,B⟩ (by simp only; omega) ?_ b_;rw[hc] at E;exact E
  unfold jO at fin;rw[w,← Bool.and_assoc] at fin;have l:lF f f.aEW[k]=(within (f.aEW[k]).model 0 ((f.aEX.length:Int)-1)&&within (f.aEW[k]).machine 0 ((f.aEZ.length:Int)-1)&&decide ((f.aEZ.map cU.level).getD (f.aEW[k]).machine.toNat 0=4)):=rfl;cases hb:(A&&jK f.aEW (lF f) k) with
  | false =>rw[hb,aHA] at fin;simp only[go_sem,XC,u,vK,wZz k];refine fin false _ rfl ?_;exact Lq
  | true =>
   rw[hb,aHK] at fin;simp only[go_sem,XC,u,aGK,CX (Om:f.aEX.length≤1000)];refine aB (L.inn _ 0 _) Ev ?_;cases R:within (f.aEW[k]).model 0 ((f.aEX.length:Int)-1) with
   | false =>simp only[go_sem,vK,wZz k];refine fin false _ (by rw[l,R]; simp only[aHA]) ?_;exact Lq
   | true =>
    simp only[go_sem,u,aGK,CX (Om:f.aEZ.length≤1000)];refine aB (L.inn _ 0 _) Ev ?_;cases S:within (f.aEW[k]).machine 0 ((f.aEZ.length:Int)-1) with
    | false =>simp only[go_sem,vK,wZz k];refine fin false _ (by rw[l,R,S]; simp only[aHA,aID]) ?_;exact Lq
    | true =>
     obtain⟨i1,i2⟩:=within_iff.1 S;have i3:(f.aEW[k]).machine.toNat<f.aEZ.length:=Om;have I:(f.aEZ.map cU.cells)[(f.aEW[k]).machine.toNat]?=some (f.aEZ[(f.aEW[k]).machine.toNat]).cells:=by simp[i3]
     have Z:(f.aEZ.map cU.level).getD (f.aEW[k]).machine.toNat 0=(f.aEZ[(f.aEW[k]).machine.toNat]).level:=by simp[i3]
     rw[Z] at l;by_cases U:(f.aEZ[(f.aEW[k]).machine.toNat]).level=4
     ·simp only[go_sem,u,i1,I,bM U,vK,wZz k];refine fin true _ (by rw[l,R,S,decide_eq_true U]; rfl) ?_;exact Lq
     ·simp only[go_sem,u,i1,I,bB U,vK,wZz k];refine fin false _ (by rw[l,R,S,decide_eq_false U]; rfl) ?_;exact Lq
 ·have j:¬ (k:Int)<(f.aEW.length:Nat):=Om;have:k=f.aEW.length:=Om;subst this;rw[aGZ (by simp)] at V;rw[wW];simp only[go_sem,j];exact hK v _ _ ⟨by simp only[go_sem],by simp only[go_sem],by simp only[go_sem],by simp only[go_sem],by simp only[go_sem],by simp only[go_sem],by simp only[go_sem]⟩ V
theorem Xt {C:Ctx} (L:lD C) (f:aC) (W:f.Ok) (hs:f.aFA.length≤4) (Y:f.aEX.length≤4) (w:Bool) (E I J M:PV) (K:cG) (F:PF) (H:PH) (l:lJ F f E I J .aA M w)
  (O:F 174=some (.sl 17 (f.aFA.map cW.cells))) (R:F 175=some (.int .i64 (f.aFA.length:Nat))) (S:F 176=some (.int .i64 0))
  (U:∀ v u H',lJ u f E I J v M (w&&f.aFA.all (kX f.aEX.length))→bA H' 1 v (fK (f.aFA.map cW.name))→K (.exit 8) u H') :
  aE.wp C (.loop II) K F H:=by
 refine wp_loop (α:=Nat × PV × PH) (fun t=>(((jO f E I J t.2.1 M (w&&jK f.aFA (kX f.aEX.length) t.1)).set 174 (.sl 17 (f.aFA.map cW.cells))).set 175 (.int .i64 (f.aFA.length:Nat))).set 176 (.int .i64 t.1)) (fun t=>t.2.2)
  (fun t=>t.1≤f.aFA.length∧bA t.2.2 1 t.2.1 (fK ((f.aFA.map cW.name).take t.1))) (fun t=>f.aFA.length-t.1) (0,.aA,.nil) ⟨aGW _,.nil⟩ ?_ a_ ?_
 ·unfold jO
  (repeat' (first|exact d_|refine c_ ?_ ?_))<;>first|(simp only[go_sem,l.a1,l.a3,l.a4,l.a5,l.a6,l.a7,l.a8,O,R,S,tT,aIY]<;>rfl)|rfl
 rintro⟨k,v,H0⟩ ⟨X,N⟩;simp only at X N ⊢;simp only[go_sem,II,Ex,jO];by_cases hlt:k<f.aFA.length
 ·have e:(k:Int)<(f.aFA.length:Nat):=Om;have hr:(f.aFA.map cW.cells)[k]?=some (f.aFA[k]).cells:=by simp[hlt]
  have B:=xL (f.aFA.map cW.name) (k:=k) (by simpa using hlt);rw[aIN] at B;simp only[go_sem,e,Ey,hr];refine aQ fun o Z=>?_;simp only[go_sem,Ez];refine nZ N Z (tD (by simp; omega)) fun v' H' x A=>?_;rw[B] at x;have j:=tR f.aFA (kX f.aEX.length) hlt;have fin:∀ (c:Bool) (u:PF),c=(w&&jK f.aFA (kX f.aEX.length) (k+1))→((((jO f E I J v' M c).set 174 (.sl 17 (f.aFA.map cW.cells))).set 175 (.int .i64 (f.aFA.length:Nat))).set 176 (.int .i64 (k+1:Nat))).le u →
    jE (fun (t:Nat × PV × PH)=>(((jO f E I J t.2.1 M (w&&jK f.aFA (kX f.aEX.length) t.1)).set 174 (.sl 17 (f.aFA.map cW.cells))).set 175 (.int .i64 (f.aFA.length:Nat))).set 176 (.int .i64 t.1)) (fun (t:Nat × PV × PH)=>t.2.2)  (fun (t:Nat × PV × PH)=>t.1≤f.aFA.length∧bA t.2.2 1 t.2.1 (fK ((f.aFA.map cW.name).take t.1))) (fun (t:Nat × PV × PH)=>f.aFA.length-t.1) (f.aFA.length-k) K .normal u H':=by
   intro c u V y;refine aH (α:=Nat × PV × PH) (k+1,v',H') ⟨hlt,x⟩ (by simp only; omega) ?_ b_;rw[V] at y;exact y
  unfold jO at fin;rw[j,← Bool.and_assoc] at fin;cases hb:(w&&jK f.aFA (kX f.aEX.length) k) with
  | false =>rw[hb,aHA] at fin;simp only[go_sem,XE,A,XF,wZz k];refine fin false _ rfl ?_;exact Lq
  | true =>rw[hb,aHK] at fin;simp only[go_sem,XE,A,aGK];refine aB (L.pol _ _ (W.aFJ _ (aGP hlt)) Y) Ev ?_;simp only[go_sem,XF,wZz k];refine fin _ _ rfl ?_;exact Lq
 ·have e:¬ (k:Int)<(f.aFA.length:Nat):=Om;have:k=f.aFA.length:=Om;subst this;rw[aGZ (by simp)] at N;rw[wW];simp only[go_sem,e];exact U v _ _ ⟨by simp only[go_sem],by simp only[go_sem],by simp only[go_sem],by simp only[go_sem],by simp only[go_sem],by simp only[go_sem],by simp only[go_sem]⟩ N
theorem Xu {C:Ctx} (L:lD C) (f:aC) (hs:f.aEY.length≤12) (hl:f.aFA.length≤4) (w:Bool) (E I J M:PV) (K:cG) (F:PF) (H:PH) (l:lJ F f E I J M .aA w)
  (O:F 195=some (.sl 2 (f.aEY.map iY.cells))) (R:F 196=some (.int .i64 (f.aEY.length:Nat))) (S:F 197=some (.int .i64 0))
  (U:∀ v u H',lJ u f E I J M v (w&&f.aEY.all (qI f))→bA H' 1 v (fK (f.aEY.map iY.name))→K (.exit 10) u H') :
  aE.wp C (.loop IJ) K F H:=by
 refine wp_loop (α:=Nat × PV × PH) (fun t=>(((jO f E I J M t.2.1 (w&&jK f.aEY (qI f) t.1)).set 195 (.sl 2 (f.aEY.map iY.cells))).set 196 (.int .i64 (f.aEY.length:Nat))).set 197 (.int .i64 t.1)) (fun t=>t.2.2)
  (fun t=>t.1≤f.aEY.length∧bA t.2.2 1 t.2.1 (fK ((f.aEY.map iY.name).take t.1))) (fun t=>f.aEY.length-t.1) (0,.aA,.nil) ⟨aGW _,.nil⟩ ?_ a_ ?_
 ·unfold jO
  (repeat' (first|exact d_|refine c_ ?_ ?_))<;>first|(simp only[go_sem,l.a1,l.a3,l.a4,l.a5,l.a6,l.a7,l.a8,O,R,S,tT,aIY]<;>rfl)|rfl
 rintro⟨k,v,H0⟩ ⟨W,N⟩;simp only at W N ⊢;simp only[go_sem,IJ,E0,jO];by_cases hlt:k<f.aEY.length
 ·have e:(k:Int)<(f.aEY.length:Nat):=Om;have Z:(f.aEY.map iY.cells)[k]?=some (f.aEY[k]).cells:=by simp[hlt]
  have B:=xL (f.aEY.map iY.name) (k:=k) (by simpa using hlt);rw[aIN] at B;simp only[go_sem,e,E4,Z];refine aQ fun o Y=>?_;simp only[go_sem,E5];refine nZ N Y (tD (by simp; omega)) fun v' H' x A=>?_;rw[B] at x;have j:=tR f.aEY (qI f) hlt;have fin:∀ (c:Bool) (u:PF),c=(w&&jK f.aEY (qI f) (k+1))→((((jO f E I J M v' c).set 195 (.sl 2 (f.aEY.map iY.cells))).set 196 (.int .i64 (f.aEY.length:Nat))).set 197 (.int .i64 (k+1:Nat))).le u →
    jE (fun (t:Nat × PV × PH)=>(((jO f E I J M t.2.1 (w&&jK f.aEY (qI f) t.1)).set 195 (.sl 2 (f.aEY.map iY.cells))).set 196 (.int .i64 (f.aEY.length:Nat))).set 197 (.int .i64 t.1)) (fun (t:Nat × PV × PH)=>t.2.2)  (fun (t:Nat × PV × PH)=>t.1≤f.aEY.length∧bA t.2.2 1 t.2.1 (fK ((f.aEY.map iY.name).take t.1))) (fun (t:Nat × PV × PH)=>f.aEY.length-t.1) (f.aEY.length-k) K .normal u H':=by
   intro c u V y;refine aH (α:=Nat × PV × PH) (k+1,v',H') ⟨hlt,x⟩ (by simp only; omega) ?_ b_;rw[V] at y;exact y
  unfold jO at fin;rw[j,← Bool.and_assoc] at fin;have X:qI f f.aEY[k]=within (f.aEY[k]).aFJ 0 ((f.aFA.length:Int)-1):=rfl;cases hb:(w&&jK f.aEY (qI f) k) with
  | false =>rw[hb,aHA] at fin;simp only[go_sem,XH,A,XI,wZz k];refine fin false _ rfl ?_;exact Lq
  | true =>rw[hb,aHK,X] at fin;simp only[go_sem,XH,A,aGK,CX (Om:f.aFA.length≤1000)];refine aB (L.inn _ 0 _) Ev ?_;simp only[go_sem,XI,wZz k];refine fin _ _ rfl ?_;exact Lq
 ·have e:¬ (k:Int)<(f.aEY.length:Nat):=Om;have:k=f.aEY.length:=Om;subst this;rw[aGZ (by simp)] at N;rw[wW];simp only[go_sem,e];exact U v _ _ ⟨by simp only[go_sem],by simp only[go_sem],by simp only[go_sem],by simp only[go_sem],by simp only[go_sem],by simp only[go_sem],by simp only[go_sem]⟩ N
theorem oL {f:aC} (h:¬ (f.aFE.length≤4∧f.aEX.length≤4∧f.aEZ.length≤40∧f.aEW.length≤24∧f.aFA.length≤4∧f.aEY.length≤12)):rN f=false:=by
 rw[← Bool.not_eq_true];intro e;simp only[rN,aHC,decide_eq_true_eq] at e;omega
theorem Oh {f:aC} (h:f.aFE.length≤4∧f.aEX.length≤4∧f.aEZ.length≤40∧f.aEW.length≤24∧f.aFA.length≤4∧f.aEY.length≤12):rN f=within f.aGC 1 4:=by
 obtain⟨e,j,l,u,h5,w⟩:=h;simp[rN,e,j,l,u,h5,w]
theorem nO {t:Nat} {n m:Int} {F:PF} {H:PH} (h:F t=some (.int .i64 n)) (e:n=m):aT [.tmp t] (cD (.int .i64 m)) .ret F H:=by
 subst e;exact aU (.inr rfl) .nil (vs:=[.int .i64 n]) (by rw[kY,oJ,h,pH]) a_ ⟨.refl _,rfl⟩
def xZ (f:aC):Int:=if dE f then 0 else 1
theorem jh {f:aC} (h:dE f=false):xZ f=1:=by rw[xZ,h]; rfl
theorem uX {C:Ctx} {F:PF} {H:PH} {name t s:Nat} {v r:PV} {rows:List (List PV)} {d:Option Nat} {K:PF→PH→Prop} (h:aG C name [.sl s rows] .nil (aM r)) (x:bA H s v rows) (l:F t=some v)
  (j:∀ (e:PF) (w:PH),(∀ i u,F i=some u→Pure u→e i=some u)→K (e.put d r) w):gA C name [.tmp t] [] d K F H:=by
 rcases x with ⟨rfl,rfl⟩ | ⟨q,rs,rfl,h1,h2,h3⟩
 ·refine aB (h.Zc (.inl ⟨rfl,rfl⟩)) (by rw[AG,bw,l,SC]) ?_;exact j F H fun i u hi _=>hi
 ·rw[← h3] at h;refine rB (k:=rows.length) h l h1 h2 (j _ _ fun i u hi y=>?_);rw[oF,hi,aHS,y q s rs]
theorem Seen.pure {s:Nat} {v:PV} {rows:List (List PV)} (h:Seen s v rows):Pure v:=by
 rcases h with ⟨_,rfl⟩ | rfl
 ·exact fun _ _ _=>rfl
 ·exact fun _ _ _=>rfl
def bI (b:Bool):Int:=if b then 0 else 1
abbrev SR (f:aC):List (List UInt8):=(f.aEZ.drop 1).map cU.name++f.aEW.map dQ.name
def wU (f:aC):Bool:=distinct (f.aFE.map dA.name)&&distinct (f.aEX.map dX.name)&&distinct (SR f)&&distinct (f.aFA.map cW.name)&&distinct (f.aEY.map iY.name)
structure Small (f:aC):Prop where
 aFE:f.aFE.length≤4
 aEX:f.aEX.length≤4
 aEZ:f.aEZ.length≤40
 aEW:f.aEW.length≤24
 aFA:f.aFA.length≤4
 aEY:f.aEY.length≤12
theorem CC {C:Ctx} (L:lD C) {v:PV} {l:List (List UInt8)} (h:Seen 1 v (fK l)) (e:l.length≤1000):aG C 110 [v] .nil (aM (.bool (distinct l))) :=
 (L.uniq l (Om:l.length≤9223372036854775807)).Zc h
theorem ajC {C:Ctx} (L:lD C) (f:aC) (J:Small f) (j l u w x:PV) (ok:Bool) (F:PF) (H:PH) (e:lJ F f j l u w x ok)
  (A:Seen 1 j (fK (f.aFE.map dA.name))) (B:Seen 1 l (fK (f.aEX.map dX.name))) (h5:Seen 1 u (fK (SR f))) (E:Seen 1 w (fK (f.aFA.map cW.name))) (h7:bA H 1 x (fK (f.aEY.map iY.name))) :
  aE.wp C (.seq (.seq (.region AP) (.cond (.tmp 243) (.seq (.region oU) .ret) .skip)) (.seq (.region IK) .ret)) (aT [.tmp 2] (cD (.int .i64 (bI (ok&&wU f))))) F H:=by
 obtain⟨s1,s2,s3,s4,Z,s6⟩:=J;have K:(f.aFE.map dA.name).length≤1000:=by simp; omega
 have M:(f.aEX.map dX.name).length≤1000:=by simp; omega
 have N:(SR f).length≤1000:=by simp; omega
 have O:(f.aFA.map cW.name).length≤1000:=by simp; omega
 have R:(f.aEY.map iY.name).length≤9223372036854775807:=by simp; omega
 cases ok with
 | false =>simp only[go_sem,AP,e.a8,oU];exact nO rfl rfl
 | true =>
  simp only[go_sem,AP,e.a8,e.a3];refine aB (CC L A K) rfl ?_;unfold wU;cases U:distinct (f.aFE.map dA.name) with
  | false =>simp only[go_sem,oU,aHM];exact nO rfl rfl
  | true =>
   simp only[go_sem,e.a4,aHB];refine aB (CC L B M) rfl ?_;cases V:distinct (f.aEX.map dX.name) with
   | false =>simp only[go_sem,oU,aHM];exact nO rfl rfl
   | true =>
    simp only[go_sem,e.a5,aHB];refine aB (CC L h5 N) rfl ?_;cases W:distinct (SR f) with
    | false =>simp only[go_sem,oU,aHM];exact nO rfl rfl
    | true =>
     simp only[go_sem,e.a6,aHB];refine aB (CC L E O) rfl ?_;cases X:distinct (f.aFA.map cW.name) with
     | false =>simp only[go_sem,oU,aHM];exact nO rfl rfl
     | true =>
      simp only[go_sem,e.a7,aHB];refine uX (L.uniq _ R) h7 rfl fun y S I=>?_;have g:y 239=some (.bool false):=I 239 _ rfl fun _ _ _=>rfl;cases Y:distinct (f.aEY.map iY.name) with
      | false =>simp only[go_sem,oU,aHM,g];exact nO rfl rfl
      | true =>simp only[go_sem,IK,aHB,g];exact nO rfl rfl
abbrev nn (b:Bool):cG:=aT [.tmp 2] (cD (.int .i64 (bI b)))
def zd:aE:=.seq (.seq (.region XG) (.block 10 (.loop IJ))) (.seq (.seq (.region AP) (.cond (.tmp 243) (.seq (.region oU) .ret) .skip)) (.seq (.region IK) .ret))
def zc:aE:=.seq (.seq (.region XD) (.block 8 (.loop II))) zd
def zb:aE:=.seq (.seq (.region XB) (.block 6 (.loop IH))) zc
def za:aE:=.seq (.seq (.region XA) (.block 4 (.loop IG))) zb
def y9:aE:=.seq (.seq (.region WY) (.block 2 (.loop IF))) za
def Z2:aE:=.seq (.seq (.region kq) (.block 0 (.loop IE))) y9
theorem arR {C:Ctx} (L:lD C) (f:aC) (y:Small f) (u w x K:PV) (ok:Bool) (F:PF) (H:PH) (l:lJ F f u w x K .aA ok)
  (E:Seen 1 u (fK (f.aFE.map dA.name))) (I:Seen 1 w (fK (f.aEX.map dX.name))) (h5:Seen 1 x (fK (SR f))) (R:bA H 1 K (fK (f.aFA.map cW.name))) :
  aE.wp C zd (nn (ok&&f.aEY.all (qI f)&&wU f)) F H:=by
 unfold zd;simp only[go_sem,XG,l.a1,aGK];refine rC R fun J B N O U j=>?_;refine Xu L f y.aEY y.aFA ok u w x J _ N O ⟨j 1 _ (by simp only[go_sem,l.a1]) fun _ _ _=>rfl,j 3 _ (by simp only[go_sem,l.a3]) E.pure,j 4 _ (by simp only[go_sem,l.a4]) I.pure,j 5 _ (by simp only[go_sem,l.a5]) h5.pure,U 6 (by simp only[go_sem,l.a6]),j 7 _ (by simp only[go_sem,l.a7]) fun _ _ _=>rfl,j 8 _ (by simp only[go_sem,l.a8]) fun _ _ _=>rfl⟩
  (j 195 _ rfl fun _ _ _=>rfl) (j 196 _ rfl fun _ _ _=>rfl) (j 197 _ rfl fun _ _ _=>rfl) fun v M H' A S=>?_
 have e:=ajC L f y u w x J v _ M H' A E I h5 B S;simp only[aE.wp,go_sem] at e;simp only[go_sem];exact e
theorem arQ {C:Ctx} (L:lD C) (f:aC) (O:f.Ok) (w:Small f) (l u I:PV) (ok:Bool) (F:PF) (H:PH) (j:lJ F f l u I .aA .aA ok)
  (A:Seen 1 l (fK (f.aFE.map dA.name))) (B:Seen 1 u (fK (f.aEX.map dX.name))) (h5:bA H 1 I (fK (SR f))) :
  aE.wp C zc (nn (ok&&f.aFA.all (kX f.aEX.length)&&f.aEY.all (qI f)&&wU f)) F H:=by
 unfold zc;simp only[go_sem,XD,j.a1,aGK];refine rC h5 fun E y K M R e=>?_;refine Xt L f O w.aFA w.aEX ok l u E .aA _ K M ⟨e 1 _ (by simp only[go_sem,j.a1]) fun _ _ _=>rfl,e 3 _ (by simp only[go_sem,j.a3]) A.pure,e 4 _ (by simp only[go_sem,j.a4]) B.pure,R 5 (by simp only[go_sem,j.a5]),e 6 _ (by simp only[go_sem,j.a6]) fun _ _ _=>rfl,e 7 _ (by simp only[go_sem,j.a7]) fun _ _ _=>rfl,e 8 _ (by simp only[go_sem,j.a8]) fun _ _ _=>rfl⟩
  (e 174 _ rfl fun _ _ _=>rfl) (e 175 _ rfl fun _ _ _=>rfl) (e 176 _ rfl fun _ _ _=>rfl) fun v J H' x N=>?_
 simp only[go_sem];exact arR L f w l u E v _ J H' x A B y N
theorem arP {C:Ctx} (L:lD C) (f:aC) (I:f.Ok) (j:Small f) (l u x:PV) (ok:Bool) (F:PF) (H:PH) (e:lJ F f l u x .aA .aA ok)
  (A:Seen 1 l (fK (f.aFE.map dA.name))) (B:Seen 1 u (fK (f.aEX.map dX.name))) (h5:bA H 1 x (fK ((f.aEZ.drop 1).map cU.name))) :
  aE.wp C zb (nn (ok&&f.aEW.all (lF f)&&f.aFA.all (kX f.aEX.length)&&f.aEY.all (qI f)&&wU f)) F H:=by
 unfold zb;simp only[go_sem,XB,e.a1,aGK];refine Xs L f ((f.aEZ.drop 1).map cU.name) (by have:=j.aEZ; simp; omega) j.aEW j.aEX j.aEZ ok l u x .aA .aA _ _ H ⟨by simp only[go_sem,e.a1],by simp only[go_sem,e.a3],by simp only[go_sem,e.a4],by simp only[go_sem,e.a5],by simp only[go_sem,e.a6],by simp only[go_sem,e.a7],by simp only[go_sem,e.a8]⟩ h5
  rfl rfl rfl fun v y H' w E=>?_
 simp only[go_sem];exact arQ L f I j l u v _ y H' w A B E
theorem arO {C:Ctx} (L:lD C) (f:aC) (R:f.Ok) (B:Small f) (V:0<f.aEZ.length) (u I:PV) (ok:Bool) (F:PF) (H:PH) (j:lJ F f u I .aA .aA .aA ok)
  (A:Seen 1 u (fK (f.aFE.map dA.name))) (N:bA H 1 I (fK (f.aEX.map dX.name))) :
  aE.wp C za (nn (ok&&f.aEW.all (lF f)&&f.aFA.all (kX f.aEX.length)&&f.aEY.all (qI f)&&wU f)) F H:=by
 unfold za;have w:(1:Int)≤(f.aEZ.length:Nat):=Om;have S:=B.aEZ;have l:((f.aEZ.map cU.cells).take f.aEZ.length).drop 1=(f.aEZ.drop 1).map cU.cells:=by rw[aGZ (by simp),List.map_drop]
 simp only[go_sem,XA,j.a1,aGK,w,aJN,l];refine rC N fun E y K M U e=>?_;refine Xr L f (f.aEZ.drop 1) (by simp; omega) ok u E .aA .aA _ K M ⟨e 1 _ (by simp only[go_sem,j.a1]) fun _ _ _=>rfl,e 3 _ (by simp only[go_sem,j.a3]) A.pure,U 4 (by simp only[go_sem,j.a4]),e 5 _ (by simp only[go_sem,j.a5]) fun _ _ _=>rfl,e 6 _ (by simp only[go_sem,j.a6]) fun _ _ _=>rfl,e 7 _ (by simp only[go_sem,j.a7]) fun _ _ _=>rfl,e 8 _ (by simp only[go_sem,j.a8]) fun _ _ _=>rfl⟩
  (e 119 _ rfl fun _ _ _=>rfl) (e 120 _ rfl fun _ _ _=>rfl) (e 121 _ rfl fun _ _ _=>rfl) fun v J H' x O=>?_
 simp only[go_sem];exact arP L f R B u E v _ J H' x A y O
theorem arN {C:Ctx} (L:lD C) (f:aC) (M:f.Ok) (l:Small f) (K:0<f.aEZ.length) (y:PV) (ok:Bool) (F:PF) (H:PH) (j:lJ F f y .aA .aA .aA .aA ok)
  (I:bA H 1 y (fK (f.aFE.map dA.name))) :
  aE.wp C y9 (nn (ok&&f.aEX.all (nG f)&&f.aEW.all (lF f)&&f.aFA.all (kX f.aEX.length)&&f.aEY.all (qI f)&&wU f)) F H:=by
 unfold y9;simp only[go_sem,WY,j.a1,aGK];refine rC I fun x w B E N e=>?_;refine Xq L f l.aEX l.aFE ok x .aA .aA .aA _ B E ⟨e 1 _ (by simp only[go_sem,j.a1]) fun _ _ _=>rfl,N 3 (by simp only[go_sem,j.a3]),e 4 _ (by simp only[go_sem,j.a4]) fun _ _ _=>rfl,e 5 _ (by simp only[go_sem,j.a5]) fun _ _ _=>rfl,e 6 _ (by simp only[go_sem,j.a6]) fun _ _ _=>rfl,e 7 _ (by simp only[go_sem,j.a7]) fun _ _ _=>rfl,e 8 _ (by simp only[go_sem,j.a8]) fun _ _ _=>rfl⟩
  (e 85 _ rfl fun _ _ _=>rfl) (e 86 _ rfl fun _ _ _=>rfl) (e 87 _ rfl fun _ _ _=>rfl) fun v A H' u J=>?_
 simp only[go_sem];exact arO L f M l K x v _ A H' u w J
theorem arM {C:Ctx} (L:lD C) (f:aC) (l:f.Ok) (u:Small f) (y:0<f.aEZ.length) (F:PF) (H:PH) (e:lJ F f .aA .aA .aA .aA .aA true) :
  aE.wp C Z2 (nn (f.aFE.all sJ&&f.aEX.all (nG f)&&f.aEW.all (lF f)&&f.aFA.all (kX f.aEX.length)&&f.aEY.all (qI f)&&wU f)) F H:=by
 unfold Z2;simp only[go_sem,kq,e.a1,aGK];refine Xp L f l u.aFE .aA .aA .aA .aA _ _ H ⟨by simp only[go_sem,e.a1],by simp only[go_sem,e.a3],by simp only[go_sem,e.a4],by simp only[go_sem,e.a5],by simp only[go_sem,e.a6],by simp only[go_sem,e.a7],by simp only[go_sem,e.a8]⟩ rfl rfl rfl fun v w H' j x=>?_;simp only[go_sem];exact arN L f l u y v _ w H' j x
theorem arK {C:Ctx} (L:lD C) (f:aC) (I:f.Ok):OE.wp C (aT ajB.res (cD (.int .i64 (xZ f)))) (PF.args [.agg f.cells]) .nil:=by
 have he:dE f=(rN f&&pL f&&(f.aFE.all sJ&&f.aEX.all (nG f)&&f.aEW.all (lF f)&&f.aFA.all (kX f.aEX.length)&&f.aEY.all (qI f))&&wU f):=rfl;simp only[go_sem,OE,Ry,Rz,ajB];refine aB (L.inn f.aGC 1 4) rfl ?_;have bad:∀ (F:PF) (H:PH),dE f=false→F 2=some (.int .i64 1)→aT [.tmp 2] (cD (.int .i64 (xZ f))) .ret F H:=fun F H M N=>nO N (jh M).symm;cases E:within f.aGC 1 4 with
 | false =>
  have:rN f=false:=by simp[rN,E]
  simp only[go_sem,aHM,qQ];exact bad _ _ (by rw[he,this]; simp only[aHA]) rfl
 | true =>
  by_cases s1:f.aFE.length≤4
  ·have j:¬ (f.aFE.length:Int)>4:=Om;by_cases s2:f.aEX.length≤4
   ·have l:¬ (f.aEX.length:Int)>4:=Om;by_cases s3:f.aEZ.length≤40
    ·have u:¬ (f.aEZ.length:Int)>40:=Om;by_cases s4:f.aEW.length≤24
     ·have w:¬ (f.aEW.length:Int)>24:=Om;by_cases J:f.aFA.length≤4
      ·have x:¬ (f.aFA.length:Int)>4:=Om;by_cases K:f.aEY.length≤12
       ·have y:¬ (f.aEY.length:Int)>12:=Om;have A:=Oh ⟨s1,s2,s3,s4,J,K⟩;rw[E] at A;simp only[go_sem,aHB,aGK,j,l,u,w,x,y];refine aB (L.aFG f I) rfl ?_;cases B:pL f with
        | false =>simp only[go_sem,aHM,qQ];exact bad _ _ (by rw[he,B]; simp only[aID,aHA]) rfl
        | true =>
         have O:0<f.aEZ.length:=by
          rcases aIS f.aEZ.length with h | h
          ·have:f.aEZ=[]:=List.eq_nil_of_length_eq_zero h;rw[pL,this] at B;cases B
          ·exact h
         have S:xZ f=bI (f.aFE.all sJ&&f.aEX.all (nG f)&&f.aEW.all (lF f)&&f.aFA.all (kX f.aEX.length)&&f.aEY.all (qI f)&&wU f):=by rw[xZ,he,A,B]; rfl
         rw[S];simp only[go_sem,aHB,R0,R1];have e:=fun F H R=>arM L f I ⟨s1,s2,s3,s4,J,K⟩ O F H R;simp only[Z2,y9,za,zb,zc,zd,aE.wp,go_sem] at e;exact e _ _ ⟨by simp only[go_sem],by simp only[go_sem],by simp only[go_sem],by simp only[go_sem],by simp only[go_sem],by simp only[go_sem],by simp only[go_sem]⟩
       ·have y:(f.aEY.length:Int)>12:=Om;simp only[go_sem,aHB,aGK,j,l,u,w,x,y,qQ];exact bad _ _ (by rw[he,oL Om]; simp only[aHA]) rfl
      ·have x:(f.aFA.length:Int)>4:=Om;simp only[go_sem,aHB,aGK,j,l,u,w,x,qQ];exact bad _ _ (by rw[he,oL Om]; simp only[aHA]) rfl
     ·have w:(f.aEW.length:Int)>24:=Om;simp only[go_sem,aHB,aGK,j,l,u,w,qQ];exact bad _ _ (by rw[he,oL Om]; simp only[aHA]) rfl
    ·have u:(f.aEZ.length:Int)>40:=Om;simp only[go_sem,aHB,aGK,j,l,u,qQ];exact bad _ _ (by rw[he,oL Om]; simp only[aHA]) rfl
   ·have l:(f.aEX.length:Int)>4:=Om;simp only[go_sem,aHB,aGK,j,l,qQ];exact bad _ _ (by rw[he,oL Om]; simp only[aHA]) rfl
  ·have j:(f.aFE.length:Int)>4:=Om;simp only[go_sem,aHB,aGK,j,qQ];exact bad _ _ (by rw[he,oL Om]; simp only[aHA]) rfl
def lvl (f:aC) (i:Nat):Int:=(f.aEZ.map cU.level).getD i 0
def par (f:aC) (i:Nat):Int:=(f.aEZ.map cU.parent).getD i 0
def gY (f:aC) (i:Nat):Nat:=(par f i).toNat
def dL (f:aC) (d:Nat):Nat:=((f.aEW.map dQ.machine).getD d 0).toNat
def mdl (f:aC) (d:Nat):Nat:=((f.aEW.map dQ.model).getD d 0).toNat
def ext (f:aC) (d:Nat):Int:=(f.aEX.map dX.aFN).getD (mdl f d) 0
def xX (f:aC) (v:Nat):Nat:=((f.aEY.map iY.aFJ).getD v 0).toNat
def azI:cW:=⟨[],0,0,0,0,0,0,0,0,[],[],⟨false,[],[]⟩,⟨false,[],[]⟩⟩
def cL (f:aC) (v:Nat):cW:=f.aFA.getD (xX f v) azI
def upN (f:aC):Nat→Nat→Nat
 | 0,i=>i
 | k+1,i=>gY f (upN f k i)
theorem getD_at {α β:Type} {l:List α} {g:α→β} {i:Nat} {b:β} (h:i<l.length):(l.map g).getD i b=g l[i]:=by
 simp[aGU,h]
structure VF (f:aC):Prop where
 small:Small f
 root:0<f.aEZ.length∧lvl f 0=0∧par f 0=-1
 dom:∀ i,0<i→i<f.aEZ.length→0≤par f i∧gY f i<i∧lvl f (gY f i)=lvl f i-1∧1≤lvl f i∧lvl f i≤4
 drive:∀ d (h:d<f.aEW.length),0≤(f.aEW[d]).model∧mdl f d<f.aEX.length∧0≤(f.aEW[d]).machine∧dL f d<f.aEZ.length∧lvl f (dL f d)=4
 aFJ:∀ p∈f.aFA,1≤p.k∧p.k≤6∧0≤p.m∧p.m≤4∧p.k+p.m≤8∧p.s0=0∧(∀ l,0≤p.spread l∧p.spread l≤8)∧∀ m∈p.aEX,0≤m∧m<f.aEX.length
 volume:∀ v (h:v<f.aEY.length),0≤(f.aEY[v]).aFJ∧xX f v<f.aFA.length
 model:∀ m∈f.aEX,1≤m.aFN∧m.aFN≤16
theorem atP {p:cW} {n:Nat} (h:kX n p=true):∀ m∈p.aEX,0≤m∧m<n:=by
 intro m j;simp only[kX,aHC] at h;obtain⟨i,hi,rfl⟩:=aIH j;have:=aIA.1 h.2 i (aHG.2 hi);rw[aHC] at this;have e:=within_iff.1 this.1;simp only[aGU,aGS hi,aJF] at e;omega
theorem jr {x:Int} (e:1≤x) (j:x≤4):IntKind.i64.wrap (x-1)=x-1:=wrap_i64 Om Om
theorem VF.of {f:aC} (h:dE f=true):VF f:=by
 simp only[dE,aHC] at h;obtain⟨⟨⟨U,j⟩,⟨⟨⟨R,A⟩,y⟩,B⟩,E⟩,-⟩:=h;simp only[rN,aHC,decide_eq_true_eq] at U;obtain⟨⟨⟨⟨⟨⟨s0,s1⟩,s2⟩,s3⟩,s4⟩,s5⟩,s6⟩:=U;cases e:f.aEZ with
 | nil=>rw[pL,e] at j; cases j
 | cons r t =>
  rw[pL,e] at j;simp only[SA,aHC,decide_eq_true_eq] at j;obtain⟨⟨⟨⟨⟨⟨r1,r2⟩,r3⟩,r4⟩,r5⟩,r6⟩,x⟩:=j;have S:f.aEZ.length=t.length+1:=by rw[e]; rfl
  refine⟨⟨s1,s2,s3,s4,s5,s6⟩,⟨by omega,by rw[lvl,e]; exact r2,by rw[par,e]; exact r3⟩,?_,?_,?_,?_,?_⟩
  ·intro i h0 hi;obtain⟨k,rfl⟩:∃ k,i=k+1:=⟨i-1,by omega⟩;have I:k<t.length:=Om;have:=aIA.1 x k (aHG.2 I);rw[aGS I] at this;simp only[VV,aHC,decide_eq_true_eq] at this;obtain⟨⟨⟨⟨J,F⟩,K⟩,d4⟩,d5⟩:=this;obtain⟨p0,p1⟩:=within_iff.1 J;obtain⟨W,X⟩:=within_iff.1 K;have u:par f (k+1)=(t[k]).parent:=by rw[par,e]; simp[aGU,I]
   have w:lvl f (k+1)=(t[k]).level:=by rw[lvl,e]; simp[aGU,I]
   rw[jr W X] at F;have Y:lvl f (t[k]).parent.toNat=(t[k]).level-1:=F;refine⟨by rw[u]; exact p0,?_,?_,by rw[w]; exact W,by rw[w]; exact X⟩
   ·rw[gY,u]; omega
   ·rw[gY,u,w]; exact Y
  ·intro d j;have:=aIA.1 y _ (aGP j);simp only[lF,aHC,decide_eq_true_eq] at this;obtain⟨⟨J,F⟩,K⟩:=this;have a1:=within_iff.1 J;have a2:=within_iff.1 F;have u:mdl f d=(f.aEW[d]).model.toNat:=by rw[mdl,getD_at j]
   have w:dL f d=(f.aEW[d]).machine.toNat:=by rw[dL,getD_at j]
   refine⟨a1.1,by rw[u]; omega,a2.1,by rw[w]; omega,by rw[w]; exact K⟩
  ·intro p hp;have M:=aIA.1 B p hp;have Z:=atP M;simp only[kX,ZG,aHC,decide_eq_true_eq,List.all_cons,List.all_nil,aIY] at M;obtain⟨⟨⟨⟨⟨⟨⟨⟨k1,m1⟩,km⟩,q1⟩,z0⟩,sp⟩,-⟩,-⟩,-⟩:=M;obtain⟨g0,g1,g2,g3,g4⟩:=sp;have N:=within_iff.1 k1;have O:=within_iff.1 m1;have b3:=within_iff.1 g0;have b4:=within_iff.1 g1;have b5:=within_iff.1 g2;have b6:=within_iff.1 g3;have b7:=within_iff.1 g4;refine⟨N.1,N.2,O.1,O.2,km,z0,fun l=>?_,Z⟩;unfold cW.spread;split<;>omega
  ·intro v V;have:=aIA.1 E _ (aGP V);have a1:=within_iff.1 this;have u:xX f v=(f.aEY[v]).aFJ.toNat:=by rw[xX,getD_at V]
   exact⟨a1.1,by rw[u]; omega⟩
  ·intro m hm;have:=aIA.1 A m hm;simp only[nG,aHC] at this;exact within_iff.1 this.1.1
theorem GP {f:aC} (h:VF f) {d:Nat} (j:d<f.aEW.length):∀ {k:Nat},k≤4→upN f k (dL f d)<f.aEZ.length∧lvl f (upN f k (dL f d))=4-(k:Int)
 | 0,_=>⟨(h.drive d j).2.2.2.1,by rw[upN,(h.drive d j).2.2.2.2]; rfl⟩
 | k+1,y=>by
  obtain⟨w,u⟩:=GP h j (k:=k) Om;have l:0<upN f k (dL f d):=by
   rcases aIS (upN f k (dL f d)) with e | e
   ·rw[e,h.root.2.1] at u; omega
   ·exact e
  obtain⟨g1,g2,g3,g4,x⟩:=h.dom _ l w;refine⟨by rw[upN]; omega,?_⟩;rw[upN,g3,u]; omega
def iU (f:aC) (d:Nat) (level:Int):Nat:=upN f (4-level.toNat) (dL f d)
def fR (f:aC) (v:Nat):Int:=(cL f v).k+(cL f v).m
def vh:Rg:=[iA 1 (.box true (Tm 0)),iT 2 false]
def vi:Rg:=[iO 3 7 1,iK 4 96 3,iC 5 .eql 4 0,iM 2 5]
def ET:aE:=(sq vh (sq vi .ret))
def afN:List Nat:=[1]
def Lf:bC:=⟨1,6,ET,[.tmp 2]⟩
def Ks:Rg:=[iA 2 (.box true (Tm 0)),iI 4 0]
def Kt:Rd:=[(iF 6 5 2,false),(iL 7 6,false),(iF 8 6 2,false),(iL 9 8,false),(iM 10 1,false),(iX 11 2 9 10,false),(iF 12 1 11,false),(iL 13 12,false),(iX 14 17 7 13,false),(iO 15 17 14,false),(iA 5 (.alloc [(.str []),zI,zI,zI,zI,zI,zI,zI,zI,.aA,.aA,zB,.aA,.aA,zB,.aA,.aA]),true),(iS 17 5 15,true)]
def Ku:Rg:=[iF 16 1 5,iL 17 16,iF 18 2 5,iL 19 18,iB 20 .add 17 19,iM 4 20]
def KW:aE:=(sq Ks (dq Kt (sq Ku .ret)))
def amT:List Nat:=[2]
def Zn:bC:=⟨2,21,KW,[.tmp 4]⟩
def K4:Rg:=[iA 2 (.box true (Tm 0)),iZ 4]
def K5:Rg:=[iO 7 7 2,iK 8 161 7,iA 9 (.un .not (Tm 8))]
def K6:Rg:=[iZ 4]
def K7:Rg:=[iF 10 4 2,iL 11 10,iN 12 11,iA 13 (.aFF 1 8 [zI] (Tm 12) (Tm 12)),iM 5 13]
def K8:Rg:=[iM 14 5,iN 15 14,iI 16 0]
def K9:Rg:=[iB 17 .lss 16 15]
def La:Rg:=[iM 18 16,iM 6 18]
def Lc:Rd:=[(iM 19 5,false),(iM 20 6,false),(iF 21 2 2,false),(iL 22 21,false),(iF 23 4 2,false),(iL 24 23,false),(iM 25 6,false),(iX 26 3 24 25,false),(iF 27 1 26,false),(iL 28 27,false),(iX 29 4 22 28,false),(iF 30 1 29,false),(iL 31 30,false),(iX 32 1 19 20,false),(iS 1 32 31,true)]
def Ld:Rg:=[iM 33 1,iN 34 33,iM 35 5,iN 36 35,iB 37 .eql 34 36]
def Le:Rd:=[(iM 38 5,false),(iM 39 6,false),(iM 40 1,false),(iM 41 6,false),(iX 42 1 40 41,false),(iL 43 42,false),(iA 44 (.aFS true (Tm 43) (Ci 0)),false),(iM 45 5,false),(iM 46 6,false),(iX 47 1 45 46,false),(iL 48 47,false),(iA 49 (.aFS false (Tm 44) (Tm 48)),false),(iX 50 1 38 39,false),(iS 1 50 49,true)]
def QP:Rg:=[iC 51 .add 16 1,iM 16 51]
def u6:aE:=(sq K9 (.seq (.cond (Tm 17) .skip (.exit 0)) (.seq (.block 1 (sq La (dq Lc (sq Ld (.cond (Tm 37) (.draw Le) .skip))))) (.region QP))))
def u7:Rg:=[iM 52 5,iM 4 52]
def KZ:aE:=(sq K4 (.seq (sq K5 (.cond (Tm 9) (sq K6 .ret) .skip)) (sq K7 (.seq (sq K8 (.block 0 (.loop u6))) (sq u7 .ret)))))
def amY:List Nat:=[2]
def TC:bC:=⟨2,53,KZ,[.tmp 4]⟩
def uu:Rg:=[iA 2 (.box true (Tm 0)),iZ 4]
def uv:Rg:=[iF 10 4 2,iL 11 10,iN 12 11,iA 13 (.aFF 1 8 [zI] (Tm 12) (Tm 12)),iM 5 13]
def uw:Rg:=[iM 14 1,iN 15 14,iI 16 0]
def ux:Rg:=[iB 17 .lss 16 15]
def uy:Rg:=[iX 18 1 14 16,iL 19 18,iM 7 19]
def uz:Rg:=[iM 20 7,iN 21 20,iI 22 0]
def u0:Rg:=[iB 23 .lss 22 21]
def CH:Rg:=[iX 24 1 20 22,iL 25 24,iM 9 25]
def CI:Rg:=[iM 26 9,iC 27 .geq 26 0,iM 28 27,gM 29 9 28 true,gM 30 5 28 true,gN 31 30 28 true,gB 32 .lss 29 31 28 true,iP 33 28 32]
def u5:Rg:=[iM 34 5,iM 35 9,iX 36 1 34 35,iL 37 36,iC 38 .add 37 1,iX 39 1 34 35,iS 1 39 38]
def zA:Rg:=[iC 40 .add 22 1,iM 22 40]
def iu:aE:=(sq u0 (.seq (.cond (Tm 23) .skip (.exit 2)) (.seq (.block 3 (sq CH (sq CI (.cond (Tm 33) (.region u5) .skip)))) (.region zA))))
def KX:Rg:=[iC 41 .add 16 1,iM 16 41]
def iv:aE:=(sq ux (.seq (.cond (Tm 17) .skip (.exit 0)) (.seq (.block 1 (sq uy (sq uz (.block 2 (.loop iu))))) (.region KX))))
def KY:Rg:=[iM 42 5,iM 4 42]
def ER:aE:=(sq uu (sq uv (.seq (sq uw (.block 0 (.loop iv))) (sq KY .ret))))
def afI:List Nat:=[2]
def Kw:bC:=⟨2,43,ER,[.tmp 4]⟩
def va:Rg:=[iA 3 (.box true (Tm 0)),iA 6 (.alloc [zI,zI,zI]),iT 7 false]
def vb:Rd:=[(iM 10 1,true),(iM 11 2,true),(iX 12 1 10 11,true),(iL 13 12,true),(iN 14 13,true),(iO 15 7 3,false),(iM 16 2,false),(iK2 17 156 15 16,true),(iB 18 .neq 14 17,false)]
def vd:Rg:=[iM 19 2,iM 20 1,iM 21 2,iX 22 1 20 21,iL 23 22,iN 24 23,iA 25 (.build [zI,zI,zI] [(0,1,(Ci 1)),(1,1,(Tm 19)),(2,1,(Tm 24))]),iS 3 6 25,iT 7 true]
def ve:Rg:=[iM 26 1,iM 27 2,iX 28 1 26 27,iL 29 28,iN 30 29,iI 31 0]
def vf:Rg:=[iB 32 .lss 31 30]
def CJ:Rg:=[iM 33 31,iX 34 1 29 31,iL 35 34,iM 8 33,iM 9 35]
def CK:Rg:=[iM 36 9,iC 37 .lss 36 (-1),iM 38 37,gM 39 9 38 false,gF 40 4 3 38 false,gL 41 40 38 false,gN 42 41 38 false,gB 43 .geq 39 42 38 false,iQ 44 38 43]
def QR:Rg:=[iM 45 2,iM 46 8,iA 47 (.build [zI,zI,zI] [(0,1,(Ci 1)),(1,1,(Tm 45)),(2,1,(Tm 46))]),iS 3 6 47,iT 7 true]
def vg:Rg:=[iC 48 .add 31 1,iM 31 48]
def u9:aE:=(sq vf (.seq (.cond (Tm 32) .skip (.exit 0)) (.seq (.block 1 (sq CJ (sq CK (.cond (Tm 44) (sq QR .ret) .skip)))) (.region vg))))
def ix:Rg:=[iA 49 (.build [zI,zI,zI] []),iS 3 6 49,iT 7 false]
def ES:aE:=(sq va (.seq (dq vb (.cond (Tm 18) (sq vd .ret) .skip)) (.seq (sq ve (.block 0 (.loop u9))) (sq ix .ret))))
def afL:List Nat:=[3]
def QQ:bC:=⟨3,50,ES,[.cell 6 (some 3),.tmp 7]⟩
def vw:Rg:=[iA 5 (.alloc [zI,zI,zI])]
def vx:Rg:=[iM 6 0,iL 7 2,iM 8 1,iA 9 (.build [zI,zI,zI] [(0,1,(Tm 6)),(1,1,(Tm 7)),(2,1,(Tm 8))]),iS 3 5 9]
def EU:aE:=(sq vw (sq vx .ret))
def afP:List Nat:=[]
def Lp:bC:=⟨2,10,EU,[.cell 5 (some 3)]⟩
def Ls:Rg:=[iA 3 (.box true (Tm 0)),iA 5 (.box false (Tm 2)),iZ 6]
def Lt:Rd:=[(iF 25 5 3,false),(iL 26 25,false),(iF 27 6 3,false),(iL 28 27,false),(iL 29 5,false),(iX 30 2 28 29,false),(iF 31 1 30,false),(iL 32 31,false),(iX 33 17 26 32,false),(iO 34 17 33,false),(iA 7 (.alloc [(.str []),zI,zI,zI,zI,zI,zI,zI,zI,.aA,.aA,zB,.aA,.aA,zB,.aA,.aA]),true),(iS 17 7 34,true)]
def Lu:Rg:=[iF 35 2 3,iL 36 35,iN 37 36,iA 38 (.aFF 1 1 [zB] (Tm 37) (Tm 37)),iM 8 38]
def Lw:Rg:=[iF 39 9 7,iL 40 39,iN 41 40,iI 42 0]
def Lx:Rg:=[iB 43 .lss 42 41]
def Ly:Rg:=[iX 44 1 40 42,iL 45 44,iM 10 45]
def Lz:Rg:=[iM 46 8,iM 47 10,iX 48 1 46 47,⟨none,.store 1 (Tm 48) (.const (.bool true)),none⟩]
def L3:Rg:=[iC 49 .add 42 1,iM 42 49]
def Lr:aE:=(sq Lx (.seq (.cond (Tm 43) .skip (.exit 0)) (.seq (.block 1 (sq Ly (.region Lz))) (.region L3))))
def L4:Rg:=[iA 50 (.mkfn 159 [(Tm 5)]),iM 11 50]
def vy:Rg:=[iZ 12,iZ 13]
def vz:Rd:=[(iF 51 4 3,false),(iL 52 51,false),(iN 53 52,false),(iA 54 (.aFF 1 8 [zI] (Tm 53) (Tm 53)),true),(iF 55 3 3,false),(iL 56 55,false),(iN 57 56,false),(iA 58 (.aFF 1 8 [zI] (Tm 57) (Tm 57)),true),(iM 14 54,false),(iM 15 58,false)]
def v6:Rg:=[iM 59 1,iL 60 5,iX 61 1 59 60,iL 62 61,iN 63 62,iI 64 0]
def xM:Rg:=[iB 65 .lss 64 63]
def CM:Rg:=[iM 66 64,iX 67 1 62 64,iL 68 67,iM 16 66,iM 17 68]
def CN:Rg:=[iM 69 17,iC 70 .lss 69 0]
def v8:Rg:=[iM 71 12,iM 72 11,iM 73 16,iA 74 (.aGA (Tm 72) [(Ci 2),(Tm 73)]),iA 75 (.aFC true 3 1 [zI,zI,zI] [(0,(Tm 74))]),iA 76 (.append 3 24 (Tm 71) (Tm 75)),iM 12 76]
def QY:Rg:=[iM 77 8,iF 78 4 3,iL 79 78,iM 80 17,iX 81 3 79 80,iF 82 1 81,iL 83 82,iX 84 1 77 83,iL 85 84,iA 86 (.un .not (Tm 85))]
def wa:Rg:=[iM 87 13,iM 88 11,iM 89 16,iA 90 (.aGA (Tm 88) [(Ci 4),(Tm 89)]),iA 91 (.aFC true 3 1 [zI,zI,zI] [(0,(Tm 90))]),iA 92 (.append 3 24 (Tm 87) (Tm 91)),iM 13 92]
def QZ:Rg:=[iM 93 14,iM 94 17,iX 95 1 93 94,iL 96 95,iC 97 .add 96 1,iX 98 1 93 94,iS 1 98 97]
def RA:Rg:=[iF 99 4 3,iL 100 99,iM 101 17,iX 102 3 100 101,iF 103 2 102,iL 104 103,iM 18 104]
def wb:Rg:=[iM 105 18,iC 106 .gtr 105 0]
def wc:Rg:=[iM 113 15,iM 114 18,iX 115 1 113 114,iL 116 115,iC 117 .add 116 1,iX 118 1 113 114,iS 1 118 117]
def wd:Rg:=[iF 107 3 3,iL 108 107,iM 109 18,iX 110 7 108 109,iF 111 2 110,iL 112 111,iM 18 112]
def CL:aE:=(.seq (sq wb (.cond (Tm 106) .skip (.exit 4))) (.seq (.block 5 (.region wc)) (.region wd)))
def CO:Rg:=[iC 119 .add 64 1,iM 64 119]
def tE:aE:=(sq xM (.seq (.cond (Tm 65) .skip (.exit 2)) (.seq (.block 3 (sq CM (.seq (sq CN (.cond (Tm 70) (sq v8 (.exit 3)) .skip)) (.seq (sq QY (.cond (Tm 86) (.region wa) .skip)) (sq QZ (sq RA (.block 4 (.loop CL)))))))) (.region CO))))
def we:Rg:=[iM 120 12,iM 19 120]
def wg:Rg:=[iM 121 14,iN 122 121,iI 123 0]
def wh:Rg:=[iB 124 .lss 123 122]
def wi:Rg:=[iM 125 123,iX 126 1 121 123,iL 127 126,iM 20 125,iM 21 127]
def wj:Rg:=[iM 128 21,iC 129 .gtr 128 1]
def wk:Rg:=[iM 130 19,iM 131 11,iM 132 20,iA 133 (.aGA (Tm 131) [(Ci 3),(Tm 132)]),iA 134 (.aFC true 3 1 [zI,zI,zI] [(0,(Tm 133))]),iA 135 (.append 3 24 (Tm 130) (Tm 134)),iM 19 135]
def RB:Rg:=[iC 136 .add 123 1,iM 123 136]
def QW:aE:=(sq wh (.seq (.cond (Tm 124) .skip (.exit 6)) (.seq (.block 7 (sq wi (sq wj (.cond (Tm 129) (.region wk) .skip)))) (.region RB))))
def wm:Rg:=[iM 137 19,iM 138 13,iA 139 (.append 3 24 (Tm 137) (Tm 138)),iM 19 139]
def wn:Rg:=[iM 140 15,iN 141 140,iI 142 0]
def wq:Rg:=[iB 143 .lss 142 141]
def wr:Rg:=[iM 144 142,iX 145 1 140 142,iL 146 145,iM 22 144,iM 23 146]
def RC:Rg:=[iF 147 3 3,iL 148 147,iM 149 22,iX 150 7 148 149,iF 151 1 150,iL 152 151,iF 153 4 7,iA 154 (.idxA 5 1 (Tm 153) (Tm 152)),iL 155 154,iM 24 155]
def CP:Rg:=[iM 156 24,iC 157 .gtr 156 0,iM 158 157,gM 159 23 158 true,gM 160 24 158 true,gB 161 .gtr 159 160 158 true,iP 162 158 161]
def wt:Rg:=[iM 163 19,iM 164 11,iM 165 22,iA 166 (.aGA (Tm 164) [(Ci 5),(Tm 165)]),iA 167 (.aFC true 3 1 [zI,zI,zI] [(0,(Tm 166))]),iA 168 (.append 3 24 (Tm 163) (Tm 167)),iM 19 168]
def CQ:Rg:=[iC 169 .add 142 1,iM 142 169]
def QX:aE:=(sq wq (.seq (.cond (Tm 143) .skip (.exit 8)) (.seq (.block 9 (sq wr (sq RC (sq CP (.cond (Tm 162) (.region wt) .skip))))) (.region CQ))))
def wu:Rg:=[iM 170 19,iM 6 170]
def LD:aE:=(sq Ls (dq Lt (sq Lu (.seq (sq Lw (.block 0 (.loop Lr))) (sq L4 (sq vy (dq vz (.seq (sq v6 (.block 2 (.loop tE))) (sq we (.seq (sq wg (.block 6 (.loop QW))) (sq wm (.seq (sq wn (.block 8 (.loop QX))) (sq wu .ret)))))))))))))
def anE:List Nat:=[3,75,91,134,167]
def aoY:bC:=⟨3,171,LD,[.tmp 6]⟩
def Lg:Rg:=[iA 3 (.box true (Tm 0)),iZ 6]
def Lh:Rg:=[iO 15 7 3,iK 16 161 15,iA 17 (.un .not (Tm 16)),iM 14 17]
def Li:Rg:=[iZ 6]
def ZX:Rg:=[iM 19 1,iN 20 19,iF 21 6 3,iL 22 21,iN 23 22,iB 24 .neq 20 23,iM 18 24]
def Lj:Rg:=[iM 25 1,iN 26 25,iA 27 (.build [zI,zI,zI] [(0,1,(Ci 1)),(1,1,(Ci (-1))),(2,1,(Tm 26))]),iA 28 (.aFC true 3 1 [zI,zI,zI] [(0,(Tm 27))]),iM 6 28]
def Lk:Rg:=[iZ 7]
def Ll:Rg:=[iM 29 1,iN 30 29,iI 31 0]
def Lm:Rg:=[iB 32 .lss 31 30]
def Ln:Rg:=[iM 33 31,iM 8 33]
def Lo:Rg:=[iO 35 7 3,iM 36 1,iM 37 8,iA 38 (.call 160 [(Tm 35),(Tm 36),(Tm 37)]),iM 34 38,iE 39 34 0,iE 40 34 1,iA 9 (.alloc [zI,zI,zI]),iS 3 9 39,iM 10 40]
def QT:Rg:=[iM 41 10]
def vk:Rg:=[iM 42 7,iO 43 3 9,iA 44 (.aFC true 3 1 [zI,zI,zI] [(0,(Tm 43))]),iA 45 (.append 3 24 (Tm 42) (Tm 44)),iM 7 45]
def vl:Rg:=[iM 46 7,iO 47 7 3,iM 48 1,iM 49 8,iA 50 (.call 158 [(Tm 47),(Tm 48),(Tm 49)]),iA 51 (.append 3 24 (Tm 46) (Tm 50)),iM 7 51]
def QU:Rg:=[iC 52 .add 31 1,iM 31 52]
def vj:aE:=(sq Lm (.seq (.cond (Tm 32) .skip (.exit 1)) (.seq (.block 2 (sq Ln (.seq (sq Lo (sq QT (.cond (Tm 41) (sq vk (.exit 2)) .skip))) (.region vl)))) (.region QU))))
def vm:Rg:=[iO 53 7 3,iM 54 2,iK2 55 152 53 54,iM 11 55]
def vn:Rg:=[iO 56 7 3,iM 57 1,iK2 58 157 56 57,iN 59 58,iI 60 0]
def vp:Rg:=[iB 61 .lss 60 59]
def vq:Rg:=[iM 62 60,iX 63 1 58 60,iL 64 63,iM 12 62,iM 13 64]
def vr:Rg:=[iM 65 13,iM 66 11,iM 67 12,iX 68 1 66 67,iL 69 68,iB 70 .gtr 65 69]
def vt:Rg:=[iM 71 7,iM 72 12,iA 73 (.build [zI,zI,zI] [(0,1,(Ci 6)),(1,1,(Ci (-1))),(2,1,(Tm 72))]),iA 74 (.aFC true 3 1 [zI,zI,zI] [(0,(Tm 73))]),iA 75 (.append 3 24 (Tm 71) (Tm 74)),iM 7 75]
def QV:Rg:=[iC 76 .add 60 1,iM 60 76]
def QS:aE:=(sq vp (.seq (.cond (Tm 61) .skip (.exit 3)) (.seq (.block 4 (sq vq (sq vr (.cond (Tm 70) (.region vt) .skip)))) (.region QV))))
def vu:Rg:=[iM 77 7,iM 6 77]
def LC:aE:=(sq Lg (.seq (.block 0 (sq Lh (.cond (Tm 14) (sq Li .ret) (sq ZX (.cond (Tm 18) (sq Lj .ret) .skip))))) (sq Lk (.seq (sq Ll (.block 1 (.loop vj))) (sq vm (.seq (sq vn (.block 3 (.loop QS))) (sq vu .ret)))))))
def anC:List Nat:=[3,28,44,74]
def Zo:bC:=⟨3,78,LC,[.tmp 6]⟩
def uq:Rg:=[iA 3 (.box true (Tm 0)),iT 6 false]
def ut:Rg:=[iO 7 7 3,iK 8 161 7,iM 9 8,gO 10 7 3 9 true,gM 11 1 9 true,gM 12 2 9 true,iG 13 (.call 154 [(Tm 10),(Tm 11),(Tm 12)]) 9 true,gN 14 13 9 true,gC 15 .eql 14 0 9 true,iP 16 9 15,iM 6 16]
def EQ:aE:=(sq uq (sq ut .ret))
def afG:List Nat:=[3]
def Kv:bC:=⟨3,17,EQ,[.tmp 6]⟩
theorem afM {C:Ctx} (h:∀ f:aC,f.Ok→aG C 96 [.agg f.cells] .nil (aM (.int .i64 (xZ f)))) (f:aC) (e:f.Ok) :
  ET.wp C (aT Lf.res (cD (.bool (dE f)))) (PF.args [.agg f.cells]) .nil:=by
 simp only[go_sem,ET,vh,vi,Lf];refine aB (h f e) Ev ?_;simp only[go_sem];refine aV Ev ?_;unfold xZ;cases dE f<;>rfl
theorem xB {f:aC} {d:Nat} (h:d<f.aEW.length):(f.aEW.map dQ.cells)[d]?=some (f.aEW[d]).cells:=by simp[h]
theorem HG {f:aC} {d:Nat} (h:d<f.aEZ.length):(f.aEZ.map cU.cells)[d]?=some (f.aEZ[d]).cells:=by simp[h]
theorem uV {f:aC} {d:Nat} (h:d<f.aEY.length):(f.aEY.map iY.cells)[d]?=some (f.aEY[d]).cells:=by simp[h]
theorem rM {f:aC} {d:Nat} (h:d<f.aFA.length):(f.aFA.map cW.cells)[d]?=some (f.aFA[d]).cells:=by simp[h]
theorem acZ {f:aC} {d:Nat} (h:d<f.aEX.length):(f.aEX.map dX.cells)[d]?=some (f.aEX[d]).cells:=by simp[h]
theorem acR {f:aC} {d:Nat} (h:d<f.aEZ.length):(f.aEZ[d]).level=lvl f d:=by rw[lvl,getD_at h]
theorem aeH {f:aC} {d:Nat} (h:d<f.aEZ.length):(f.aEZ[d]).parent=par f d:=by rw[par,getD_at h]
theorem VF.Sa {f:aC} (h:VF f) {d:Nat} (e:d<f.aEW.length):(f.aEW[d]).machine=((dL f d:Nat):Int):=by
 have:=(h.drive d e).2.2.1;rw[dL,getD_at e]; omega
theorem VF.dj {f:aC} (h:VF f) {d:Nat} (e:d<f.aEW.length):(f.aEW[d]).model=((mdl f d:Nat):Int):=by
 have:=(h.drive d e).1;rw[mdl,getD_at e]; omega
theorem VF.QB {f:aC} (h:VF f) {v:Nat} (e:v<f.aEY.length):(f.aEY[v]).aFJ=((xX f v:Nat):Int):=by
 have:=(h.volume v e).1;rw[xX,getD_at e]; omega
theorem VF.U3 {f:aC} (h:VF f) {i:Nat} (e:0<i) (hi:i<f.aEZ.length):par f i=((gY f i:Nat):Int):=by
 have:=(h.dom i e hi).1;rw[gY]; omega
theorem mP {f:aC} (h:VF f) {v:Nat} (j:v<f.aEY.length):∃ e:xX f v<f.aFA.length,f.aFA[xX f v]=cL f v:=by
 have e:=(h.volume v j).2;exact⟨e,by simp[cL,aGU,e]⟩
theorem amS {C:Ctx} (f:aC) (j:VF f) (v:Nat) (h:v<f.aEY.length) :
  KW.wp C (aT Zn.res (cD (.int .i64 (fR f v)))) (PF.args [.agg f.cells,.int .i64 v]) .nil:=by
 obtain⟨l,he⟩:=mP j h;have e:=j.aFJ _ (aGP l);rw[he] at e;have u:IntKind.i64.wrap ((cL f v).k+(cL f v).m)=(cL f v).k+(cL f v).m:=wrap_i64 Om Om;simp only[go_sem,KW,Ks,Zn];refine bP .nil dD a_ ?_;simp only[go_sem,Kt,uV h,j.QB h,rM l,he];refine aQ fun o w=>?_;simp only[go_sem,Ku,u];refine⟨a_,?_⟩;exact nO (n:=(cL f v).k+(cL f v).m) Ev rfl
structure Wd (C:Ctx):Prop where
 valid:∀ f:aC,f.Ok→aG C 161 [.agg f.cells] .nil (aM (.bool (dE f)))
 aiB:∀ (f:aC) (v:Nat),VF f→v<f.aEY.length→aG C 156 [.agg f.cells,.int .i64 v] .nil (aM (.int .i64 (fR f v)))
def pick (n:Nat) (p:Nat→Bool):List Int:=((aGL n).filter p).map fun (i:Nat)=>(i:Int)
theorem hJ (l:List Int):(bY l).length=l.length:=by unfold bY; rw[aGK]
def toS (f:aC):Spec:=fun name vs=>match name,vs with
 | 155,[_,.int _ d,.int _ l]=>some ([],fun _=>aM (.int .i64 (iU f d.toNat l:Nat)))
 | 156,[_,.int _ v]=>some ([],fun _=>aM (.int .i64 (fR f v.toNat)))
 | _,_=>none
theorem amV (f:aC) (v:Nat):toS f 156 [.agg f.cells,.int .i64 v]=some ([],fun _=>aM (.int .i64 (fR f v))):=rfl
section
variable (o s:Nat) (rs:List (List PV))
@[go_sem] theorem aBY (k:IntKind) (n:Int):PV.frz o s rs (.int k n)=.int k n:=(rfl)
@[go_sem] theorem aAG (b:Bool):PV.frz o s rs (.bool b)=.bool b:=(rfl)
@[go_sem] theorem aCC (l:List UInt8):PV.frz o s rs (.str l)=.str l:=(rfl)
@[go_sem] theorem aAH:PV.frz o s rs .aA=.aA:=(rfl)
@[go_sem] theorem aDG (n:Nat) (r:List (List PV)):PV.frz o s rs (.sl n r)=.sl n r:=(rfl)
@[go_sem] theorem aAI (c:List PV):PV.frz o s rs (.cS c)=.cS c:=(rfl)
@[go_sem] theorem aCB (q z i c:Nat):PV.frz o s rs (.ptr q z i c)=.ptr q z i c:=(rfl)
@[go_sem] theorem aDF (n:Nat) (c:List PV):PV.frz o s rs (.fn n c)=.fn n c:=(rfl)
@[go_sem] theorem aBZ (q:Nat):PV.frz o s rs (.map q)=.map q:=(rfl)
@[go_sem] theorem aCA (q z e len:Nat):PV.frz o s rs (.osl q z e len)=if q=o then (if z=s∧e+len≤rs.length then .sl s ((rs.drop e).take len) else .junk) else .osl q z e len:=(rfl)
end
def nP (s:Nat) (rows:List (List PV)) (r:PV) (H:PH):Prop :=
 (rows=[]∧r=.aA∧H=PH.nil)∨∃ q rs,r=.osl q s 0 rows.length∧H=PH.nil.set q (.rows s rs)∧rows.length≤rs.length∧rs.take rows.length=rows
theorem kh (q s:Nat) (rs:List (List PV)):(PH.nil.set q (.rows s rs)).frz q s rs=PH.nil:=PH.ext fun o=>by
 rw[zU];by_cases e:o=q
 ·rw[if_pos e]; rfl
 ·rw[if_neg e,aP,if_neg e]; rfl
section
variable {C:Ctx} {K:cG} {F:PF} {H:PH} {s:Nat} {v:PV} {rows:List (List PV)}
theorem nP.over {r:PV} {H':PH} (h:nP s rows r H') (u:lI H .nil H'):bA (H.over .nil H') s r rows∧∀ o x,H o=some x→(H.over .nil H') o=some x:=by
 rcases h with ⟨e,l,rfl⟩ | ⟨q,rs,e,rfl,h3,h4⟩
 ·rw[PH.kW]; exact⟨.inl ⟨e,l⟩,fun o x h=>h⟩
 ·rw[PH.oH];have hq:H q=none:=u q (.rows s rs) (by simp only[aP,if_true]) rfl;refine⟨.inr ⟨q,rs,e,by simp only[aP,if_true],h3,h4⟩,fun o x j=>?_⟩;have:o≠q:=by rintro rfl; rw[hq] at j; cases j
  simp only[aP,if_neg this,j]
theorem KG {t:Nat} {e:kE} (he:e=.normal∨e=.ret) (h:bA H s v rows) (j:F t=some v):aT [.tmp t] (nP s rows) e F H:=by
 rcases h with ⟨rfl,rfl⟩ | ⟨q,rs,rfl,h1,h2,h3⟩
 ·exact aU (vs:=[.aA]) he .nil (by rw[kY,oJ,j,pH]) a_ (.inl ⟨rfl,rfl,rfl⟩)
 ·exact aU (vs:=[.osl q s 0 rows.length]) he (PH.nil.set q (.rows s rs)) (by rw[kY,oJ,j,pH]) (e_ a_ h1) (.inr ⟨q,rs,rfl,rfl,h2,h3⟩)
theorem GL {t:Nat} {e:kE} (he:e=.normal∨e=.ret) (j:F t=some .aA):aT [.tmp t] (nP s []) e F H:=KG he .nil j
theorem aeO {t:Nat} {e:kE} {r:PV} {H':PH} (he:e=.normal∨e=.ret) (h:nP s rows r H') (l:F t=some r):aT [.tmp t] (nP s rows) e F (H.over .nil H'):=by
 refine aU (vs:=[r]) he H' (by rw[kY,oJ,l,pH]) (fun o x j=>?_) h;rw[pF,j]
theorem aG.freeze {name:Nat} {args:List PV} (h:aG C name args H (nP s rows)):aG C name args H (aM (.sl s rows)) :=
 ⟨h.1,fun E w vs J hW x=>(h.2 E w vs J hW x).mono fun e R he=>by
  obtain⟨u,pv,B,H',rfl,j,A,y,M⟩:=he;rcases M with ⟨rfl,rfl,rfl⟩ | ⟨q,rs,rfl,rfl,h3,h4⟩
  ·exact⟨u,_,B,_,rfl,j,(Co.nil s).sound A,y,rfl,rfl⟩
  ·have N:jF (PF.nil.set 0 (.osl q s 0 rows.length)) (PH.nil.set q (.rows s rs)) _ _:=.step q (s:=s) (rs:=rs) (by simp only[aP,if_true]) (.refl _ _);obtain⟨I,k1,k2,O⟩:=N.sound j;have l:=O (fun _=>u) (fun i p hi=>by
    rw[mR] at hi;split at hi
    ·cases hi; exact A
    ·cases hi) 0 (.sl s rows) (by rw[oF,mR,if_pos rfl,aHS,zQ h3,h4])
   rw[kh] at k1 k2;exact⟨u,_,I,_,rfl,k1,l,y.trans k2,rfl,rfl⟩⟩
theorem eR.of:∀ {E:Env} (ps:List PV) (vs:List Value),vs.length=ps.length→(∀ (i:Nat) p v,ps[i]?=some p→vs[i]?=some v→aS E p v)→eR E ps vs
 | _,[],[],_,_=>.nil
 | _,[],_::_,h,_=>by simp at h
 | _,_::_,[],h,_=>by simp at h
 | _,p::ps,v::vs,h,k=>.cons (k 0 p v rfl rfl) (eR.of ps vs (by simpa using h) fun i q u a b=>k (i+1) q u (by simpa using a) (by simpa using b))
theorem bL.same {E:Env} {w y:World} (hW:bL E H w) (J:w.heap.size≤y.heap.size) (hb:∀ b,b<w.heap.size→H b=none→y.heap[b]?=w.heap[b]?) (I:∀ o x,H o=some x→y.heap[o]?=w.heap[o]?):bL E H y:=by
 have l:∀ b,b<w.heap.size→y.heap[b]?=w.heap[b]?:=fun b hlt=>by
  cases e:H b with
  | none=>exact hb b hlt e
  | some x=>exact I b x e
 refine⟨fun b cs h=>?_,fun o x h=>?_,fun o n h=>?_⟩
 ·obtain⟨j,ty,B,u⟩:=hW.g b cs h;exact⟨j,ty,B,(l b (aKJ.1 u).1).trans u⟩
 ·obtain⟨j,u⟩:=hW.h o x h;exact⟨Nat.lt_of_lt_of_le j J,u.mono (.refl E) (l o j)⟩
 ·obtain⟨A,ty,B,j,u⟩:=hW.s o n h;exact⟨A,ty,B,(l o (aKJ.1 j).1).trans j,u⟩
inductive Plain:PV→Prop
 | int (k:IntKind) (n:Int):Plain (.int k n)
 | bool (b:Bool):Plain (.bool b)
 | str (l:List UInt8):Plain (.str l)
theorem Plain.rep {v:PV} (h:Plain v) {E e:Env} {u:Value} (r:aS E v u):aS e v u:=by
 cases h<;>cases r
 ·exact .int _ _
 ·exact .bool _
 ·exact .str _
theorem aG.aCF {name o:Nat} {rs:List (List PV)} {args:List PV} (X:Plain v) (h:aG C name (args.map (PV.frz o s rs)) .nil (aM v)) :
  aG C name args (PH.nil.set o (.rows s rs)) (fun r H'=>r=v∧H'=PH.nil.set o (.rows s rs)):=by
 refine⟨h.1,fun E w vs O hW I=>?_⟩;have Y:jF (PF.args args) (PH.nil.set o (.rows s rs)) _ _:=.step o (s:=s) (rs:=rs) (by simp only[aP,if_true]) (.refl _ _);obtain⟨M,k1,k2,Z⟩:=Y.sound hW;rw[kh] at k1 k2;have B:=I.len;have J:eR M (args.map (PV.frz o s rs)) vs.toList:=by
  refine eR.of _ _ (by rw[aGK]; exact B) fun i p u U W=>?_;have:=Z (fun i=>(vs.toList[i]?).getD undef) (fun j q N=>by have S:=(aHP.1 N).1;have A:j<vs.toList.length:=Om;simp only[aGS A,aJF];exact I.at_ j q _ N (aGS A)) i p (by rw[oF,args_at,← aHF]; exact U)
  simp only[W,aJF] at this;exact this
 refine (h.2 M w vs (k2.env.num.trans O) k1 J).mono fun e w' he=>?_;obtain⟨u,pv,E2,H2,rfl,R,V,y,rfl,rfl⟩:=he;have l:∀ b,b<w.heap.size→w'.heap[b]?=w.heap[b]?:=fun b hb=>y.block b hb rfl;refine⟨u,pv,E,_,rfl,hW.same y.size (fun b hb _=>l b hb) (fun q x hq=>l q (hW.h q x hq).1),X.rep V,⟨.refl E,y.os,y.tape,y.output,y.size,fun b hb _=>l b hb,fun q x hq=>.inl ⟨x,hq⟩,fun b cs hb=>.inl hb⟩,rfl,rfl⟩
theorem ahJ {Hs:PH} {S:Spec} {name o:Nat} {rs:List (List PV)} {vs:List PV} {R:PH→PV→PH→Prop} {args:List aN} {st:Bool} {d:Option Nat} {K:PF→PH→Prop} (u:S name vs=some ([o],R)) (A:Plain v) (y:H o=some (.rows s rs))
  (h:aG C name (vs.map (PV.frz o s rs)) .nil (aM v)) (e:R (PH.nil.set o (.rows s rs)) v (PH.nil.set o (.rows s rs))) (j:∀ r H',R (PH.nil.set o (.rows s rs)) r H'→r=v∧H'=PH.nil.set o (.rows s rs)) (w:aN.evs F args=some vs) (l:Hs.le H) (x:K (F.put d v) H) :
  dOp C Hs S st (.call name args) d K F H:=HE u y (h.aCF A) e j w l x
theorem ym {name t:Nat} {R:PV→PH→Prop} {d:Option Nat} {K:PF→PH→Prop} (h:aG C name [.sl s rows] .nil R) (x:bA H s v rows) (w:F t=some v)
  (l:∀ (e:PF) (j:PH),(∀ i u,F i=some u→Pure u→e i=some u)→∀ r H',R r H'→lI j .nil H'→K (e.put d r) (j.over .nil H')):gA C name [.tmp t] [] d K F H:=by
 rcases x with ⟨rfl,rfl⟩ | ⟨q,rs,rfl,h1,h2,h3⟩
 ·exact .inl ⟨[.aA],.nil,R,by rw[AG,bw,w,SC]; rfl,a_,h.Zc (.inl ⟨rfl,rfl⟩),l F H fun i u hi _=>hi⟩
 ·refine .inr ⟨_,_,.step q h1 (.refl _ _),[.sl s rows],.nil,R,?_,a_,h,l _ _ fun i u hi y=>?_⟩
  ·simp only[AG,SC,bw,oF,w,aHS,zQ h2,h3,aHY]
  ·rw[oF,hi,aHS,y q s rs]
end
def oE (A:List Int) (k:Nat):List Int:=A.take k++aGM (A.length-k) 0
theorem N0 (A:List Int):oE A 0=aGM A.length 0:=by simp[oE]
theorem Wz (A:List Int):oE A A.length=A:=by simp[oE]
theorem ya (A:List Int) {k:Nat} (h:k≤A.length):(oE A k).length=A.length:=by simp[oE]; omega
theorem W0 (A:List Int) {k:Nat} (h:k<A.length):(oE A k).set k A[k]=oE A (k+1):=by
 unfold oE;rw[aKB _ _ (by simp; omega),aGY,aIT Om,Nat.sub_self,show A.length-k=(A.length-(k+1))+1 by omega,List.replicate_succ,List.set_cons_zero,
  aIR h,aHN]
 rfl
theorem qA (l:List Int) (i:Nat) (x:Int):(bY l).set i [.int .i64 x]=bY (l.set i x):=by unfold bY; rw[List.map_set]
theorem wG (n:Nat):aGM n [PV.int .i64 0]=bY (aGM n 0):=by simp[bY]
theorem sI {l:List Int} {i:Nat} (h:i<l.length):(bY l)[i]?=some [.int .i64 l[i]]:=by simp[bY,h]
theorem Xy (l:List Int):ints l=.sl 1 (bY l):=rfl
def qF (f:aC) (room:List Int) (d:Nat):Int:=if room.length=f.aEW.length then min (max (room.getD d 0) 0) (ext f d) else ext f d
def lO (f:aC) (room:List Int):List Int:=(aGL f.aEW.length).map (qF f room)
def TA (f:aC) (room:List Int):List Int:=if dE f then lO f room else []
theorem xK (f:aC) (room:List Int):(lO f room).length=f.aEW.length:=by simp[lO]
theorem J5 (f:aC) (room:List Int) {d:Nat} (h:d<(lO f room).length):(lO f room)[d]=qF f room d:=by simp[lO]
theorem VF.abH {f:aC} (h:VF f) {d:Nat} (j:d<f.aEW.length):∃ e:mdl f d<f.aEX.length,(f.aEX[mdl f d]).aFN=ext f d:=by
 have e:=(h.drive d j).2.1;exact⟨e,by rw[ext,getD_at e]⟩
def trF (f:aC) (room:List Int) (o k:Nat):PF:=(((((PF.nil.set 1 (ints room)).set 2 (.cS f.cells)).set 5 (.osl o 1 0 f.aEW.length)).set 15 (.int .i64 (f.aEW.length:Nat))).set 16 (.int .i64 k))
theorem asG (a b:Int):(if b<a then b else a)=min a b:=by
 rw[Int.min_def];by_cases h:b<a
 ·rw[if_pos h,if_neg Om]
 ·rw[if_neg h,if_pos Om]
theorem K3 {C:Ctx} (L:Wd C) (f:aC) (N:f.Ok) (room:List Int) :
  KZ.wp C (aT TC.res (nP 1 (bY (TA f room)))) (PF.args [.agg f.cells,ints room]) .nil:=by
 simp only[go_sem,KZ,K4,K5,TC];refine aB (L.valid f N) Ev ?_;unfold TA;cases S:dE f with
 | false =>simp only[go_sem,aHM,K6];exact GL (.inr rfl) Ev
 | true =>
  have hV:=VF.of S;have M:=hV.small.aEW;have F:(f.aEW.length:Int)*((8:Nat):Int)≤140737488355328:=Om;have I:(f.aEW.length:Int)≤9223372036854775807:=Om;simp only[go_sem,aHB,K7,aGK,F,I];refine aQ fun o X=>?_;simp only[go_sem,K8];have u:=xK f room;have E:=fun d h=>J5 f room (d:=d) h;generalize V:lO f room=A at *
  refine wp_loop (α:=Nat) (fun k=>trF f room o k) (fun k=>PH.nil.set o (.rows 1 (bY (oE A k)))) (fun k=>k≤f.aEW.length) (fun k=>f.aEW.length-k) 0 (aGW _) ?_ ?_ ?_
  ·unfold trF;exact Lq
  ·refine e_ a_ ?_;simp only[go_sem];rw[N0,u,wG]
  intro k W;simp only[go_sem,u6,K9,trF];by_cases hlt:k<f.aEW.length
  ·have e:(k:Int)<(f.aEW.length:Nat):=Om;obtain⟨R,he⟩:=hV.abH hlt;have O:=ya A (k:=k) Om;have w:k<A.length:=Om;have U:=sI (l:=oE A k) (i:=k) Om;have j:=W0 A w;rw[E k w] at j;simp only[go_sem,e,La];refine bP .nil dD a_ ?_;simp only[go_sem,Lc,xB hlt,hV.dj hlt,acZ R,he,e,aHE,U];refine⟨a_,?_⟩;simp only[go_sem,Ld,aGK];by_cases c:room.length=f.aEW.length
   ·have y:((room.length:Int)==(f.aEW.length:Int))=true:=bM Om;have x:k<room.length:=Om;have J:(room.map fun n=>[PV.int .i64 n])[k]?=some [.int .i64 room[k]]:=by simp[x]
    simp only[go_sem,y];refine bP .nil dD a_ ?_;have K:(bY ((oE A k).set k (ext f k)))[k]?=some [.int .i64 (ext f k)]:=by rw[← qA,List.getElem?_set_self (by rw[hJ]; omega)]
    simp only[go_sem,Le,J,e,aHE,K,max_eq,asG,List.set_set,qA];refine⟨a_,?_⟩;simp only[go_sem,QP,wZz k];refine aH (k+1) hlt Om ?_ ?_
    ·exact Lq
    ·refine e_ a_ ?_;rw[← j,qF,if_pos c,aGU,aGS x,aJF];simp only[go_sem]
   ·have y:((room.length:Int)==(f.aEW.length:Int))=false:=bB Om;simp only[go_sem,y,QP,wZz k,qA];refine aH (k+1) hlt Om ?_ ?_
    ·exact Lq
    ·refine e_ a_ ?_;rw[← j,qF,if_neg c];simp only[go_sem]
  ·have e:¬ (k:Int)<(f.aEW.length:Nat):=Om;have:k=f.aEW.length:=Om;subst this;simp only[go_sem,e,u7];have B:oE A f.aEW.length=A:=by rw[← u,Wz]
   rw[B];exact KG (.inr rfl) (v:=.osl o 1 0 f.aEW.length) (.inr ⟨o,bY A,by rw[hJ,u],by simp only[go_sem],aGQ _,aGZ (aGQ _)⟩) Sq
abbrev lay (l:List (List Int)):PV:=.sl 1 (l.map fun r=>[ints r])
def eZ (n:Nat) (xs:List Int):List Int:=(aGL n).map fun (d:Nat)=>((xs.count (d:Int):Nat):Int)
theorem kU (n:Nat) (xs:List Int):(eZ n xs).length=n:=by simp[eZ]
theorem Ai (n:Nat):eZ n []=aGM n 0:=by
 refine aJV (by simp[eZ]) fun i e j=>by simp[eZ]
theorem O2 {n:Nat} (xs:List Int) {d:Nat} (h:d<n):(eZ n xs)[d]'(by rw[kU]; exact h)=((xs.count (d:Int):Nat):Int):=by simp[eZ]
theorem O3 {n:Nat} (xs:List Int) {d:Nat} (h:d<n):(eZ n xs).set d (((xs.count (d:Int):Nat):Int)+1)=eZ n (xs++[(d:Int)]):=by
 refine aJV (by simp[eZ]) fun i j l=>?_;simp only[eZ,List.getElem_set,aIN,List.getElem_range,List.count_append];by_cases e:d=i
 ·subst e; simp
 ·have:((d:Nat):Int)≠(i:Int):=Om;rw[if_neg e];simp[List.count_cons,this]
theorem VS {n:Nat} (xs:List Int) {x:Int} (h:¬ (0≤x∧x<n)):eZ n (xs++[x])=eZ n xs:=by
 refine aJV (by simp[eZ]) fun i j e=>?_;simp only[eZ,aIN,List.getElem_range,List.count_append];have hi:i<n:=by simpa [eZ] using e
 have:x≠(i:Int):=Om;simp[List.count_cons,this]
def lG (f:aC) (l:List (List Int)):List Int:=eZ f.aEW.length l.flatten
structure rR (l:List (List Int)):Prop where
 rows:l.length≤16777216
 all:l.flatten.length≤16777216
theorem BK (l:List (List Int)) {i:Nat} (h:i<l.length):(l.take (i+1)).flatten=(l.take i).flatten++l[i]:=by
 rw[aIR h,List.flatten_append];simp only[List.flatten_cons,List.flatten_nil,aHY]
theorem VY (l:List (List Int)) (i:Nat):(l.take i).flatten.length≤l.flatten.length:=by
 have:l.flatten=(l.take i).flatten++(l.drop i).flatten:=by rw[← List.flatten_append,aJH]
 rw[this,aGO]; omega
def Fo (l:List (List Int)) (n o i:Nat):PF:=((((PF.nil.set 5 (.osl o 1 0 n)).set 14 (lay l)).set 15 (.int .i64 (l.length:Nat))).set 16 (.int .i64 i))
def kz (l:List (List Int)) (n o i:Nat) (row:List Int) (k:Nat):PF:=(((((((PF.nil.set 5 (.osl o 1 0 n)).set 14 (lay l)).set 15 (.int .i64 (l.length:Nat))).set 16 (.int .i64 i)).set 20 (ints row)).set 21 (.int .i64 (row.length:Nat))).set 22 (.int .i64 k))
theorem afH {C:Ctx} (f:aC) (hd:f.aEW.length≤24) (l:List (List Int)) (X:rR l) :
  ER.wp C (aT Kw.res (cD (ints (lG f l)))) (PF.args [.agg f.cells,lay l]) .nil:=by
 have M:(f.aEW.length:Int)*((8:Nat):Int)≤140737488355328:=Om;have N:(f.aEW.length:Int)≤9223372036854775807:=Om;obtain⟨Y,Z⟩:=X;simp only[go_sem,ER,uu,uv,Kw,aGK,M,N];refine aQ fun o ho=>?_;simp only[go_sem,uw];generalize hn:f.aEW.length=n at *
 refine wp_loop (α:=Nat) (fun i=>Fo l n o i) (fun i=>PH.nil.set o (.rows 1 (bY (eZ n (l.take i).flatten)))) (fun i=>i≤l.length) (fun i=>l.length-i) 0 (aGW _) ?_ ?_ ?_
 ·unfold Fo
  (repeat' (first|exact d_|refine c_ ?_ ?_))<;>first|(simp only[go_sem,aGK]<;>rfl)|rfl
 ·refine e_ a_ ?_;simp only[go_sem,List.take_zero,List.flatten_nil];rw[Ai,wG]
 intro i hi;simp only[go_sem,iv,ux,Fo];by_cases hlt:i<l.length
 ·have j:(i:Int)<(l.length:Nat):=Om;have hr:(l.map fun r=>[ints r])[i]?=some [ints l[i]]:=by simp[hlt]
  have I:=BK l hlt;have O:=VY l (i+1);rw[I,aGO] at O;generalize S:l[i]=row at *
  simp only[go_sem,j,uy,hr,uz,aGK];refine wp_loop (α:=Nat) (fun k=>kz l n o i row k) (fun k=>PH.nil.set o (.rows 1 (bY (eZ n ((l.take i).flatten++row.take k))))) (fun k=>k≤row.length) (fun k=>row.length-k) 0 (aGW _) ?_ ?_ ?_
  ·unfold kz
   (repeat' (first|exact d_|refine c_ ?_ ?_))<;>first|(simp only[go_sem,aGK]<;>rfl)|rfl
  ·rw[List.take_zero,aHY];exact b_
  intro k hk;simp only[go_sem,iu,u0,kz];by_cases y:k<row.length
  ·have e:(k:Int)<(row.length:Nat):=Om;have A:(row.map fun n=>[PV.int .i64 n])[k]?=some [.int .i64 row[k]]:=by simp[y]
   have B:(l.take i).flatten++row.take (k+1)=((l.take i).flatten++row.take k)++[row[k]]:=by rw[aIR y,aHN]
   have fin:∀ (F:PF),(kz l n o i row (k+1)).le F→∀ H:PH,H o=some (.rows 1 (bY (eZ n ((l.take i).flatten++row.take (k+1))))) →
     jE (fun k=>kz l n o i row k) (fun k=>PH.nil.set o (.rows 1 (bY (eZ n ((l.take i).flatten++row.take k))))) (fun k=>k≤row.length) (fun k=>row.length-k) (row.length-k)
      (fF 2 (fF 1 (kL C (aE.wp C (.region KX)) (jE (fun i=>Fo l n o i) (fun i=>PH.nil.set o (.rows 1 (bY (eZ n (l.take i).flatten)))) (fun i=>i≤l.length) (fun i=>l.length-i) (l.length-i) (fF 0 (kL C (aE.wp C (.seq (.region KY) .ret)) (aT [.tmp 4] (cD (ints (lG f l)))))))))) .normal F H:=by
    intro F U H V;exact aH (k+1) y Om U (e_ a_ V)
   unfold kz Fo at fin;generalize hx:row[k]=x at *
   by_cases K:x≥0
   ·by_cases R:x<(n:Nat)
    ·obtain⟨d,rfl⟩:∃ d:Nat,x=d:=⟨x.toNat,by omega⟩;have w:d<n:=Om;have E:=sI (l:=eZ n ((l.take i).flatten++row.take k)) (i:=d) (by rw[kU]; exact w);rw[O2 _ w] at E;have W:((l.take i).flatten++row.take k).count (d:Int)≤16777216:=by refine aJC (List.count_le_length ..) ?_;rw[aGO,aGY]; omega
     have J:=O3 ((l.take i).flatten++row.take k) w;rw[← B] at J;have hw:IntKind.i64.wrap (((((l.take i).flatten++row.take k).count (d:Int):Nat):Int)+1)=((((l.take i).flatten++row.take k).count (d:Int):Nat):Int)+1:=wrap_i64 Om Om;simp only[go_sem,e,CH,A,CI,K,R,u5,aHE,E,hw,zA,qA,J,wZz k];exact fin _ Lq _ Sq
    ·have u:=VS (n:=n) ((l.take i).flatten++row.take k) (x:=x) Om;simp only[go_sem,e,CH,A,CI,K,R,zA,wZz k];exact fin _ Lq _ (by rw[B,u]; simp only[go_sem])
   ·have u:=VS (n:=n) ((l.take i).flatten++row.take k) (x:=x) Om;simp only[go_sem,e,CH,A,CI,K,zA,wZz k];exact fin _ Lq _ (by rw[B,u]; simp only[go_sem])
  ·have e:¬ (k:Int)<(row.length:Nat):=Om;have:k=row.length:=Om;subst this;simp only[go_sem,e,KX,wZz i,aHV];refine aH (i+1) hlt Om ?_ ?_
   ·exact Lq
   ·refine e_ a_ ?_;rw[I];simp only[go_sem]
 ·have j:¬ (i:Int)<(l.length:Nat):=Om;have:i=l.length:=Om;subst this;simp only[go_sem,j,KY,aHV];refine J4 (.inr rfl) (o:=o) (s:=1) (k:=n) (rs:=bY (eZ n l.flatten)) Sq Sq (by rw[hJ,kU]; omega) ⟨?_,rfl⟩;rw[Xy,aGZ (by rw[hJ,kU]; omega),lG,hn];exact .refl _
structure zu (C:Ctx):Prop extends Wd C where
 room:∀ (f:aC) (room:List Int),f.Ok→aG C 152 [.agg f.cells,ints room] .nil (aM (ints (TA f room)))
 loads:∀ (f:aC) (l:List (List Int)),f.aEW.length≤24→rR l→aG C 157 [.agg f.cells,lay l] .nil (aM (ints (lG f l)))
structure kF where
 kind:Int
 vol:Int
 wher:Int
abbrev kF.cells (x:kF):List PV:=[.int .i64 x.kind,.int .i64 x.vol,.int .i64 x.wher]
abbrev Z6 (l:List kF):PV:=.sl 3 (l.map kF.cells)
def kV (p:Int→Bool):List Int→Nat→Option Nat
 | [],_=>none
 | x::t,i=>if p x then some i else kV p t (i+1)
def tU (f:aC) (d:Int):Bool:=decide (d < -1)||decide (d≥(f.aEW.length:Nat))
def uQ (f:aC) (l:List (List Int)) (v:Nat):Option kF :=
 if ((l.getD v []).length:Int)=fR f v then (kV (tU f) (l.getD v []) 0).map fun (i:Nat)=>⟨1,v,i⟩ else some ⟨1,v,((l.getD v []).length:Nat)⟩
def shV:Option kF→PV
 | some x=>.tup [.agg x.cells,.bool true]
 | none=>.tup [.agg [.int .i64 0,.int .i64 0,.int .i64 0],.bool false]
def amZ (f:aC) (o:Nat) (v:Nat) (row:List Int) (k:Nat):PF:=((((((PF.nil.set 2 (.int .i64 v)).set 3 (.cS f.cells)).set 6 (.ptr o 3 0 0)).set 29 (ints row)).set 30 (.int .i64 (row.length:Nat))).set 31 (.int .i64 k))
theorem afK {C:Ctx} (L:zu C) (f:aC) (hV:VF f) (l:List (List Int)) (O:rR l) (v:Nat) (E:v<l.length) (I:v<f.aEY.length) :
  ES.wp C (aT QQ.res (cD (shV (uQ f l v)))) (PF.args [.agg f.cells,lay l,.int .i64 v]) .nil:=by
 have B:(l.map fun r=>[ints r])[v]?=some [ints l[v]]:=by simp[E]
 have N:l.getD v []=l[v]:=by simp[aGU,E]
 have R:(l[v]).length≤16777216:=by have J:=VY l (v+1);have:=O.all;rw[BK l E,aGO] at J;omega
 unfold uQ;rw[N];simp only[go_sem,ES,va];refine aQ fun o U=>?_;simp only[go_sem];refine bP .nil (toS f) a_ ?_;generalize l[v]=row at *
 have fin:∀ (x:kF) (F:PF) (H:PH),F 6=some (.ptr o 3 0 0)→F 7=some (.bool true)→H o=some (.rows 3 [x.cells])→aT QQ.res (cD (shV (some x))) .ret F H:=by intro x F H K h7 M;refine aU (.inr rfl) .nil (vs:=[.agg x.cells,.bool true]) ?_ a_ ⟨.refl _,rfl⟩;simp only[go_sem,QQ,K,h7,M]
 simp only[go_sem,vb,B,aGK];refine dP (amV f v) (L.aiB f v hV I) rfl a_ ?_;by_cases c:(row.length:Int)=fR f v
 ·rw[if_pos c];simp only[go_sem,cK c,ve,B,aGK];refine wp_loop (α:=Nat) (fun k=>amZ f o v row k) (fun k=>PH.nil.set o (.rows 3 [[.int .i64 0,.int .i64 0,.int .i64 0]])) (fun k=>k≤row.length∧kV (tU f) row 0=kV (tU f) (row.drop k) k) (fun k=>row.length-k) 0 ⟨aGW _,rfl⟩ ?_ b_ ?_
  ·unfold amZ
   (repeat' (first|exact d_|refine c_ ?_ ?_))<;>first|(simp only[go_sem,aGK]<;>rfl)|rfl
  rintro k ⟨S,hb⟩;simp only[go_sem,u9,vf,amZ];by_cases hlt:k<row.length
  ·have e:(k:Int)<(row.length:Nat):=Om;have u:(row.map fun n=>[PV.int .i64 n])[k]?=some [.int .i64 row[k]]:=by simp[hlt]
   have A:kV (tU f) (row.drop k) k=if tU f row[k] then some k else kV (tU f) (row.drop (k+1)) (k+1):=by rw[aIZ hlt,kV]
   rw[A] at hb;by_cases w:row[k] < -1
   ·have j:tU f row[k]=true:=by simp[tU,w]
    rw[j] at hb;simp only[go_sem,e,CJ,u,CK,w,QR];rw[hb];exact fin ⟨1,v,k⟩ _ _ rfl rfl Sq
   ·by_cases y:row[k]≥(f.aEW.length:Nat)
    ·have j:tU f row[k]=true:=by simp[tU,y]
     rw[j] at hb;simp only[go_sem,e,CJ,u,CK,w,aGK,y,QR];rw[hb];exact fin ⟨1,v,k⟩ _ _ rfl rfl Sq
    ·have j:tU f row[k]=false:=by simp[tU]; omega
     rw[j] at hb;simp only[go_sem,e,CJ,u,CK,w,aGK,y,vg,wZz k];refine aH (k+1) ⟨hlt,hb⟩ Om ?_ b_;exact Lq
  ·have e:¬ (k:Int)<(row.length:Nat):=Om;have:k=row.length:=Om;subst this;rw[List.drop_length,kV] at hb;simp only[go_sem,e,ix];rw[hb];refine aU (.inr rfl) .nil (vs:=[.agg [.int .i64 0,.int .i64 0,.int .i64 0],.bool false]) ?_ a_ ⟨.refl _,rfl⟩;simp only[go_sem,QQ]
 ·rw[if_neg c];simp only[go_sem,dN c,vd,B,aGK];exact fin ⟨1,v,(row.length:Nat)⟩ _ _ rfl rfl Sq
structure aaM (C:Ctx):Prop extends zu C where
 shape:∀ (f:aC) (l:List (List Int)) (v:Nat),VF f→rR l→v<l.length→v<f.aEY.length→aG C 160 [.agg f.cells,lay l,.int .i64 v] .nil (aM (shV (uQ f l v)))
section
variable {C:Ctx} {F:PF} {H:PH}
theorem zH {name:Nat} {vs cs:List PV} {r:PV} {j:PH} {args:List aN} {d:Option Nat} {K:PF→PH→Prop} (h:aG C name (vs++cs) j (fun l H'=>l=r∧H'=j)) (u:aN.evs F args=some vs) (e:j.le H)
  (w:K (F.put d r) H):gA C name args cs d K F H:=by
 refine .inl ⟨vs++cs,j,_,by rw[u]; rfl,e,h,?_⟩;rintro l H' ⟨rfl,rfl⟩ -;rw[PH.over_self _ e];exact w
theorem bA.ne {s s':Nat} {v:PV} {rows:List (List PV)} {o:Nat} {y:List (List PV)} (h:bA H s v rows) (w:H o=some (.rows s' y)) (x:s≠s'):∀ l,v≠.osl o s 0 l:=by
 intro l e;rcases h with ⟨_,j⟩ | ⟨q,rs,h1,j,_⟩
 ·rw[j] at e; cases e
 ·rw[h1] at e;injection e with u
  subst u;rw[w] at j;injection j with j
  injection j with j
  exact x j.symm
theorem bA.set {s s':Nat} {v:PV} {rows:List (List PV)} {o:Nat} {y:List (List PV)} {x:bG} (h:bA H s v rows) (u:H o=some (.rows s' y)) (w:s≠s'):bA (H.set o x) s v rows:=by
 have l:=h.ne u w;rcases h with ⟨e,j⟩ | ⟨q,rs,e,j,h3,h4⟩
 ·exact .inl ⟨e,j⟩
 ·refine .inr ⟨q,rs,e,?_,h3,h4⟩;have:q≠o:=by rintro rfl; exact l _ e
  simp only[aP,if_neg this,j]
def Dis (s:Nat) (v u:PV):Prop:=∀ q l e j,v=.osl q s 0 l→u=.osl e s 0 j→q≠e
theorem Dis.nil {s:Nat}:Dis s .aA .aA:=fun _ _ _ _ h=>by cases h
theorem Dis.symm {s:Nat} {v u:PV} (h:Dis s v u):Dis s u v:=fun q l x w e j=>(h x w q l j e).symm
theorem nA {s b:Nat} {v u y:PV} {rows rows' src:List (List PV)} {K:PV→PH→Prop} (h:bA H s v rows) (N:bA H s u rows') (R:Dis s v u) (X:dH H s y=some src) (W:roomFor rows.length src.length b)
  (S:∀ v' H',bA H' s v' (rows++src)→bA H' s u rows'→Dis s v' u→(∀ o s' z,s≠s'→H o=some (.rows s' z)→H' o=some (.rows s' z))→K v' H'):mS H s b v y K:=by
 have A:∀ {H':PH} {t:PV} {r:List (List PV)},bA H s t r→(∀ o x,H o=some x→(∀ l,t=.osl o s 0 l→False)∨H' o=some x)→bA H' s t r:=by
  intro H' t r ht hp;rcases ht with ⟨a,b⟩ | ⟨q,rs,a,b,c,d⟩
  ·exact .inl ⟨a,b⟩
  ·refine .inr ⟨q,rs,a,?_,c,d⟩;rcases hp q _ b with e | e
   ·exact (e _ a).elim
   ·exact e
 have gone:∀ {o:Nat} {x:bG},H o=none→H o=some x→False:=fun a b=>by rw[a] at b; cases b
 have O:∀ {o:Nat} {l:Nat},u=.osl o s 0 l→∃ x,H o=some x:=by
  intro o l e;rcases N with ⟨a,b⟩ | ⟨q,rs,a,b,c,d⟩
  ·rw[b] at e; cases e
  ·rw[a] at e; injection e with e; subst e; exact⟨_,b⟩
 rcases h with ⟨rfl,rfl⟩ | ⟨q,rs,rfl,h1,h2,h3⟩
 ·refine⟨src,X,W,fun e=>?_,fun e o M=>?_⟩
  ·subst e;exact S _ _ (.inl ⟨rfl,rfl⟩) N R fun o s' z _ j=>j
  ·refine S _ _ (.inr ⟨o,src,rfl,by simp only[aP,if_true],aGQ _,by simp⟩) (A N fun w x E=>.inr ?_) ?_ fun w s' z _ j=>?_
   ·have:w≠o:=by rintro rfl; exact gone M E
    simp only[aP,if_neg this,E]
   ·intro q l Z Y B I;injection B with B
    subst B;rintro rfl;obtain⟨x,E⟩:=O I;exact gone M E
   ·have:w≠o:=by rintro rfl; exact gone M j
    simp only[aP,if_neg this,j]
 ·have J:(rows++src).length=rows.length+src.length:=aGO;refine⟨src,X,rfl,rfl,W,rs,h1,h2,?_,fun o M=>?_⟩
  ·rw[h3];refine S _ _ (.inr ⟨q,rows++src,by rw[J],by simp only[aP,if_true],aGQ _,aHV⟩) (A N fun w x E=>?_) ?_ fun w s' z V j=>?_
   ·by_cases e:w=q
    ·exact .inl fun l U=>R q _ w l rfl U e.symm
    ·exact .inr (by simp only[aP,if_neg e,E])
   ·intro q1 l Z Y B I;injection B with B
    subst B;exact R _ _ _ _ rfl I
   ·have:w≠q:=by
     rintro rfl;rw[h1] at j;injection j with j
     injection j with j
     exact V j
    simp only[aP,if_neg this,j]
  ·rw[h3];refine S _ _ (.inr ⟨o,rows++src,by rw[J],by simp only[aP,if_true],aGQ _,aHV⟩) (A N fun w x E=>?_) ?_ fun w s' z V j=>?_
   ·by_cases e:w=q
    ·exact .inl fun l U=>R q _ w l rfl U e.symm
    ·have I:w≠o:=by rintro rfl; exact gone M E
     exact .inr (by simp only[aP,if_neg e,if_neg I,E])
   ·intro q1 l Z Y B I;injection B with B
    subst B;rintro rfl;obtain⟨x,E⟩:=O I;exact gone M E
   ·have B:w≠q:=by
     rintro rfl;rw[h1] at j;injection j with j
     injection j with j
     exact V j
    have I:w≠o:=by rintro rfl; exact gone M j
    simp only[aP,if_neg B,if_neg I,j]
end
abbrev eY (l:List kF):List (List PV):=l.map kF.cells
def cT (kind v:Int) (n:Nat) (p:Nat→Bool):List kF:=((aGL n).filter p).map fun (i:Nat)=>⟨kind,v,i⟩
theorem qH (kind v:Int) (n:Nat) (p:Nat→Bool):cT kind v (n+1) p=if p n then cT kind v n p++[⟨kind,v,n⟩] else cT kind v n p:=by
 unfold cT;rw[aJA,List.filter_append,aHX];by_cases h:p n
 ·rw[if_pos h]; simp[h]
 ·rw[if_neg h]; simp[h]
theorem hZ (kind v:Int) (n:Nat) (p:Nat→Bool):(cT kind v n p).length≤n:=by
 unfold cT;rw[aGK];exact aJC (List.length_filter_le _ _) (by simp)
theorem mB (l:List kF):(eY l).length=l.length:=by simp[eY]
theorem rA (l:List kF) (x:kF):eY l++[x.cells]=eY (l++[x]):=by simp[eY]
def Jk (o5:Nat) (v:Nat):PH:=PH.nil.set o5 (.rows 1 [[.int .i64 v]])
theorem afO {C:Ctx} (o5 v:Nat) (k w:Int):EU.wp C (aT Lp.res (fun r H'=>r=.agg [.int .i64 k,.int .i64 v,.int .i64 w]∧H'=Jk o5 v)) (PF.args [.int .i64 k,.int .i64 w,.ptr o5 1 0 0]) (Jk o5 v):=by
 simp only[go_sem,EU,vw,Jk];refine aQ fun o j=>?_;have e:o5≠o:=by rintro rfl; simp only[aP,if_true] at j; cases j
 simp only[go_sem,vx,e];refine aU (.inr rfl) (PH.nil.set o5 (.rows 1 [[.int .i64 v]])) (vs:=[.agg [.int .i64 k,.int .i64 v,.int .i64 w]]) ?_ (e_ a_ ?_) ⟨rfl,rfl⟩
 ·simp only[go_sem,Lp]
 ·simp only[go_sem,e]
def rV (f:aC) (i:Nat) (d:Int):Bool:=decide (0≤d)&&decide (iU f d.toNat (lvl f i)=i)
def mW (f:aC) (xs:List Int) (i:Nat):Int:=if i=0 then 0 else ((xs.countP (rV f i):Nat):Int)
def eX (f:aC) (xs:List Int):List Int:=(aGL f.aEZ.length).map (mW f xs)
def sD (f:aC) (xs:List Int) (d:Nat) (k:Nat):List Int:=(aGL f.aEZ.length).map fun i=>if 4-(k:Int)<lvl f i then mW f (xs++[(d:Int)]) i else mW f xs i
theorem xA (f:aC) (xs:List Int):(eX f xs).length=f.aEZ.length:=by simp[eX]
theorem VF.qB {f:aC} (h:VF f) {i:Nat} (hi:i<f.aEZ.length):0≤lvl f i∧lvl f i≤4∧(lvl f i=0↔i=0):=by
 rcases aIS i with e | e
 ·subst e; rw[h.root.2.1]; simp
 ·have:=h.dom i e hi;omega
theorem aaY {f:aC} (h:VF f) (xs:List Int) (d:Nat):sD f xs d 0=eX f xs:=by
 refine aJV (by simp[sD,eX]) fun i j e=>?_;simp only[sD,eX,aIN,List.getElem_range];have hi:i<f.aEZ.length:=by simpa [eX] using e
 have:=h.qB hi;rw[if_neg Om]
theorem aaX {f:aC} (h:VF f) (xs:List Int) (d:Nat):sD f xs d 4=eX f (xs++[(d:Int)]):=by
 refine aJV (by simp[sD,eX]) fun i l j=>?_;simp only[sD,eX,aIN,List.getElem_range];have hi:i<f.aEZ.length:=by simpa [eX] using j
 have:=h.qB hi;by_cases e:i=0
 ·subst e;rw[if_neg Om];simp[mW]
 ·rw[if_pos Om]
theorem ny (f:aC) (xs:List Int) (d:Nat) {i:Nat} (hi:i≠0):mW f (xs++[(d:Int)]) i=mW f xs i+if iU f d (lvl f i)=i then 1 else 0:=by
 unfold mW;rw[if_neg hi,if_neg hi,List.countP_append];by_cases h:iU f d (lvl f i)=i
 ·rw[if_pos h]; simp[rV,h]
 ·rw[if_neg h]; simp[rV,h]
theorem apZ {f:aC} (h:VF f) (xs:List Int) {d:Nat} (y:d<f.aEW.length) {k:Nat} (E:k<4) :
  (sD f xs d k)[upN f k (dL f d)]?=some (mW f xs (upN f k (dL f d))) ∧
  (sD f xs d k).set (upN f k (dL f d)) (mW f xs (upN f k (dL f d))+1)=sD f xs d (k+1):=by
 obtain⟨A,w⟩:=GP h y (k:=k) Om;constructor
 ·simp only[sD,aHF,aJI A,aHS];rw[if_neg Om]
 ·refine aJV (by simp[sD]) fun i B x=>?_;have hi:i<f.aEZ.length:=by simpa [sD] using x
  simp only[sD,List.getElem_set,aIN,List.getElem_range];have I:=h.qB hi;by_cases e:upN f k (dL f d)=i
  ·rw[if_pos e];subst e;rw[if_pos Om];have j:upN f k (dL f d)≠0:=by intro e; rw[e,h.root.2.1] at w; omega
   rw[ny f xs d j,iU,w];have:4-(4-(k:Int)).toNat=k:=Om;rw[this,if_pos rfl]
  ·rw[if_neg e];by_cases c:4-(k:Int)<lvl f i
   ·rw[if_pos c,if_pos Om]
   ·rw[if_neg c];by_cases l:4-((k+1:Nat):Int)<lvl f i
    ·rw[if_pos l];have u:lvl f i=4-(k:Int):=Om;have j:i≠0:=by intro e; subst e; rw[h.root.2.1] at u; omega
     rw[ny f xs d j,iU,u];have:4-(4-(k:Int)).toNat=k:=Om;rw[this,if_neg e]; simp
    ·rw[if_neg l]
theorem apY (f:aC) (xs:List Int) (i:Nat):0≤mW f xs i∧mW f xs i≤xs.length:=by
 unfold mW;have:=List.countP_le_length (p:=rV f i) (l:=xs);split<;>omega
structure FU (C:Ctx):Prop extends aaM C where
 bad:∀ (o5 v:Nat) (k w:Int),aG C 159 [.int .i64 k,.int .i64 w,.ptr o5 1 0 0] (Jk o5 v) (fun r H'=>r=.agg [.int .i64 k,.int .i64 v,.int .i64 w]∧H'=Jk o5 v)
structure Obs where
 o5:Nat
 o7:Nat
 o8:Nat
 oD:Nat
 oB:Nat
structure Obs.Ne (o:Obs):Prop where
 a1:o.o5≠o.oD
 a2:o.o5≠o.oB
 a3:o.o7≠o.oD
 a4:o.o7≠o.oB
 a5:o.o8≠o.oD
 a6:o.o8≠o.oB
 a7:o.oD≠o.oB
structure kR (H:PH) (o:Obs) (v:Nat) (p:cW) (A:List Bool) (D B:List Int):Prop where
 h5:H o.o5=some (.rows 1 [[.int .i64 v]])
 h7:H o.o7=some (.rows 17 [p.cells])
 h8:H o.o8=some (.rows 1 (bF A))
 hD:H o.oD=some (.rows 1 (bY D))
 hB:H o.oB=some (.rows 1 (bY B))
theorem kR.keep {H H':PH} {o:Obs} {v:Nat} {p:cW} {A:List Bool} {D B:List Int} (h:kR H o v p A D B) (e:∀ q s' z,3≠s'→H q=some (.rows s' z)→H' q=some (.rows s' z)):kR H' o v p A D B :=
 ⟨e _ _ _ (by decide) h.h5,e _ _ _ (by decide) h.h7,e _ _ _ (by decide) h.h8,e _ _ _ (by decide) h.hD,e _ _ _ (by decide) h.hB⟩
theorem kR.aCP {H:PH} {o:Obs} {v:Nat} {p:cW} {A:List Bool} {D B:List Int} (h:kR H o v p A D B) (e:o.Ne) (B':List Int):kR (H.set o.oB (.rows 1 (bY B'))) o v p A D B' :=
 ⟨by simp only[aP,if_neg e.a2,h.h5],by simp only[aP,if_neg e.a4,h.h7],by simp only[aP,if_neg e.a6,h.h8],by simp only[aP,if_neg e.a7,h.hD],by simp only[aP,if_true]⟩
theorem kR.aCQ {H:PH} {o:Obs} {v:Nat} {p:cW} {A:List Bool} {D B:List Int} (h:kR H o v p A D B) (e:o.Ne) (j:List Int):kR (H.set o.oD (.rows 1 (bY j))) o v p A j B :=
 ⟨by simp only[aP,if_neg e.a1,h.h5],by simp only[aP,if_neg e.a3,h.h7],by simp only[aP,if_neg e.a5,h.h8],by simp only[aP,if_true],by simp only[aP,if_neg (Ne.symm e.a7),h.hB]⟩
def lP (f:aC) (o:Obs) (e j:PV) (row:List Int) (k:Nat):PF :=
 ((((((((((((PF.nil.set 3 (.cS f.cells)).set 5 (.ptr o.o5 1 0 0)).set 7 (.ptr o.o7 17 0 0)).set 8 (.osl o.o8 1 0 f.aEX.length)).set 11 (.fn 159 [.ptr o.o5 1 0 0])).set 12 (e)).set 13 (j)).set 14 (.osl o.oD 1 0 f.aEW.length)).set 15 (.osl o.oB 1 0 f.aEZ.length)).set 62 (ints row)).set 63 (.int .i64 (row.length:Nat))).set 64 (.int .i64 k))
def Y8 (f:aC) (o:Obs) (e j:PV) (row:List Int) (k:Nat) (at_:Nat):PF :=
 (((((((((((((PF.nil.set 3 (.cS f.cells)).set 5 (.ptr o.o5 1 0 0)).set 7 (.ptr o.o7 17 0 0)).set 8 (.osl o.o8 1 0 f.aEX.length)).set 11 (.fn 159 [.ptr o.o5 1 0 0])).set 12 (e)).set 13 (j)).set 14 (.osl o.oD 1 0 f.aEW.length)).set 15 (.osl o.oB 1 0 f.aEZ.length)).set 62 (ints row)).set 63 (.int .i64 (row.length:Nat))).set 64 (.int .i64 k)).set 18 (.int .i64 at_))
theorem awM {C:Ctx} (f:aC) (hV:VF f) (o:Obs) (hn:o.Ne) (v:Nat) (p:cW) (A:List Bool) (D:List Int) (l u:PV) (w x:List (List PV)) (row:List Int) (k:Nat) (xs:List Int) (γ:xs.length≤16777216) (d:Nat) (V:d<f.aEW.length) (K:cG) (F:PF) (H:PH)
  (Z:(Y8 f o l u row k (dL f d)).le F) (hH:kR H o v p A D (eX f xs)) (J:bA H 3 l w) (M:bA H 3 u x)
  (hK:∀ U H',(lP f o l u row k).le U→kR H' o v p A D (eX f (xs++[(d:Int)]))→bA H' 3 l w→bA H' 3 u x→K .normal U H') :
  aE.wp C (.block 4 (.loop CL)) K F H:=by
 simp only[go_sem];refine wp_loop (α:=Nat × PH) (fun t=>Y8 f o l u row k (upN f t.1 (dL f d))) (fun t=>t.2) (fun t=>t.1≤4∧kR t.2 o v p A D (sD f xs d t.1)∧bA t.2 3 l w∧bA t.2 3 u x) (fun t=>4-t.1) (0,H) ⟨aGW _,by rw[aaY hV]; exact hH,J,M⟩ (by rw[upN]; exact Z) b_ ?_;rintro⟨j,H0⟩ ⟨W,E,y,B⟩;simp only at W E y B ⊢;obtain⟨I,u2⟩:=GP hV V (k:=j) W;simp only[go_sem,CL,wb,Y8];by_cases hlt:j<4
 ·have S:0<upN f j (dL f d):=by
   rcases aIS (upN f j (dL f d)) with e | e
   ·rw[e,hV.root.2.1] at u2; omega
   ·exact e
  have O:((upN f j (dL f d):Nat):Int)>0:=Om;obtain⟨X,Y⟩:=apZ hV xs V hlt;have N:(bY (sD f xs d j))[upN f j (dL f d)]?=some [.int .i64 (mW f xs (upN f j (dL f d)))]:=by unfold bY; rw[aHF,X]; rfl
  have β:=apY f xs (upN f j (dL f d));have hw:IntKind.i64.wrap (mW f xs (upN f j (dL f d))+1)=mW f xs (upN f j (dL f d))+1:=wrap_i64 Om Om;have R:((upN f j (dL f d):Nat):Int)<(f.aEZ.length:Nat):=Om;simp only[go_sem,O,wc,R,aHE,E.hB,N,hw,qA,Y,wd,HG I,aeH I,hV.U3 S I];refine aH (j+1,_) ⟨hlt,E.aCP hn _,y.set E.hB (by decide),B.set E.hB (by decide)⟩ (by simp only; omega) ?_ b_
  (repeat' (first|exact d_|refine c_ ?_ ?_))<;>first|(simp only[go_sem,upN]<;>rfl)|rfl
 ·have:j=4:=Om;subst this;have h0:upN f 4 (dL f d)=0:=by have:=hV.qB I;omega
  have O:¬ ((upN f 4 (dL f d):Nat):Int)>0:=Om;simp only[go_sem,O];rw[aaX hV] at E;refine hK _ _ ?_ E y B;unfold lP;exact Lq
structure yu (f:aC) (row:List Int):Prop where
 len:row.length≤16777216
 at_:∀ x∈row,-1≤x∧x<(f.aEW.length:Nat)
def home (row:List Int) (i:Nat):Bool:=decide (row.getD i 0<0)
def fI (f:aC) (p:cW) (row:List Int) (i:Nat):Bool:=decide (0≤row.getD i 0)&&!p.aEX.contains ((mdl f (row.getD i 0).toNat:Nat):Int)
theorem aaW (f:aC) (xs:List Int) {x:Int} (h:x<0):eX f (xs++[x])=eX f xs:=by
 refine aJV (by simp[eX]) fun i e j=>?_;simp only[eX,aIN,List.getElem_range,mW,List.countP_append];have:rV f i x=false:=by simp[rV]; omega
 simp[this]
theorem amG {C:Ctx} (L:FU C) (f:aC) (hV:VF f) (o:Obs) (hn:o.Ne) (v:Nat) (p:cW) (hp:∀ m∈p.aEX,0≤m∧m<f.aEX.length) (row:List Int) (hr:yu f row) (K:cG) (F:PF) (H:PH)
  (U:(lP f o .aA .aA row 0).le F) (hH:kR H o v p (marks f.aEX.length p.aEX) (eZ f.aEW.length []) (eX f []))
  (hK:∀ w B F' H',(lP f o w B row row.length).le F'→kR H' o v p (marks f.aEX.length p.aEX) (eZ f.aEW.length row) (eX f row)→bA H' 3 w (eY (cT 2 v row.length (home row)))→bA H' 3 B (eY (cT 4 v row.length (fI f p row)))→Dis 3 w B→K (.exit 2) F' H') :
  aE.wp C (.loop tE) K F H:=by
 obtain⟨ρ,ν⟩:=hr;refine wp_loop (α:=Nat × PV × PV × PH) (fun t=>lP f o t.2.1 t.2.2.1 row t.1) (fun t=>t.2.2.2)
  (fun t=>t.1≤row.length∧kR t.2.2.2 o v p (marks f.aEX.length p.aEX) (eZ f.aEW.length (row.take t.1)) (eX f (row.take t.1))∧bA t.2.2.2 3 t.2.1 (eY (cT 2 v t.1 (home row)))∧bA t.2.2.2 3 t.2.2.1 (eY (cT 4 v t.1 (fI f p row)))∧Dis 3 t.2.1 t.2.2.1)
  (fun t=>row.length-t.1) (0,.aA,.aA,H) ⟨aGW _,by rw[List.take_zero]; exact hH,.nil,.nil,.nil⟩ U b_ ?_
 rintro⟨k,w,B,H0⟩ ⟨hk,I,J,M,hd⟩;simp only at hk I J M hd ⊢;by_cases hlt:k<row.length
 ·have y:(k:Int)<(row.length:Nat):=Om;have W:(row.map fun n=>[PV.int .i64 n])[k]?=some [.int .i64 row[k]]:=by simp[hlt]
  have hg:row.getD k 0=row[k]:=by simp[aGU,hlt]
  have ε:row.take (k+1)=row.take k++[row[k]]:=aIR hlt;have hx:=ν row[k] (aGP hlt);have e2:=qH 2 v k (home row);have X:=qH 4 v k (fI f p row);have hh:home row k=decide (row[k]<0):=by rw[home,hg]
  have Y:fI f p row k=(decide (0≤row[k])&&!p.aEX.contains ((mdl f (row[k]).toNat:Nat):Int)):=by rw[fI,hg]
  have l2:=hZ 2 v k (home row);have l4:=hZ 4 v k (fI f p row);have fin:∀ A e (F:PF) (E:PH),(lP f o A e row (k+1)).le F→kR E o v p (marks f.aEX.length p.aEX) (eZ f.aEW.length (row.take (k+1))) (eX f (row.take (k+1)))→bA E 3 A (eY (cT 2 v (k+1) (home row)))→bA E 3 e (eY (cT 4 v (k+1) (fI f p row)))→Dis 3 A e →
    jE (fun (t:Nat × PV × PV × PH)=>lP f o t.2.1 t.2.2.1 row t.1) (fun t=>t.2.2.2)
     (fun t=>t.1≤row.length∧kR t.2.2.2 o v p (marks f.aEX.length p.aEX) (eZ f.aEW.length (row.take t.1)) (eX f (row.take t.1))∧bA t.2.2.2 3 t.2.1 (eY (cT 2 v t.1 (home row)))∧bA t.2.2.2 3 t.2.2.1 (eY (cT 4 v t.1 (fI f p row)))∧Dis 3 t.2.1 t.2.2.1)
     (fun t=>row.length-t.1) (row.length-k) K .normal F E :=
   fun A e F E U I h1 h2 h3=>aH (α:=Nat × PV × PV × PH) (k+1,A,e,E) ⟨hlt,I,h1,h2,h3⟩ (by simp only; omega) U b_
  generalize σ:row[k]=x at *
  by_cases c:x<0
  ·have o1:=VS (n:=f.aEW.length) (row.take k) (x:=x) Om;have o2:=aaW f (row.take k) c;rw[ε,o1,o2] at fin;rw[if_pos (by rw[hh]; simp[c])] at e2;rw[if_neg (by rw[Y]; simp; omega)] at X;rw[e2,X] at fin;simp only[go_sem,tE,xM,lP,y,CM,W,CN,c,v8];refine zH (vs:=[.int .i64 2,.int .i64 k]) (L.bad o.o5 v 2 k) Sq (e_ a_ I.h5) ?_;have N:(1:Nat)*3≤16777216:=by decide
   simp only[go_sem,N];refine nA (src:=[(⟨2,v,k⟩:kF).cells]) J M hd Sq (by unfold roomFor; rw[mB]; simp only[aGR,maxLen]; omega) fun v' H' g1 g2 g3 g4=>?_;rw[rA] at g1;unfold lP at fin;simp only[go_sem,CO,wZz k];exact fin v' B _ H' Lq (I.keep g4) g1 g2 g3
  ·obtain⟨d,rfl⟩:∃ d:Nat,x=d:=⟨x.toNat,by omega⟩;have j:d<f.aEW.length:=Om;have δ:(d:Int)<(f.aEW.length:Nat):=Om;obtain⟨w1,w2,w3,w4,w5⟩:=hV.drive d j;have c0:(0:Int)≤(d:Int):=Om;rw[if_neg (by rw[hh]; simp)] at e2;rw[decide_eq_true c0,aHK,aJN] at Y;have ο:(row.take k).count (d:Int)≤16777216:=aJC (List.count_le_length ..) (by rw[aGY]; omega);have hw:IntKind.i64.wrap ((((row.take k).count (d:Int):Nat):Int)+1)=(((row.take k).count (d:Int):Nat):Int)+1:=wrap_i64 Om Om;have S:=sI (l:=eZ f.aEW.length (row.take k)) (i:=d) (by rw[kU]; exact j);rw[O2 _ j] at S;have γ:=O3 (row.take k) j;have ξ:(row.take k).length≤16777216:=by rw[aGY]; omega
   rw[e2,ε] at fin;have tail:∀ e (F:PF) (E:PH),(lP f o w e row k).le F→F 17=some (.int .i64 d)→kR E o v p (marks f.aEX.length p.aEX) (eZ f.aEW.length (row.take k)) (eX f (row.take k))→bA E 3 w (eY (cT 2 v k (home row)))→bA E 3 e (eY (cT 4 v (k+1) (fI f p row)))→Dis 3 w e →
     aE.wp C (.seq (.region QZ) (.seq (.region RA) (.block 4 (.loop CL)))) (fF 3 (kL C (aE.wp C (.region CO)) (jE (fun (t:Nat × PV × PV × PH)=>lP f o t.2.1 t.2.2.1 row t.1) (fun t=>t.2.2.2)
     (fun t=>t.1≤row.length∧kR t.2.2.2 o v p (marks f.aEX.length p.aEX) (eZ f.aEW.length (row.take t.1)) (eX f (row.take t.1))∧bA t.2.2.2 3 t.2.1 (eY (cT 2 v t.1 (home row)))∧bA t.2.2.2 3 t.2.2.1 (eY (cT 4 v t.1 (fI f p row)))∧Dis 3 t.2.1 t.2.2.1)
     (fun t=>row.length-t.1) (row.length-k) K))) F E:=by
    intro e F E U ζ O θ ι gd;have f3:F 3=some (.cS f.cells):=U 3 _ (by unfold lP; simp only[go_sem]);have f14:F 14=some (.osl o.oD 1 0 f.aEW.length):=U 14 _ (by unfold lP; simp only[go_sem]);simp only[go_sem,QZ,f14,ζ,δ,aHE,O.hD,S,hw,qA,γ,RA,f3,xB j,hV.Sa j];have up:=awM (C:=C) f hV o hn v p (marks f.aEX.length p.aEX) (eZ f.aEW.length (row.take k++[(d:Int)])) w e (eY (cT 2 v k (home row))) (eY (cT 4 v (k+1) (fI f p row))) row k (row.take k) ξ d j;simp only[aE.wp,go_sem] at up;refine up _ _ _ ?_ (O.aCQ hn _) (θ.set O.hD (by decide)) (ι.set O.hD (by decide)) ?_
    ·have g:=fun (q:Nat) u h=>U q u h;unfold lP at g;unfold Y8;refine c_ (c_ (c_ (c_ (c_ (c_ (c_ (c_ (c_ (c_ (c_ (c_ (c_ d_ ?_) ?_) ?_) ?_) ?_) ?_) ?_) ?_) ?_) ?_) ?_) ?_) ?_
     ·simp only[go_sem]; exact g 3 _ Sq
     ·simp only[go_sem]; exact g 5 _ Sq
     ·simp only[go_sem]; exact g 7 _ Sq
     ·simp only[go_sem]; exact g 8 _ Sq
     ·simp only[go_sem]; exact g 11 _ Sq
     ·simp only[go_sem]; exact g 12 _ Sq
     ·simp only[go_sem]; exact g 13 _ Sq
     ·simp only[go_sem]; exact g 14 _ Sq
     ·simp only[go_sem]; exact g 15 _ Sq
     ·simp only[go_sem]; exact g 62 _ Sq
     ·simp only[go_sem]; exact g 63 _ Sq
     ·simp only[go_sem]; exact g 64 _ Sq
     ·simp only[go_sem]
    ·intro F' H' κ μ Z β;have g:=fun (q:Nat) u h=>κ q u h;unfold lP at g;have η:F' 64=some (.int .i64 k):=g 64 _ Sq;simp only[go_sem,CO,η,wZz k];refine fin w e _ H' ?_ μ Z β gd;unfold lP;refine c_ (c_ (c_ (c_ (c_ (c_ (c_ (c_ (c_ (c_ (c_ (c_ d_ ?_) ?_) ?_) ?_) ?_) ?_) ?_) ?_) ?_) ?_) ?_) ?_
     ·simp only[go_sem]; exact g 3 _ Sq
     ·simp only[go_sem]; exact g 5 _ Sq
     ·simp only[go_sem]; exact g 7 _ Sq
     ·simp only[go_sem]; exact g 8 _ Sq
     ·simp only[go_sem]; exact g 11 _ Sq
     ·simp only[go_sem]; exact g 12 _ Sq
     ·simp only[go_sem]; exact g 13 _ Sq
     ·simp only[go_sem]; exact g 14 _ Sq
     ·simp only[go_sem]; exact g 15 _ Sq
     ·simp only[go_sem]; exact g 62 _ Sq
     ·simp only[go_sem]; exact g 63 _ Sq
     ·simp only[go_sem]
   simp only[aE.wp,go_sem] at tail;have V:((mdl f d:Nat):Int)<(f.aEX.length:Nat):=Om;have R:(bF (marks f.aEX.length p.aEX))[mdl f d]?=some [.bool (p.aEX.contains ((mdl f d:Nat):Int))]:=by have:=AR (n:=f.aEX.length) (l:=p.aEX) (m:=((mdl f d:Nat):Int)) Om V;rw[aJN] at this;unfold bF;rw[aHF,this]; rfl
   cases hb:p.aEX.contains ((mdl f d:Nat):Int) with
   | true =>rw[hb] at R Y;rw[if_neg (by rw[Y]; simp)] at X;rw[X] at tail;simp only[go_sem,tE,xM,lP,y,CM,W,CN,c,QY,xB j,hV.dj j,V,aHE,I.h8,R,aHB];exact tail B _ H0 (by unfold lP; exact Lq) Sq I J M hd
   | false =>
    rw[hb] at R Y;rw[if_pos (by rw[Y]; simp)] at X;rw[X] at tail;simp only[go_sem,tE,xM,lP,y,CM,W,CN,c,QY,xB j,hV.dj j,V,aHE,I.h8,R,aHM,wa];refine zH (vs:=[.int .i64 4,.int .i64 k]) (L.bad o.o5 v 4 k) Sq (e_ a_ I.h5) ?_;have N:(1:Nat)*3≤16777216:=by decide
    simp only[go_sem,N];refine nA (src:=[(⟨4,v,k⟩:kF).cells]) M J hd.symm Sq (by unfold roomFor; rw[mB]; simp only[aGR,maxLen]; omega) fun v' H' g1 g2 g3 g4=>?_;rw[rA] at g1;exact tail v' _ H' (by unfold lP; exact Lq) Sq (I.keep g4) g2 g1 g3.symm
 ·have y:¬ (k:Int)<(row.length:Nat):=Om;have:k=row.length:=Om;subst this;rw[aHV] at I;simp only[go_sem,tE,xM,lP,y];exact hK w B _ _ (by unfold lP; exact Lq) I J M hd
def qZ (f:aC) (row:List Int) (d:Nat):Bool:=decide ((eZ f.aEW.length row).getD d 0>1)
def eN (f:aC) (p:cW) (i:Nat):Int:=p.spread (lvl f i).toNat
def wD (f:aC) (p:cW) (row:List Int) (i:Nat):Bool:=decide (eN f p i>0)&&decide ((eX f row).getD i 0>eN f p i)
def oZ (f:aC) (p:cW) (v:Nat) (row:List Int):List kF :=
 cT 2 v row.length (home row)++cT 3 v f.aEW.length (qZ f row)++cT 4 v row.length (fI f p row)++cT 5 v f.aEZ.length (wD f p row)
def KK (f:aC) (o:Obs) (e j:PV) (k:Nat):PF :=
 ((((((((((PF.nil.set 3 (.cS f.cells)).set 5 (.ptr o.o5 1 0 0)).set 7 (.ptr o.o7 17 0 0)).set 11 (.fn 159 [.ptr o.o5 1 0 0])).set 13 (e)).set 15 (.osl o.oB 1 0 f.aEZ.length)).set 19 (j)).set 121 (.osl o.oD 1 0 f.aEW.length)).set 122 (.int .i64 (f.aEW.length:Nat))).set 123 (.int .i64 k))
def y8 (f:aC) (o:Obs) (e:PV) (k:Nat):PF :=
 ((((((((PF.nil.set 3 (.cS f.cells)).set 5 (.ptr o.o5 1 0 0)).set 7 (.ptr o.o7 17 0 0)).set 11 (.fn 159 [.ptr o.o5 1 0 0])).set 19 (e)).set 140 (.osl o.oB 1 0 f.aEZ.length)).set 141 (.int .i64 (f.aEZ.length:Nat))).set 142 (.int .i64 k))
theorem aeS {C:Ctx} (L:FU C) (f:aC) (hV:VF f) (o:Obs) (v:Nat) (p:cW) (A:List Bool) (B:List Int) (row:List Int) (N:List kF) (β:N.length≤16777216) (e x:PV) (y:List (List PV)) (K:cG) (F:PF) (H:PH)
  (Y:(KK f o e x 0).le F) (Z:kR H o v p A (eZ f.aEW.length row) B) (R:bA H 3 x (eY N)) (O:bA H 3 e y) (hd:Dis 3 x e)
  (hK:∀ v' V H',(KK f o e v' f.aEW.length).le V→kR H' o v p A (eZ f.aEW.length row) B→bA H' 3 v' (eY (N++cT 3 v f.aEW.length (qZ f row)))→bA H' 3 e y→Dis 3 v' e→K (.exit 6) V H') :
  aE.wp C (.loop QW) K F H:=by
 have hs:=hV.small.aEW;refine wp_loop (α:=Nat × PV × PH) (fun t=>KK f o e t.2.1 t.1) (fun t=>t.2.2) (fun t=>t.1≤f.aEW.length∧kR t.2.2 o v p A (eZ f.aEW.length row) B∧bA t.2.2 3 t.2.1 (eY (N++cT 3 v t.1 (qZ f row)))∧bA t.2.2 3 e y∧Dis 3 t.2.1 e) (fun t=>f.aEW.length-t.1) (0,x,H)
  ⟨aGW _,Z,by rw[show cT 3 v 0 (qZ f row)=[] from rfl,aHY]; exact R,O,hd⟩ Y b_ ?_
 rintro⟨k,v',X⟩ ⟨hk,E,j,w,M⟩;simp only at hk E j w M ⊢;simp only[go_sem,QW,wh,KK];by_cases hlt:k<f.aEW.length
 ·have u:(k:Int)<(f.aEW.length:Nat):=Om;have S:=sI (l:=eZ f.aEW.length row) (i:=k) (by rw[kU]; exact hlt);have U:(eZ f.aEW.length row).getD k 0=(eZ f.aEW.length row)[k]'(by rw[kU]; exact hlt):=by rw[aGU,aGS (by rw[kU]; exact hlt)]; rfl
  have J:=qH 3 v k (qZ f row);have W:qZ f row k=decide ((eZ f.aEW.length row)[k]'(by rw[kU]; exact hlt)>1):=by rw[qZ,U]
  have γ:=hZ 3 v k (qZ f row);simp only[go_sem,u,wi,aHE,E.hD,S,wj];by_cases c:(eZ f.aEW.length row)[k]'(by rw[kU]; exact hlt)>1
  ·rw[if_pos (by rw[W]; simp[c])] at J;simp only[go_sem,c,wk];refine zH (vs:=[.int .i64 3,.int .i64 k]) (L.bad o.o5 v 3 k) Sq (e_ a_ E.h5) ?_;have I:(1:Nat)*3≤16777216:=by decide
   simp only[go_sem,I];refine nA (src:=[(⟨3,v,k⟩:kF).cells]) j w M Sq (by unfold roomFor; rw[mB,aGO]; simp only[aGR,maxLen]; omega) fun v' H' k1 k2 k3 k4=>?_;rw[rA,aHN,← J] at k1;simp only[go_sem,RB,wZz k];refine aH (k+1,v',H') ⟨hlt,E.keep k4,k1,k2,k3⟩ (by simp only; omega) ?_ b_;exact Lq
  ·rw[if_neg (by rw[W]; simp; omega)] at J;rw[← J] at j;simp only[go_sem,c,RB,wZz k];refine aH (k+1,v',X) ⟨hlt,E,j,w,M⟩ (by simp only; omega) ?_ b_;exact Lq
 ·have u:¬ (k:Int)<(f.aEW.length:Nat):=Om;have:k=f.aEW.length:=Om;subst this;simp only[go_sem,u];exact hK v' _ _ (by unfold KK; exact Lq) E j w M
theorem Za {C:Ctx} (f:aC) (hV:VF f) (o:Obs) (v:Nat) (p:cW) (A:List Bool) (D B:List Int) (i:Nat) (hi:i<f.aEZ.length) (K:PF→PH→Prop) (F:PF) (H:PH)
  (y:kR H o v p A D B) (x:F 3=some (.cS f.cells)) (f7:F 7=some (.ptr o.o7 17 0 0)) (l:F 22=some (.int .i64 i))
  (w:∀ e:PF,e 24=some (.int .i64 (eN f p i))→(∀ j,j<147→j≠24→e j=F j)→K e H):wpOps C RC K F H:=by
 obtain⟨J,Y,-⟩:=hV.qB hi;have h5:((lvl f i)<((5:Nat):Int)):=Om;unfold eN at w;simp only[go_sem,RC,x,f7,l,HG hi,acR hi,J,h5,Nat.mul_one];have E:lvl f i=0∨lvl f i=1∨lvl f i=2∨lvl f i=3∨lvl f i=4:=Om;have fin:∀ (e:PF),e 24=some (.int .i64 (p.spread (lvl f i).toNat))→(∀ j,j<147→j≠24→e j=F j)→K e H:=w;have low:∀ (j:Nat),j<147→j≠147∧j≠148∧j≠149∧j≠150∧j≠151∧j≠152∧j≠153∧j≠154∧j≠155:=Om;rcases E with h | h | h | h | h
 all_goals
  rw[h] at fin ⊢;simp only[go_sem,y.h7];refine fin _ (by simp only[go_sem]; rfl) fun j I u=>?_;obtain⟨M,N,O,R,S,U,V,W,X⟩:=low j I;simp only[go_sem,u,M,N,O,R,S,U,V,W,X]
theorem aeR {C:Ctx} (L:FU C) (f:aC) (hV:VF f) (o:Obs) (v:Nat) (p:cW) (A:List Bool) (D:List Int) (row:List Int) (W:List kF) (ζ:W.length≤100000000) (N:PV) (K:cG) (F:PF) (H:PH)
  (hF:(y8 f o N 0).le F) (hH:kR H o v p A D (eX f row)) (γ:bA H 3 N (eY W))
  (hK:∀ v' F' H',F' 19=some v'→bA H' 3 v' (eY (W++cT 5 v f.aEZ.length (wD f p row)))→K (.exit 8) F' H') :
  aE.wp C (.loop QX) K F H:=by
 have hs:=hV.small.aEZ;refine wp_loop (α:=Nat × PV × PH) (fun t=>y8 f o t.2.1 t.1) (fun t=>t.2.2) (fun t=>t.1≤f.aEZ.length∧kR t.2.2 o v p A D (eX f row)∧bA t.2.2 3 t.2.1 (eY (W++cT 5 v t.1 (wD f p row)))) (fun t=>f.aEZ.length-t.1) (0,N,H)
  ⟨aGW _,hH,by rw[show cT 5 v 0 (wD f p row)=[] from rfl,aHY]; exact γ⟩ hF b_ ?_
 rintro⟨k,v',H0⟩ ⟨hk,M,e⟩;simp only at hk M e ⊢;simp only[go_sem,QX,wq,y8];by_cases hlt:k<f.aEZ.length
 ·have y:(k:Int)<(f.aEZ.length:Nat):=Om;have δ:=sI (l:=eX f row) (i:=k) (by rw[xA]; exact hlt);have ε:(eX f row).getD k 0=(eX f row)[k]'(by rw[xA]; exact hlt):=by rw[aGU,aGS (by rw[xA]; exact hlt)]; rfl
  have O:=qH 5 v k (wD f p row);have η:=hZ 5 v k (wD f p row);have ht:wD f p row k=(decide (eN f p k>0)&&decide ((eX f row)[k]'(by rw[xA]; exact hlt)>eN f p k)):=by rw[wD,ε]
  generalize (eX f row)[k]'(by rw[xA]; exact hlt)=β at *
  simp only[go_sem,y,wr,aHE,M.hB,δ];refine Za f hV o v p A D (eX f row) k hlt _ _ _ M Sq Sq Sq fun F' J R=>?_;have g:=fun (q:Nat) (h1:q<147) (h2:q≠24)=>R q h1 h2;have X:=g 3 (by decide) (by decide);have Y:=g 5 (by decide) (by decide);have Z:=g 7 (by decide) (by decide);have B:=g 11 (by decide) (by decide);have E:=g 19 (by decide) (by decide);have j:=g 140 (by decide) (by decide);have w:=g 141 (by decide) (by decide);have x:=g 142 (by decide) (by decide);have U:=g 22 (by decide) (by decide);have I:=g 23 (by decide) (by decide);simp only[go_sem,Nat.reduceEqDiff,reduceIte] at X Y Z B E j w x U I;by_cases V:eN f p k>0
  ·by_cases c2:β>eN f p k
   ·rw[if_pos (by rw[ht]; simp[V,c2])] at O;simp only[go_sem,CP,J,I,V,c2,wt,E,B,U];refine zH (vs:=[.int .i64 5,.int .i64 k]) (L.bad o.o5 v 5 k) Sq (e_ a_ M.h5) ?_;have S:(1:Nat)*3≤16777216:=by decide
    simp only[go_sem,S];refine nA (rows':=[]) (u:=.aA) (src:=[(⟨5,v,k⟩:kF).cells]) e .nil (fun _ _ _ _ _ h=>by cases h) Sq (by unfold roomFor; rw[mB,aGO]; simp only[aGR,maxLen]; omega) fun v' H' k1 k2 k3 k4=>?_;rw[rA,aHN,← O] at k1;simp only[go_sem,CQ,x,wZz k];refine aH (k+1,v',H') ⟨hlt,M.keep k4,k1⟩ (by simp only; omega) ?_ b_
    (repeat' (first|exact d_|refine c_ ?_ ?_))<;>first|(simp only[go_sem,X,Y,Z,B,j,w]<;>rfl)|rfl
   ·rw[if_neg (by rw[ht]; simp; omega)] at O;rw[← O] at e;simp only[go_sem,CP,J,I,V,c2,CQ,x,wZz k];refine aH (k+1,v',H0) ⟨hlt,M,e⟩ (by simp only; omega) ?_ b_
    (repeat' (first|exact d_|refine c_ ?_ ?_))<;>first|(simp only[go_sem,X,Y,Z,B,E,j,w]<;>rfl)|rfl
  ·rw[if_neg (by rw[ht]; simp; omega)] at O;rw[← O] at e;simp only[go_sem,CP,J,I,V,CQ,x,wZz k];refine aH (k+1,v',H0) ⟨hlt,M,e⟩ (by simp only; omega) ?_ b_
   (repeat' (first|exact d_|refine c_ ?_ ?_))<;>first|(simp only[go_sem,X,Y,Z,B,E,j,w]<;>rfl)|rfl
 ·have y:¬ (k:Int)<(f.aEZ.length:Nat):=Om;have:k=f.aEZ.length:=Om;subst this;simp only[go_sem,y];exact hK v' _ _ Sq e
theorem MZ (n:Nat):aGM n [PV.bool false]=bF (marks n []):=by rw[qp]; simp[bF]
theorem aaD (n:Nat):aGM n [PV.int .i64 0]=bY (eZ n []):=by rw[Ai,wG]
theorem agP (f:aC):aGM f.aEZ.length [PV.int .i64 0]=bY (eX f []):=by
 have:eX f []=aGM f.aEZ.length 0:=by refine aJV (by simp[eX]) fun i e j=>?_;simp[eX,mW]
 rw[this,wG]
def Y7 (f:aC) (l:List (List Int)) (o5 o7 o8:Nat) (ms:List Int) (k:Nat):PF :=
 ((((((((PF.nil.set 1 (lay l)).set 3 (.cS f.cells)).set 5 (.ptr o5 1 0 0)).set 7 (.ptr o7 17 0 0)).set 8 (.osl o8 1 0 f.aEX.length)).set 40 (ints ms)).set 41 (.int .i64 (ms.length:Nat))).set 42 (.int .i64 k))
theorem anD {C:Ctx} (L:FU C) (f:aC) (hV:VF f) (S:∀ p∈f.aFA,Fits p.aEX) (l:List (List Int)) (v:Nat) (hv:v<l.length) (F:v<f.aEY.length) (hr:yu f l[v]) :
  LD.wp C (aT aoY.res (cD (Z6 (oZ f (cL f v) v l[v])))) (PF.args [.agg f.cells,lay l,.int .i64 v]) .nil:=by
 obtain⟨hp,he⟩:=mP hV F;have B:=hV.aFJ _ (aGP hp);have υ:=S _ (aGP hp);rw[he] at B υ;generalize Ψ:cL f v=p at *
 have U:=B.2.2.2.2.2.2.2;have V:(l.map fun r=>[ints r])[v]?=some [ints l[v]]:=by simp[hv]
 generalize l[v]=row at *
 have E:=hV.small;have ο:(f.aEX.length:Int)*((1:Nat):Int)≤140737488355328:=by have:=E.aEX; omega
 have ρ:(f.aEX.length:Int)≤9223372036854775807:=by have:=E.aEX; omega
 have M:(f.aEW.length:Int)*((8:Nat):Int)≤140737488355328:=by have:=E.aEW; omega
 have N:(f.aEW.length:Int)≤9223372036854775807:=by have:=E.aEW; omega
 have O:(f.aEZ.length:Int)*((8:Nat):Int)≤140737488355328:=by have:=E.aEZ; omega
 have R:(f.aEZ.length:Int)≤9223372036854775807:=by have:=E.aEZ; omega
 simp only[go_sem,LD,Ls];refine aQ fun o5 h5=>?_;simp only[go_sem];refine bP (PH.nil.set o5 (.rows 1 [[.int .i64 v]])) dD (e_ a_ Sq) ?_;simp only[go_sem,Lt,uV F,hV.QB F,rM hp,he];refine aQ fun o7 h7=>?_;have e:o5≠o7:=by rintro rfl; simp only[aP,if_true] at h7; cases h7
 simp only[go_sem,e];refine⟨e_ a_ (by simp only[go_sem,e]),?_⟩;simp only[go_sem,Lu,aGK,ο,ρ];refine aQ fun o8 h8=>?_;have j:o5≠o8:=by rintro rfl; simp only[aP,e,if_true,if_false] at h8; cases h8
 have w:o7≠o8:=by rintro rfl; simp only[aP,if_true] at h8; cases h8
 simp only[go_sem,Lw,w,aGK];rw[MZ];refine wp_loop (α:=Nat) (fun k=>Y7 f l o5 o7 o8 p.aEX k) (fun k=>((PH.nil.set o5 (.rows 1 [[.int .i64 v]])).set o7 (.rows 17 [p.cells])).set o8 (.rows 1 (bF (marks f.aEX.length (p.aEX.take k))))) (fun k=>k≤p.aEX.length) (fun k=>p.aEX.length-k) 0 (aGW _) ?_ ?_ ?_
 ·unfold Y7
  (repeat' (first|exact d_|refine c_ ?_ ?_))<;>first|(simp only[go_sem,aGK]<;>rfl)|rfl
 ·refine e_ (e_ (e_ a_ ?_) ?_) ?_
  ·simp only[go_sem,e,j]
  ·simp only[go_sem,w]
  ·simp only[go_sem,List.take_zero]
 intro k hk;simp only[go_sem,Lr,Lx,Y7];by_cases hlt:k<p.aEX.length
 ·have x:(k:Int)<(p.aEX.length:Nat):=Om;have τ:(p.aEX.map fun n=>[PV.int .i64 n])[k]?=some [.int .i64 p.aEX[k]]:=by simp[hlt]
  obtain⟨m1,m2⟩:=U _ (aGP hlt);have Φ:(p.aEX[k]).toNat<(bF (marks f.aEX.length (p.aEX.take k))).length:=by rw[jC,qo]; omega
  have σ:(bF (marks f.aEX.length (p.aEX.take k)))[(p.aEX[k]).toNat]?=some [.bool ((p.aEX.take k).contains p.aEX[k])]:=by unfold bF;rw[aHF,AR m1 m2]; rfl
  simp only[go_sem,x,Ly,τ,Lz,m1,m2,aHE,σ,pV,OJ m1 m2,L3,wZz k];refine aH (k+1) hlt Om ?_ ?_
  ·exact Lq
  ·rw[aIR hlt];refine e_ (e_ (e_ a_ ?_) ?_) ?_
   ·simp only[go_sem,e,j]
   ·simp only[go_sem,w]
   ·simp only[go_sem]
 ·have x:¬ (k:Int)<(p.aEX.length:Nat):=Om;have:k=p.aEX.length:=Om;subst this;simp only[go_sem,x,L4,vy,aHV];refine bP .nil dD a_ ?_;simp only[go_sem,vz,aGK,M,N,O,R];refine aQ fun oD hD=>?_;have y:o5≠oD:=by rintro rfl; simp only[aP,e,j,if_true,if_false] at hD; cases hD
  have J:o7≠oD:=by rintro rfl; simp only[aP,w,if_true,if_false] at hD; cases hD
  have K:o8≠oD:=by rintro rfl; simp only[aP,if_true] at hD; cases hD
  simp only[go_sem,aGK,M,N,O,R];refine aQ fun oB hB=>?_;have I:o5≠oB:=by rintro rfl; simp only[aP,e,j,y,if_true,if_false] at hB; cases hB
  have W:o7≠oB:=by rintro rfl; simp only[aP,w,J,if_true,if_false] at hB; cases hB
  have X:o8≠oB:=by rintro rfl; simp only[aP,K,if_true,if_false] at hB; cases hB
  have Y:oD≠oB:=by rintro rfl; simp only[aP,if_true] at hB; cases hB
  rw[aaD,agP];simp only[go_sem,v6,e,j,y,I,V,aGK];have φ:(⟨o5,o7,o8,oD,oB⟩:Obs).Ne:=⟨y,I,J,W,K,X,Y⟩;refine amG L f hV ⟨o5,o7,o8,oD,oB⟩ φ v p U row hr _ _ _ ?_ ⟨?_,?_,?_,?_,?_⟩ ?_
  ·unfold lP;exact Lq
  ·simp only[go_sem,e,j,y,I]
  ·simp only[go_sem,w,J,W]
  ·simp only[go_sem,K,X]
  ·simp only[go_sem,Y]
  ·simp only[go_sem]
  intro Θ Λ F1 H1 θ ν δ ε gd;have g:=fun (q:Nat) u h=>θ q u h;unfold lP at g;have q3:=g 3 _ rfl;have q5:=g 5 _ rfl;have q7:=g 7 _ rfl;have ψ:=g 11 _ rfl;have ω:=g 12 _ rfl;have Z:=g 13 _ rfl;have Γ:=g 14 _ rfl;have β:=g 15 _ rfl;simp only[go_sem,we,ω,wg,Γ];have l2:=hZ 2 v row.length (home row);have l3:=hZ 3 v f.aEW.length (qZ f row);have l4:=hZ 4 v row.length (fI f p row);have Ω:=hr.len;have Ξ:=E.aEW;refine aeS L f hV ⟨o5,o7,o8,oD,oB⟩ v p _ _ row (cT 2 v row.length (home row)) Om Λ Θ _ _ _ H1 ?_ ν δ ε gd ?_
  ·unfold KK;exact Lq
  intro a' F2 H2 ι ξ ζ A η;have g:=fun (q:Nat) u h=>ι q u h;unfold KK at g;have q3:=g 3 _ rfl;have q5:=g 5 _ rfl;have q7:=g 7 _ rfl;have ψ:=g 11 _ rfl;have Z:=g 13 _ rfl;have β:=g 15 _ rfl;have Δ:=g 19 _ rfl;simp only[go_sem,wm,Δ,Z];refine nA ζ A η A.aoA (by unfold roomFor; rw[mB,mB,aGO]; simp only[maxLen]; omega) fun γ H3 k1 k2 k3 k4=>?_;simp only[go_sem,wn,β];have χ:eY (cT 2 v row.length (home row)++cT 3 v f.aEW.length (qZ f row))++eY (cT 4 v row.length (fI f p row))=eY (cT 2 v row.length (home row)++cT 3 v f.aEW.length (qZ f row)++cT 4 v row.length (fI f p row)):=by simp only[eY,aHX]
  rw[χ] at k1;refine aeR L f hV ⟨o5,o7,o8,oD,oB⟩ v p _ _ row _ (by simp only[aGO]; omega) γ _ _ H3 ?_ (ξ.keep k4) k1 ?_
  ·unfold y8;exact Lq
  intro b' F4 H4 κ μ;simp only[go_sem,wu,κ];exact yU (.inr rfl) μ rfl
structure zw (C:Ctx):Prop extends FU C where
 row:∀ (f:aC) (l:List (List Int)) (v:Nat),VF f→(∀ p∈f.aFA,Fits p.aEX)→(h:v<l.length)→v<f.aEY.length→yu f l[v]→aG C 158 [.agg f.cells,lay l,.int .i64 v] .nil (aM (Z6 (oZ f (cL f v) v l[v])))
def EN (f:aC) (l:List (List Int)) (v:Nat):List kF:=match uQ f l v with
 | some x=>[x]
 | none=>oZ f (cL f v) v (l.getD v [])
def rU (f:aC) (l:List (List Int)) (n:Nat):List kF:=(aGL n).flatMap (EN f l)
def over (f:aC) (l:List (List Int)) (room:List Int) (d:Nat):Bool:=decide ((lG f l).getD d 0>(lO f room).getD d 0)
def aoZ (f:aC) (l:List (List Int)) (room:List Int):List kF:=rU f l l.length++cT 6 (-1) f.aEW.length (over f l room)
def zE (f:aC) (l:List (List Int)) (room:List Int):List kF :=
 if dE f then (if l.length=f.aEY.length then aoZ f l room else [⟨1,-1,(l.length:Nat)⟩]) else []
theorem MI {p:Int→Bool}:∀ {l:List Int} {i:Nat},kV p l i=none→∀ x∈l,p x=false
 | [],_,_,x,hx=>absurd hx (aHH)
 | y::t,i,h,x,hx=>by
  rw[kV] at h;split at h
  ·cases h
  ·rename_i e;rcases aGV.1 hx with rfl | hx
   ·simpa using e
   ·exact MI h x hx
theorem ul {f:aC} {l:List (List Int)} (w:rR l) {v:Nat} (e:v<l.length) (h:uQ f l v=none):yu f l[v]:=by
 have u:l.getD v []=l[v]:=by simp[aGU,e]
 unfold uQ at h;rw[u] at h;split at h
 ·rw[Option.map_eq_none_iff] at h;refine⟨?_,fun x y=>?_⟩
  ·have j:=VY l (v+1);have:=w.all;rw[BK l e,aGO] at j;omega
  ·have:=MI h x y;simp[tU] at this;omega
 ·cases h
theorem Z5 (f:aC) (p:cW) (v:Nat) (row:List Int):(oZ f p v row).length≤2*row.length+f.aEW.length+f.aEZ.length:=by
 unfold oZ;have e:=hZ 2 v row.length (home row);have j:=hZ 3 v f.aEW.length (qZ f row);have l:=hZ 4 v row.length (fI f p row);have u:=hZ 5 v f.aEZ.length (wD f p row);simp only[aGO];omega
theorem Jl {f:aC} (e:Small f) {l:List (List Int)} (w:rR l) {v:Nat} (j:v<l.length):(EN f l v).length≤100000000:=by
 unfold EN;split
 ·simp
 ·rename_i h;have u:l.getD v []=l[v]:=by simp[aGU,j]
  have:=Z5 f (cL f v) v (l.getD v []);have x:=(ul w j h).len;have:=e.aEW;have:=e.aEZ;rw[u] at *
  omega
theorem b9 (f:aC) (l:List (List Int)) (n:Nat):rU f l (n+1)=rU f l n++EN f l n:=by
 unfold rU;rw[aJA,aKH];simp
theorem NP {f:aC} (j:Small f) {l:List (List Int)} (e:rR l):∀ {n:Nat},n≤l.length→(rU f l n).length≤n*100000000
 | 0,_=>by simp[rU]
 | n+1,h=>by rw[b9,aGO];have:=NP j e (n:=n) Om;have:=Jl j e (v:=n) Om;omega
def viF (f:aC) (l:List (List Int)) (room:List Int) (e:PV) (k:Nat):PF:=((((((PF.nil.set 1 (lay l)).set 2 (ints room)).set 3 (.cS f.cells)).set 7 (e)).set 30 (.int .i64 (l.length:Nat))).set 31 (.int .i64 k))
def viG (f:aC) (l:List (List Int)) (room:List Int) (e:PV) (k:Nat):PF:=(((((PF.nil.set 7 (e)).set 11 (ints (lO f room))).set 58 (ints (lG f l))).set 59 (.int .i64 (f.aEW.length:Nat))).set 60 (.int .i64 k))
theorem agJ {C:Ctx} (f:aC) (hV:VF f) (l:List (List Int)) (room:List Int) (B:List kF) (U:B.length≤2000000000) (E:PV) (K:cG) (F:PF) (H:PH)
  (N:(viG f l room E 0).le F) (R:bA H 3 E (eY B))
  (O:∀ v' I H',I 7=some v'→bA H' 3 v' (eY (B++cT 6 (-1) f.aEW.length (over f l room)))→K (.exit 3) I H'):aE.wp C (.loop QS) K F H:=by
 have V:=hV.small.aEW;refine wp_loop (α:=Nat × PV × PH) (fun t=>viG f l room t.2.1 t.1) (fun t=>t.2.2) (fun t=>t.1≤f.aEW.length∧bA t.2.2 3 t.2.1 (eY (B++cT 6 (-1) t.1 (over f l room)))) (fun t=>f.aEW.length-t.1) (0,E,H)
  ⟨aGW _,by rw[show cT 6 (-1) 0 (over f l room)=[] from rfl,aHY]; exact R⟩ N b_ ?_
 rintro⟨k,v',M⟩ ⟨S,j⟩;simp only at S j ⊢;simp only[go_sem,QS,vp,viG];by_cases hlt:k<f.aEW.length
 ·have e:(k:Int)<(f.aEW.length:Nat):=Om;have w:k<(lG f l).length:=by rw[lG,kU]; exact hlt
  have x:k<(lO f room).length:=by rw[xK]; exact hlt
  have a1:((lG f l).map fun n=>[PV.int .i64 n])[k]?=some [.int .i64 (lG f l)[k]]:=by simp[w]
  have a2:((lO f room).map fun n=>[PV.int .i64 n])[k]?=some [.int .i64 (lO f room)[k]]:=by simp[x]
  have J:over f l room k=decide ((lG f l)[k]>(lO f room)[k]):=by simp only[over,aGU,aGS w,aGS x,aJF]
  have A:=qH 6 (-1) k (over f l room);have Y:=hZ 6 (-1) k (over f l room);simp only[go_sem,e,vq,a1,vr,a2];by_cases c:(lG f l)[k]>(lO f room)[k]
  ·rw[if_pos (by rw[J]; simp[c])] at A;have y:(1:Nat)*3≤16777216:=by decide
   simp only[go_sem,c,vt,y];refine nA (rows':=[]) (u:=.aA) (src:=[(⟨6,-1,k⟩:kF).cells]) j .nil (fun _ _ _ _ _ h=>by cases h) rfl (by unfold roomFor; rw[mB,aGO]; simp only[aGR,maxLen]; omega) fun v' H' k1 k2 W X=>?_;rw[rA,aHN,← A] at k1;simp only[go_sem,QV,wZz k];refine aH (k+1,v',H') ⟨hlt,k1⟩ (by simp only; omega) ?_ b_;exact Lq
  ·rw[if_neg (by rw[J]; simp; omega)] at A;rw[← A] at j;simp only[go_sem,c,QV,wZz k];refine aH (k+1,v',M) ⟨hlt,j⟩ (by simp only; omega) ?_ b_;exact Lq
 ·have e:¬ (k:Int)<(f.aEW.length:Nat):=Om;have:k=f.aEW.length:=Om;subst this;simp only[go_sem,e];exact O v' _ _ rfl j
theorem anB {C:Ctx} (L:zw C) (f:aC) (R:f.Ok) (l:List (List Int)) (E:rR l) (room:List Int) :
  LC.wp C (aT Zo.res (cD (Z6 (zE f l room)))) (PF.args [.agg f.cells,lay l,ints room]) .nil:=by
 simp only[go_sem,LC,Lg,Lh,Zo];refine aB (L.valid f R) rfl ?_;unfold zE;have β:=E.rows;have I:∀ p∈f.aFA,Fits p.aEX:=fun p hp=>(R.aFJ p hp).aEX;cases X:dE f with
 | false =>simp only[go_sem,aHM,Li];exact yU (rows:=[]) (.inr rfl) .nil rfl
 | true =>
  have hV:=VF.of X;by_cases c:l.length=f.aEY.length
  ·have N:((l.length:Int) != (f.aEY.length:Int))=false:=cK Om;rw[if_pos c];have Y:=hV.small.aEY;simp only[go_sem,aHB,ZX,aGK,N,Lk,Ll];refine wp_loop (α:=Nat × PV × PH) (fun t=>viF f l room t.2.1 t.1) (fun t=>t.2.2) (fun t=>t.1≤l.length∧bA t.2.2 3 t.2.1 (eY (rU f l t.1))) (fun t=>l.length-t.1) (0,.aA,.nil) ⟨aGW _,.nil⟩ ?_ a_ ?_
   ·unfold viF
    (repeat' (first|exact d_|refine c_ ?_ ?_))<;>first|(simp only[go_sem,aGK]<;>rfl)|rfl
   rintro⟨k,v7,Z⟩ ⟨hk,M⟩;simp only at hk M ⊢;simp only[go_sem,vj,Lm,viF];by_cases hlt:k<l.length
   ·have j:(k:Int)<(l.length:Nat):=Om;have S:=NP hV.small E (n:=k) Om;have e:=b9 f l k;simp only[go_sem,j,Ln,Lo];refine aB (L.shape f l k hV E hlt Om) rfl ?_;cases F:uQ f l k with
    | some x =>
     have w:EN f l k=[x]:=by rw[EN,F]
     rw[w] at e;simp only[go_sem,shV];refine aQ fun o V=>?_;have B:(1:Nat)*3≤16777216:=by decide
     simp only[go_sem,QT,vk,B];refine nA (rows':=[]) (u:=.aA) (src:=[x.cells]) (M.fresh V _).1 .nil (fun _ _ _ _ _ h=>by cases h) rfl (by unfold roomFor; rw[mB]; simp only[aGR,maxLen]; omega) fun v' H' k1 k2 k3 k4=>?_;rw[rA,← e] at k1;simp only[go_sem,QU,wZz k];refine aH (k+1,v',H') ⟨hlt,k1⟩ (by simp only; omega) ?_ b_;exact Lq
    | none =>
     have hg:l.getD k []=l[k]:=by simp[aGU,hlt]
     have w:EN f l k=oZ f (cL f k) k l[k]:=by rw[EN,F,hg]
     have K:=ul E hlt F;have J:=Jl hV.small E hlt;rw[w] at e J;simp only[go_sem,shV];refine aQ fun o V=>?_;simp only[go_sem,QT,vl];refine aB (L.row f l k hV I hlt Om K) rfl ?_;simp only[go_sem];refine nA (rows':=[]) (u:=.aA) (src:=eY (oZ f (cL f k) k l[k])) (M.fresh V _).1 .nil (fun _ _ _ _ _ h=>by cases h) rfl (by unfold roomFor; rw[mB,mB]; simp only[maxLen]; omega) fun v' H' k1 k2 k3 k4=>?_;have W:eY (rU f l k)++eY (oZ f (cL f k) k l[k])=eY (rU f l (k+1)):=by rw[e]; simp only[eY,aHX]
     rw[W] at k1;simp only[go_sem,QU,wZz k];refine aH (k+1,v',H') ⟨hlt,k1⟩ (by simp only; omega) ?_ b_;exact Lq
   ·have j:¬ (k:Int)<(l.length:Nat):=Om;have:k=l.length:=Om;subst this;have S:=NP hV.small E (n:=l.length) (aGQ _);have y:=L.room f room R;rw[TA,X] at y;have A:=L.loads f l hV.small.aEW E;simp only[go_sem,j,vm];refine aB y rfl ?_;simp only[go_sem,vn];refine aB A rfl ?_;have U:(lG f l).length=f.aEW.length:=by rw[lG,kU]
    simp only[go_sem,aGK,U];refine agJ f hV l room (rU f l l.length) Om v7 _ _ Z ?_ M ?_
    ·unfold viG;exact Lq
    intro v' F' H' h7 O;simp only[go_sem,vu,h7];exact yU (.inr rfl) O rfl
  ·have N:((l.length:Int) != (f.aEY.length:Int))=true:=dN Om;have B:(1:Nat)*3≤16777216:=by decide
   rw[if_neg c];simp only[go_sem,aHB,ZX,aGK,N,Lj,B];exact aU (.inr rfl) .nil rfl a_ ⟨.refl _,rfl⟩
structure aoN (C:Ctx):Prop extends zw C where
 viol:∀ (f:aC) (l:List (List Int)) (room:List Int),f.Ok→rR l→aG C 154 [.agg f.cells,lay l,ints room] .nil (aM (Z6 (zE f l room)))
def oX (f:aC) (l:List (List Int)) (room:List Int):Bool:=dE f&&decide ((zE f l room).length=0)
theorem afF {C:Ctx} (L:aoN C) (f:aC) (e:f.Ok) (l:List (List Int)) (j:rR l) (room:List Int) :
  EQ.wp C (aT Kv.res (cD (.bool (oX f l room)))) (PF.args [.agg f.cells,lay l,ints room]) .nil:=by
 simp only[go_sem,EQ,uq,ut,Kv];refine aB (L.valid f e) rfl ?_;unfold oX;cases u:dE f with
 | false =>simp only[go_sem];exact aV rfl rfl
 | true =>
  simp only[go_sem];refine aB (L.viol f l room e j) rfl ?_;by_cases c:(zE f l room).length=0
  ·simp only[go_sem,aGK,bM (show (((zE f l room).length:Nat):Int)=0 by omega)];exact aV rfl (by simp[c])
  ·simp only[go_sem,aGK,bB (show (((zE f l room).length:Nat):Int)≠0 by omega)];exact aV rfl (by rw[decide_eq_false c])
def S0:Rg:=[iA 2 (.mv (.const (.lit (.pointer none))))]
def S1:Rg:=[iM 3 0,iN 4 3,iC 5 .gtr 4 400]
def S3:Rg:=[iM 6 0,iA 7 (.slice 1 (Tm 6) none (some (Ci 400)) none),iM 0 7]
def ll:Rg:=[iM 8 0,iA 9 (.append 1 1 (.const .aA) (Tm 8)),iA 10 (.build [.aA,zI] [(0,1,(Tm 9))]),iA 11 (.box false (Tm 10)),iM 2 11]
def OR:aE:=(sq S0 (.seq (sq S1 (.cond (Tm 5) (.region S3) .skip)) (sq ll .ret)))
def asM:List Nat:=[]
def akR:bC:=⟨1,12,OR,[.tmp 2]⟩
def YJ:Rg:=[iI 4 0]
def JO:Rd:=[(iM 5 0,false),(iA 6 (.aFK (Tm 5)),false),(iF 7 1 6,false),(iL 8 7,false),(iM 9 0,false),(iA 10 (.aFK (Tm 9)),false),(iF 11 0 10,false),(iL 12 11,false),(iN 13 12,false),(iB 14 .geq 8 13,false),(iM 15 14,false),(gM 16 1 15 false,false),(gC 17 .lss 16 2 15 false,false),(iQ 18 15 17,false)]
def YK:Rg:=[iI 4 0]
def Hb:Rg:=[iM 19 0,iA 20 (.aFK (Tm 19)),iF 21 1 20,iL 22 21,iC 23 .add 22 1,iA 24 (.aFK (Tm 19)),iF 25 1 24,iS 1 25 23]
def Hc:Rd:=[(iM 26 0,false),(iA 27 (.aFK (Tm 26)),false),(iF 28 0 27,false),(iL 29 28,false),(iM 30 0,false),(iA 31 (.aFK (Tm 30)),false),(iF 32 1 31,false),(iL 33 32,false),(iC 34 .sub 33 1,false),(iX 35 1 29 34,false),(iL 36 35,false),(iA 37 (.conv .i64 (Tm 36)),false),(iM 38 1,false),(iB 39 .rem 37 38,false),(iM 4 39,false)]
def yP:aE:=(sq YJ (.seq (dq JO (.cond (Tm 18) (sq YK .ret) .skip)) (sq Hb (dq Hc .ret))))
def akT:List Nat:=[]
def y7:bC:=⟨2,40,yP,[.tmp 4]⟩
def Gm:Rg:=[iA 2 (.alloc [zB,.aA,.aA])]
def Gn:Rg:=[iM 6 0,iA 7 (.call 4 [(Tm 6),(Ci 6)]),iA 8 (.bin .add (Ci 1) (Tm 7)),iM 9 0,iA 10 (.call 4 [(Tm 9),(Ci 8)]),iA 11 (.bin .add (Ci 1) (Tm 10)),iK2 12 50 8 11,iM 5 12,iE 13 5 0,iE 14 5 1,iA 3 (.alloc [zB,.aA,.aA]),iS 3 3 13,iM 4 14]
def Gp:Rg:=[iO 15 3 3,iS 3 2 15]
def JG:aE:=(sq Gm (sq Gn (sq Gp .ret)))
def akF:List Nat:=[]
def X6:bC:=⟨1,16,JG,[.cell 2 (some 3)]⟩
def Su:Rg:=[iA 4 (.alloc [(.str []),.aA,.aA,.aA])]
def Sv:Rg:=[iM 16 0,iM 17 1,iK2 18 4 16 17,iA 19 (.bin .add (Ci 1) (Tm 18)),iM 5 19]
def Sw:Rg:=[iA 6 (.alloc [(.str []),.aA,.aA,.aA])]
def Sx:Rg:=[iI 7 8]
def Sy:Rg:=[iI 8 0]
def Sz:Rg:=[iM 20 8,iM 21 5,iB 22 .lss 20 21]
def lg:Rg:=[iM 25 7,iM 9 25]
def lh:Rg:=[iM 26 8,iC 27 .add 26 1,iM 28 5,iB 29 .lss 27 28]
def lj:Rg:=[iM 30 0,iM 31 7,iC 32 .add 31 1,iK2 33 4 30 32,iM 9 33]
def SQ:Rg:=[iM 34 7,iM 35 9,iB 36 .sub 34 35,iM 7 36]
def XY:Rg:=[iM 38 9,iA 39 (.call 50 [(Tm 38),(Ci 8)]),iM 37 39,iE 40 37 0,iE 41 37 1,iA 10 (.alloc [zB,.aA,.aA]),iS 3 10 40,iM 11 41]
def XZ:Rg:=[iF 42 1 6,iL 43 42,iO 44 3 10,iA 45 (.aFC true 3 1 [zB,.aA,.aA] [(0,(Tm 44))]),iA 46 (.append 3 56 (Tm 43) (Tm 45)),iF 47 1 6,iS 1 47 46]
def YA:Rg:=[iM 48 0,iK 49 1 48,iA 12 (.alloc [zB,.aA,.aA]),iS 3 12 49]
def YB:Rg:=[iM 50 8,iC 51 .add 50 1,iM 52 5,iB 53 .lss 51 52,iM 54 53,gM 55 0 54 true,iG 56 (.call 4 [(Tm 55),(Ci 3)]) 54 true,gC 57 .eql 56 0 54 true,iP 58 54 57]
def YC:Rg:=[iA 59 (.call 47 [(Ci 0)]),iS 3 12 59]
def JJ:Rg:=[iF 60 3 6,iL 61 60,iO 62 3 12,iA 63 (.aFC true 3 1 [zB,.aA,.aA] [(0,(Tm 62))]),iA 64 (.append 3 56 (Tm 61) (Tm 63)),iF 65 3 6,iS 1 65 64]
def YD:Rg:=[iZ 13]
def YE:Rg:=[iI 14 0]
def G4:Rg:=[iM 66 14,iM 67 5,iB 68 .lss 66 67]
def G5:Rg:=[iA 71 (.call 47 [(Ci 0)]),iA 15 (.alloc [zB,.aA,.aA]),iS 3 15 71]
def G6:Rg:=[iM 72 14,iM 73 8,iC 74 .add 73 1,iB 75 .eql 72 74,iM 76 75,gM 77 14 76 false,gM 78 8 76 false,gB 79 .neq 77 78 76 false,gM 80 79 76 false,gM 81 0 80 true,iG 82 (.call 4 [(Tm 81),(Ci 3)]) 80 true,gC 83 .eql 82 0 80 true,iG 84 (.pick (Tm 80) (Tm 83) (.const zB)) 76 false,iQ 85 76 84]
def YF:Rg:=[iM 86 0,iK 87 1 86,iS 3 15 87]
def YG:Rg:=[iM 88 13,iO 89 3 15,iA 90 (.aFC true 3 1 [zB,.aA,.aA] [(0,(Tm 89))]),iA 91 (.append 3 56 (Tm 88) (Tm 90)),iM 13 91]
def YH:Rg:=[iM 69 14,iC 70 .add 69 1,iM 14 70]
def JI:aE:=(.seq (sq G4 (.cond (Tm 68) .skip (.exit 2))) (.seq (.block 3 (sq G5 (.seq (sq G6 (.cond (Tm 85) (.region YF) .skip)) (.region YG)))) (.region YH)))
def YI:Rg:=[iF 92 2 6,iL 93 92,iM 94 13,iA 95 (.aFC true 1 1 [.aA] [(0,(Tm 94))]),iA 96 (.append 1 24 (Tm 93) (Tm 95)),iF 97 2 6,iS 1 97 96]
def G7:Rg:=[iM 23 8,iC 24 .add 23 1,iM 8 24]
def G3:aE:=(.seq (sq Sz (.cond (Tm 22) .skip (.exit 0))) (.seq (.block 1 (sq lg (.seq (sq lh (.cond (Tm 29) (.region lj) .skip)) (sq SQ (sq XY (sq XZ (sq YA (.seq (sq YB (.cond (Tm 58) (.region YC) .skip)) (sq JJ (sq YD (.seq (sq YE (.block 2 (.loop JI))) (.region YI)))))))))))) (.region G7)))
def G8:Rg:=[iO 98 4 6,iS 4 4 98]
def OQ:aE:=(sq Su (sq Sv (sq Sw (sq Sx (.seq (sq Sy (.block 0 (.loop G3))) (sq G8 .ret))))))
def asI:List Nat:=[45,63,90,95]
def akK:bC:=⟨2,99,OQ,[.cell 4 (some 4)]⟩
def S5:Rg:=[iZ 4]
def S6:Rg:=[iZ 5]
def S7:Rg:=[iI 6 0]
def S8:Rg:=[iM 7 6,iM 8 1,iA 9 (.aFS true (Tm 8) (Ci 1)),iB 10 .lss 7 9]
def S9:Rg:=[iM 13 5,iM 14 0,iK 15 1 14,iA 16 (.aFC true 3 1 [zB,.aA,.aA] [(0,(Tm 15))]),iA 17 (.append 3 56 (Tm 13) (Tm 16)),iM 5 17]
def Ta:Rg:=[iM 11 6,iC 12 .add 11 1,iM 6 12]
def S4:aE:=(.seq (sq S8 (.cond (Tm 10) .skip (.exit 0))) (.seq (.block 1 (.region S9)) (.region Ta)))
def Tb:Rg:=[iM 18 5,iM 4 18]
def OS:aE:=(sq S5 (sq S6 (.seq (sq S7 (.block 0 (.loop S4))) (sq Tb .ret))))
def asO:List Nat:=[16]
def akW:bC:=⟨2,19,OS,[.tmp 4]⟩
def G9:Rg:=[iA 4 (.mv (.const (.str [])))]
def Ha:Rg:=[iM 5 0,iM 6 1,iK 7 195 6,iB 8 .add 5 7,iM 4 8]
def JN:aE:=(sq G9 (sq Ha .ret))
def akQ:List Nat:=[]
def Yb:bC:=⟨2,9,JN,[.tmp 4]⟩
def Gs:Rg:=[iM 12 1,iA 13 (.aFK (Tm 12)),iF 14 3 13,iL 15 14,iM 16 2,iX 17 7 15 16,iF 18 1 17,iL 19 18,iC 20 .add 19 1,iM 8 20]
def Gt:Rg:=[iM 21 0,iA 22 (.call 4 [(Tm 21),(Ci 2)]),iA 23 (.bin .add (Ci 1) (Tm 22)),iM 9 23]
def Gu:Rg:=[iM 24 8,iC 25 .eql 24 2]
def Gv:Rg:=[iI 9 1]
def JH:Rg:=[iI 10 0]
def XT:Rg:=[iM 26 10,iM 27 9,iB 28 .lss 26 27]
def XU:Rg:=[iM 31 8,iC 32 .eql 31 5]
def Gw:Rg:=[iM 33 1,iA 34 (.aFK (Tm 33)),iF 35 4 34,iL 36 35,iN 37 36,iM 38 3,iB 39 .lss 37 38]
def Gx:Rd:=[(iM 40 1,true),(iM 41 1,true),(iA 42 (.aFK (Tm 41)),true),(iF 43 4 42,true),(iL 44 43,true),(iM 45 1,false),(iA 46 (.aFK (Tm 45)),false),(iF 47 4 46,false),(iL 48 47,false),(iN 49 48,false),(iA 50 (.call 29 [(.const (.str [100])),(Tm 49)]),true),(iM 51 0,true),(iM 52 1,true),(iA 53 (.aFK (Tm 52)),true),(iF 54 2 53,true),(iL 55 54,true),(iN 56 55,true),(iK2 57 4 51 56,true),(iM 58 2,true),(iA 59 (.build [(.str []),zI,zI] [(0,1,(Tm 50)),(1,1,(Tm 57)),(2,1,(Tm 58))]),false),(iA 60 (.aFC true 3 1 [(.str []),zI,zI] [(0,(Tm 59))]),false),(iA 61 (.append 3 32 (Tm 44) (Tm 60)),true),(iA 62 (.aFK (Tm 40)),false),(iF 63 4 62,false)]
def Gy:Rd:=[(iS 1 63 61,true)]
def re:Rg:=[iM 64 1,iA 65 (.aFK (Tm 64)),iF 66 4 65,iL 67 66,iN 68 67,iM 69 3,iB 70 .geq 68 69,iM 71 70,gM 72 1 71 false,iG 73 (.aFK (Tm 72)) 71 false,gF 74 3 73 71 false,gL 75 74 71 false,gN 76 75 71 false,gC 77 .geq 76 35 71 false,iQ 78 71 77]
def rg:Rd:=[(iM 79 8,false),(iA 80 (.aFZ (.const (.str [45,115,114,107,109])) (Tm 79)),false),(iA 81 (.aFC true 1 1 [(.int .u8 0)] [(0,(Tm 80))]),false),(iA 82 (.aFL (Tm 81)),false),(iM 83 1,false),(iA 84 (.aFK (Tm 83)),false),(iF 85 3 84,false),(iL 86 85,false),(iN 87 86,false),(iK2 88 29 82 87,true),(iM 89 8,true),(iM 90 2,true),(iM 91 0,true),(iA 92 (.call 4 [(Tm 91),(Ci 16)]),true),(iA 93 (.bin .add (Ci 1) (Tm 92)),true),(iA 94 (.call 47 [(Ci 0)]),true),(iA 95 (.build [(.str []),zI,zI,zI,zB,.aA,.aA] [(0,1,(Tm 88)),(1,1,(Tm 89)),(2,1,(Tm 90)),(3,1,(Tm 93)),(4,3,(Tm 94))]),false),(iA 11 (.alloc [(.str []),zI,zI,zI,zB,.aA,.aA]),true),(iS 7 11 95,true)]
def rh:Rg:=[iM 96 0,iA 97 (.call 4 [(Tm 96),(Ci 3)]),iC 98 .eql 97 0]
def ri:Rg:=[iM 100 0,iA 101 (.call 4 [(Tm 100),(Ci 6)]),iA 102 (.bin .add (Ci 2) (Tm 101)),iA 103 (.call 50 [(Ci 1),(Tm 102)]),iM 99 103,iE 104 99 0,iE 105 99 1,iF 106 4 11,iS 3 106 104]
def OO:Rd:=[(iM 107 1,true),(iM 108 1,false),(iA 109 (.aFK (Tm 108)),false),(iF 110 3 109,false),(iL 111 110,false),(iO 112 7 11,false),(iA 113 (.aFC true 7 1 [(.str []),zI,zI,zI,zB,.aA,.aA] [(0,(Tm 112))]),false),(iA 114 (.append 7 96 (Tm 111) (Tm 113)),true),(iA 115 (.aFK (Tm 107)),false),(iF 116 3 115,false),(iS 1 116 114,true)]
def OP:Rg:=[iM 117 0,iM 118 1,iM 119 1,iA 120 (.aFK (Tm 119)),iF 121 3 120,iL 122 121,iN 123 122,iC 124 .sub 123 1,iM 125 3,iA 126 (.call 7 [(Tm 117),(Tm 118),(Tm 124),(Tm 125)])]
def xH:Rg:=[iM 29 10,iC 30 .add 29 1,iM 10 30]
def xG:aE:=(.seq (sq XT (.cond (Tm 28) .skip (.exit 0))) (.seq (.block 1 (.seq (sq XU (.cond (Tm 32) (.seq (sq Gw (.cond (Tm 39) (dq Gx (.draw Gy)) .skip)) (.exit 1)) .skip)) (.seq (sq re (.cond (Tm 78) .ret .skip)) (dq rg (.seq (sq rh (.cond (Tm 98) (.region ri) .skip)) (dq OO (.region OP))))))) (.region xH)))
def yO:aE:=(sq Gs (sq Gt (.seq (sq Gu (.cond (Tm 25) (.region Gv) .skip)) (sq JH (.block 0 (.loop xG))))))
def akG:List Nat:=[60,81,113]
def y6:bC:=⟨4,127,yO,[]⟩
def qq:Rg:=[iA 6 (.alloc [zI,.aA,.aA,.aA,.aA,.aA,.aA])]
def qt:Rg:=[iM 20 0,iA 21 (.call 4 [(Tm 20),(Ci 2)]),iA 22 (.bin .add (Ci 1) (Tm 21)),iA 23 (.build [zI,.aA,.aA,.aA,.aA,.aA,.aA] [(0,1,(Tm 22))]),iA 7 (.alloc [zI,.aA,.aA,.aA,.aA,.aA,.aA]),iS 7 7 23]
def qu:Rg:=[iM 24 0,iA 25 (.call 4 [(Tm 24),(Ci 2)]),iA 26 (.bin .add (Ci 1) (Tm 25)),iM 8 26]
def qw:Rg:=[iI 9 0]
def qx:Rg:=[iM 27 9,iM 28 8,iB 29 .lss 27 28]
def qy:Rg:=[iM 32 0,iA 33 (.call 2 [(Tm 32),(Ci 2)]),iA 10 (.alloc [(.str []),.aA,.aA,.aA]),iS 4 10 33]
def qz:Rg:=[iM 34 9,iA 35 (.call 29 [(.const (.str [108,97,119])),(Tm 34)]),iF 36 0 10,iS 1 36 35]
def q9:Rg:=[iF 37 1 7,iL 38 37,iO 39 4 10,iA 40 (.aFC true 4 1 [(.str []),.aA,.aA,.aA] [(0,(Tm 39))]),iA 41 (.append 4 88 (Tm 38) (Tm 40)),iF 42 1 7,iS 1 42 41]
def rc:Rg:=[iM 30 9,iC 31 .add 30 1,iM 9 31]
def ON:aE:=(.seq (sq qx (.cond (Tm 29) .skip (.exit 0))) (.seq (.block 1 (sq qy (sq qz (.region q9)))) (.region rc)))
def dl:Rg:=[iM 43 0,iA 44 (.call 4 [(Tm 43),(Ci 2)]),iA 45 (.bin .add (Ci 1) (Tm 44)),iM 11 45]
def dp:Rg:=[iI 12 0]
def dr:Rg:=[iM 46 12,iM 47 11,iB 48 .lss 46 47]
def dt:Rd:=[(iF 51 2 7,true),(iL 52 51,true),(iM 53 12,false),(iA 54 (.call 29 [(.const (.str [109])),(Tm 53)]),true),(iM 55 0,true),(iA 56 (.call 4 [(Tm 55),(Ci 4)]),true),(iA 57 (.bin .add (Ci 1) (Tm 56)),true),(iM 58 0,true),(iA 59 (.call 4 [(Tm 58),(Ci 8)]),true),(iA 60 (.bin .add (Ci 1) (Tm 59)),true),(iM 61 0,true),(iF 62 1 7,true),(iL 63 62,true),(iN 64 63,true),(iK2 65 4 61 64,true),(iA 66 (.build [(.str []),zI,zI,zI] [(0,1,(Tm 54)),(1,1,(Tm 57)),(2,1,(Tm 60)),(3,1,(Tm 65))]),false),(iA 67 (.aFC true 4 1 [(.str []),zI,zI,zI] [(0,(Tm 66))]),false),(iA 68 (.append 4 40 (Tm 52) (Tm 67)),true),(iF 69 2 7,false)]
def du:Rd:=[(iS 1 69 68,true)]
def dw:Rg:=[iM 49 12,iC 50 .add 49 1,iM 12 50]
def IW:aE:=(.seq (sq dr (.cond (Tm 48) .skip (.exit 2))) (.seq (.block 3 (dq dt (.draw du))) (.region dw)))
def dx:Rg:=[iA 70 (.call 47 [(Ci 0)]),iA 71 (.build [(.str []),zI,zI,zI,zB,.aA,.aA] [(2,1,(Ci (-1))),(4,3,(Tm 70))]),iA 72 (.aFC false 7 1 [(.str []),zI,zI,zI,zB,.aA,.aA] [(0,(Tm 71))]),iF 73 3 7,iS 1 73 72]
def dy:Rg:=[iM 74 0,iM 75 1,iA 76 (.call 7 [(Tm 74),(Tm 7),(Ci 0),(Tm 75)])]
def dz:Rg:=[iM 77 0,iA 78 (.call 4 [(Tm 77),(Ci 2)]),iA 79 (.bin .add (Ci 1) (Tm 78)),iM 13 79]
def d6:Rg:=[iI 14 0]
def d7:Rg:=[iM 80 14,iM 81 13,iB 82 .lss 80 81]
def IZ:Rg:=[iM 85 14,iA 86 (.call 29 [(.const (.str [112])),(Tm 85)]),iM 87 0,iA 88 (.call 4 [(Tm 87),(Ci 2)]),iA 89 (.bin .add (Ci 1) (Tm 88)),iM 90 0,iA 91 (.call 4 [(Tm 90),(Ci 3)]),iM 92 0,iA 93 (.call 4 [(Tm 92),(Ci 4)]),iA 94 (.bin .add (Ci 1) (Tm 93)),iK 95 47 94,iA 96 (.build [(.str []),zI,zI,zI,zI,zI,zI,zI,zI,.aA,.aA,zB,.aA,.aA,zB,.aA,.aA] [(0,1,(Tm 86)),(1,1,(Tm 89)),(2,1,(Tm 91)),(14,3,(Tm 95))]),iA 15 (.alloc [(.str []),zI,zI,zI,zI,zI,zI,zI,zI,.aA,.aA,zB,.aA,.aA,zB,.aA,.aA]),iS 17 15 96]
def yJ:Rd:=[(iF 97 1 15,true),(iL 98 97,true),(iM 99 0,false),(iF 100 2 15,false),(iL 101 100,false),(iC 102 .add 101 1,false),(iK2 103 4 99 102,true),(iB 104 .add 98 103,false),(iF 105 3 15,false)]
def yK:Rd:=[(iS 1 105 104,true)]
def yL:Rg:=[iM 106 0,iF 107 2 15,iL 108 107,iK2 109 5 106 108,iF 110 10 15,iS 1 110 109]
def yM:Rg:=[iM 112 0,iA 113 (.call 4 [(Tm 112),(Ci 9)]),iA 114 (.call 50 [(Tm 113),(Ci 8)]),iM 111 114,iE 115 111 0,iE 116 111 1,iF 117 11 15,iS 3 117 115]
def JA:Rg:=[iI 16 1]
def d8:Rg:=[iM 118 16,iC 119 .lss 118 5]
def d9:Rg:=[iM 122 0,iA 123 (.call 4 [(Tm 122),(Ci 3)]),iC 124 .eql 123 0]
def ef:Rg:=[iM 125 16,iM 126 0,iA 127 (.call 4 [(Tm 126),(Ci 3)]),iA 128 (.bin .add (Ci 1) (Tm 127)),iF 129 4 15,iA 130 (.idxA 5 1 (Tm 129) (Tm 125)),iS 1 130 128]
def JB:Rg:=[iM 120 16,iC 121 .add 120 1,iM 16 121]
def yI:aE:=(.seq (sq d8 (.cond (Tm 119) .skip (.exit 6))) (.seq (.block 7 (sq d9 (.cond (Tm 124) (.region ef) .skip))) (.region JB)))
def JC:Rg:=[iM 131 0,iM 132 11,iK2 133 4 131 132,iM 17 133]
def JD:Rg:=[iM 134 17,iA 135 (.aFC false 1 1 [zI] [(0,(Tm 134))]),iF 136 9 15,iS 1 136 135]
def JE:Rg:=[iM 137 11,iC 138 .gtr 137 1,iM 139 138,gM 140 0 139 true,iG 141 (.call 4 [(Tm 140),(Ci 2)]) 139 true,gC 142 .eql 141 0 139 true,iP 143 139 142]
def JF:Rg:=[iF 144 9 15,iL 145 144,iM 146 17,iA 147 (.bin .sub (Ci 1) (Tm 146)),iA 148 (.aFC true 1 1 [zI] [(0,(Tm 147))]),iA 149 (.append 1 8 (Tm 145) (Tm 148)),iF 150 9 15,iS 1 150 149]
def yN:Rg:=[iF 151 5 7,iL 152 151,iO 153 17 15,iA 154 (.aFC true 17 1 [(.str []),zI,zI,zI,zI,zI,zI,zI,zI,.aA,.aA,zB,.aA,.aA,zB,.aA,.aA] [(0,(Tm 153))]),iA 155 (.append 17 240 (Tm 152) (Tm 154)),iF 156 5 7,iS 1 156 155]
def el:Rg:=[iM 83 14,iC 84 .add 83 1,iM 14 84]
def IX:aE:=(.seq (sq d7 (.cond (Tm 82) .skip (.exit 4))) (.seq (.block 5 (sq IZ (.seq (dq yJ (.draw yK)) (sq yL (sq yM (.seq (sq JA (.block 6 (.loop yI))) (sq JC (sq JD (.seq (sq JE (.cond (Tm 143) (.region JF) .skip)) (.region yN)))))))))) (.region el)))
def ep:Rg:=[iM 157 0,iM 158 2,iC 159 .add 158 1,iK2 160 4 157 159,iM 18 160]
def fa:Rg:=[iI 19 0]
def fb:Rg:=[iM 161 19,iM 162 18,iB 163 .lss 161 162]
def fc:Rd:=[(iF 166 6 7,true),(iL 167 166,true),(iM 168 19,false),(iA 169 (.call 29 [(.const (.str [118])),(Tm 168)]),true),(iM 170 0,true),(iF 171 5 7,true),(iL 172 171,true),(iN 173 172,true),(iK2 174 4 170 173,true),(iA 175 (.build [(.str []),zI] [(0,1,(Tm 169)),(1,1,(Tm 174))]),false),(iA 176 (.aFC true 2 1 [(.str []),zI] [(0,(Tm 175))]),false),(iA 177 (.append 2 24 (Tm 167) (Tm 176)),true),(iF 178 6 7,false)]
def fe:Rd:=[(iS 1 178 177,true)]
def ff:Rg:=[iM 164 19,iC 165 .add 164 1,iM 19 165]
def IY:aE:=(.seq (sq fb (.cond (Tm 163) .skip (.exit 8))) (.seq (.block 9 (dq fc (.draw fe))) (.region ff)))
def fg:Rg:=[iO 179 7 7,iS 7 6 179]
def DL:aE:=(sq qq (sq qt (sq qu (.seq (sq qw (.block 0 (.loop ON))) (sq dl (.seq (sq dp (.block 2 (.loop IW))) (sq dx (sq dy (sq dz (.seq (sq d6 (.block 4 (.loop IX))) (sq ep (.seq (sq fa (.block 8 (.loop IY))) (sq fg .ret)))))))))))))
def acV:List Nat:=[40,67,148,154,176]
def Gl:bC:=⟨3,180,DL,[.cell 6 (some 7)]⟩
def qk:Rg:=[iA 6 (.alloc [zI,.aA,.aA,.aA,.aA,.aA,.aA])]
def ql:Rg:=[iM 7 0,iK 8 28 7,iM 9 1,iM 10 2,iA 11 (.call 0 [(Tm 8),(Tm 9),(Tm 10)]),iS 7 6 11]
def DK:aE:=(sq qk (sq ql .ret))
def acT:List Nat:=[]
def Fv:bC:=⟨3,12,DK,[.cell 6 (some 7)]⟩
def Hi:Rg:=[iA 3 (.box true (Tm 1)),iZ 4]
def Hj:Rg:=[iM 7 0,iA 8 (.call 4 [(Tm 7),(Ci 4)]),iC 9 .eql 8 0]
def Hk:Rg:=[iZ 4]
def Hl:Rg:=[iZ 5]
def Hm:Rg:=[iI 6 0]
def Hn:Rg:=[iM 10 6,iF 11 4 3,iL 12 11,iN 13 12,iB 14 .lss 10 13]
def Ho:Rg:=[iM 17 5,iM 18 0,iA 19 (.call 4 [(Tm 18),(Ci 7)]),iC 20 .sub 19 1,iA 21 (.aFC true 1 1 [zI] [(0,(Tm 20))]),iA 22 (.append 1 8 (Tm 17) (Tm 21)),iM 5 22]
def Hp:Rg:=[iM 15 6,iC 16 .add 15 1,iM 6 16]
def Hh:aE:=(.seq (sq Hn (.cond (Tm 14) .skip (.exit 0))) (.seq (.block 1 (.region Ho)) (.region Hp)))
def Hq:Rg:=[iM 23 5,iM 4 23]
def JQ:aE:=(sq Hi (.seq (sq Hj (.cond (Tm 9) (sq Hk .ret) .skip)) (sq Hl (.seq (sq Hm (.block 0 (.loop Hh))) (sq Hq .ret)))))
def akY:List Nat:=[3,21]
def Ye:bC:=⟨2,24,JQ,[.tmp 4]⟩
def fh:Rg:=[iA 3 (.box true (Tm 1)),iZ 4]
def fi:Rg:=[iZ 5]
def fj:Rg:=[iI 6 0]
def fk:Rg:=[iM 11 6,iF 12 6 3,iL 13 12,iN 14 13,iB 15 .lss 11 14]
def fl:Rg:=[iZ 7]
def fm:Rg:=[iM 18 0,iF 19 4 3,iL 20 19,iN 21 20,iC 22 .add 21 1,iK2 23 4 18 22,iM 8 23]
def fp:Rg:=[iI 9 0]
def JK:Rg:=[iM 24 9,iO 25 7 3,iM 26 6,iK2 27 82 25 26,iB 28 .lss 24 27]
def JL:Rg:=[iI 10 (-1)]
def JM:Rg:=[iF 31 4 3,iL 32 31,iN 33 32,iC 34 .gtr 33 0]
def DN:Rg:=[iM 35 8,iM 36 9,iB 37 .add 35 36,iF 38 4 3,iL 39 38,iN 40 39,iB 41 .rem 37 40,iM 10 41]
def DO:Rg:=[iM 42 0,iA 43 (.call 4 [(Tm 42),(Ci 6)])]
def DP:Rg:=[iC 45 .eql 43 0,iM 44 45]
def DQ:Rg:=[iM 46 0,iF 47 4 3,iL 48 47,iN 49 48,iK2 50 4 46 49,iM 10 50]
def wJ:Rg:=[iC 52 .eql 43 1,iM 51 52]
def DR:Rg:=[iM 53 0,iF 54 4 3,iL 55 54,iN 56 55,iC 57 .add 56 1,iK2 58 4 53 57,iC 59 .sub 58 1,iM 10 59]
def wK:Rg:=[iM 60 7,iM 61 10,iA 62 (.aFC true 1 1 [zI] [(0,(Tm 61))]),iA 63 (.append 1 8 (Tm 60) (Tm 62)),iM 7 63]
def DS:Rg:=[iM 29 9,iC 30 .add 29 1,iM 9 30]
def DM:aE:=(.seq (sq JK (.cond (Tm 28) .skip (.exit 2))) (.seq (.block 3 (sq JL (.seq (sq JM (.cond (Tm 34) (sq DN (sq DO (.block 4 (sq DP (.cond (Tm 44) (.region DQ) (sq wJ (.cond (Tm 51) (.region DR) .skip))))))) .skip)) (.region wK)))) (.region DS)))
def TV:Rg:=[iM 64 5,iM 65 7,iA 66 (.aFC true 1 1 [.aA] [(0,(Tm 65))]),iA 67 (.append 1 24 (Tm 64) (Tm 66)),iM 5 67]
def TW:Rg:=[iM 16 6,iC 17 .add 16 1,iM 6 17]
def TU:aE:=(.seq (sq fk (.cond (Tm 15) .skip (.exit 0))) (.seq (.block 1 (sq fl (sq fm (.seq (sq fp (.block 2 (.loop DM))) (.region TV))))) (.region TW)))
def TX:Rg:=[iM 68 5,iM 4 68]
def AS:aE:=(sq fh (sq fi (.seq (sq fj (.block 0 (.loop TU))) (sq TX .ret))))
def Ya:List Nat:=[3,62,66]
def lk:bC:=⟨2,69,AS,[.tmp 4]⟩
def Ke:Rg:=[iA 2 (.box true (Tm 0)),iI 4 0]
def Kf:Rd:=[(iF 6 5 2,false),(iL 7 6,false),(iF 8 6 2,false),(iL 9 8,false),(iM 10 1,false),(iX 11 2 9 10,false),(iF 12 1 11,false),(iL 13 12,false),(iX 14 17 7 13,false),(iO 15 17 14,false),(iA 5 (.alloc [(.str []),zI,zI,zI,zI,zI,zI,zI,zI,.aA,.aA,zB,.aA,.aA,zB,.aA,.aA]),true),(iS 17 5 15,true)]
def Kg:Rg:=[iF 16 1 5,iL 17 16,iF 18 2 5,iL 19 18,iB 20 .add 17 19,iM 4 20]
def KO:aE:=(sq Ke (dq Kf (sq Kg .ret)))
def amM:List Nat:=[2]
def Ze:bC:=⟨2,21,KO,[.tmp 4]⟩
def M6:Rg:=[iZ 2]
def M7:Rg:=[iM 4 0,iN 5 4,iM 3 5]
def M8:Rg:=[iM 6 3,iC 7 .gtr 6 0,iM 8 7,gM 9 0 8 true,gM 10 3 8 true,gC 11 .sub 10 1 8 true,iG 12 (.aFO 1 (Tm 9) (Tm 11)) 8 true,gL 13 12 8 true,iG 14 (.bin .eql (Tm 13) (.const (.int .u32 0))) 8 true,iP 15 8 14]
def M9:Rg:=[iM 16 3,iC 17 .sub 16 1,iM 3 17]
def M5:aE:=(.seq (sq M8 (.cond (Tm 15) .skip (.exit 0))) (.block 1 (.region M9)))
def ai:Rg:=[iM 18 0,iM 19 3,iA 20 (.slice 1 (Tm 18) none (some (Tm 19)) none),iA 21 (.append 1 4 (.const .aA) (Tm 20)),iM 2 21]
def LW:aE:=(sq M6 (sq M7 (.seq (.block 0 (.loop M5)) (sq ai .ret))))
def anX:List Nat:=[]
def Z1:bC:=⟨1,22,LW,[.tmp 2]⟩
def Mv:Rg:=[iZ 2]
def Mw:Rg:=[iM 3 0,iA 4 (.conv .u32 (Tm 3)),iM 5 0,iA 6 (.bin .shr (Tm 5) (.const (.int .u64 32))),iA 7 (.conv .u32 (Tm 6)),iA 8 (.aFC true 1 2 [(.int .u32 0)] [(0,(Tm 4)),(1,(Tm 7))]),iK 9 38 8,iM 2 9]
def LK:aE:=(sq Mv (sq Mw .ret))
def anO:List Nat:=[8]
def Zw:bC:=⟨1,10,LK,[.tmp 2]⟩
def wz:Rg:=[iT 2 false]
def w8:Rg:=[iM 3 0,iK 4 38 3,iN 5 4,iC 6 .gtr 5 512,iM 2 6]
def FI:aE:=(sq wz (sq w8 .ret))
def afT:List Nat:=[]
def Mu:bC:=⟨1,7,FI,[.tmp 2]⟩
def Ve:Rg:=[iI 4 0]
def Vf:Rg:=[iM 6 0,iK 7 38 6,iM 8 1,iK 9 38 8,iM 0 7,iM 1 9]
def Vg:Rg:=[iM 10 0,iN 11 10,iM 12 1,iN 13 12,iB 14 .neq 11 13]
def Vh:Rg:=[iM 15 0,iN 16 15,iM 17 1,iN 18 17,iB 19 .lss 16 18]
def Vi:Rg:=[iI 4 (-1)]
def Vj:Rg:=[iI 4 1]
def Vk:Rg:=[iM 20 0,iN 21 20,iC 22 .sub 21 1,iM 5 22]
def Vl:Rg:=[iM 23 5,iC 24 .geq 23 0]
def Vm:Rd:=[(iM 27 0,false),(iM 28 5,false),(iX 29 1 27 28,false),(iL 30 29,false),(iM 31 1,false),(iM 32 5,false),(iX 33 1 31 32,false),(iL 34 33,false),(iB 35 .lss 30 34,false)]
def Vn:Rg:=[iI 4 (-1)]
def Mh:Rd:=[(iM 36 0,false),(iM 37 5,false),(iX 38 1 36 37,false),(iL 39 38,false),(iM 40 1,false),(iM 41 5,false),(iX 42 1 40 41,false),(iL 43 42,false),(iB 44 .gtr 39 43,false)]
def Mi:Rg:=[iI 4 1]
def Mj:Rg:=[iM 25 5,iC 26 .sub 25 1,iM 5 26]
def Mg:aE:=(.seq (sq Vl (.cond (Tm 24) .skip (.exit 0))) (.seq (.block 1 (.seq (dq Vm (.cond (Tm 35) (sq Vn .ret) .skip)) (dq Mh (.cond (Tm 44) (sq Mi .ret) .skip)))) (.region Mj)))
def Mk:Rg:=[iI 4 0]
def RD:aE:=(sq Ve (sq Vf (.seq (sq Vg (.cond (Tm 14) (.seq (sq Vh (.cond (Tm 19) (sq Vi .ret) .skip)) (sq Vj .ret)) .skip)) (.seq (sq Vk (.block 0 (.loop Mg))) (sq Mk .ret)))))
def auG:List Nat:=[]
def anH:bC:=⟨2,45,RD,[.tmp 4]⟩
def iz:Rg:=[iZ 4,iZ 5]
def i0:Rg:=[iM 20 0,iM 21 1,iK2 22 32 20 21,iC 23 .lss 22 0]
def i5:Rg:=[iM 24 0,iK 25 38 24,iZ 4,iM 5 25]
def i6:Rg:=[iM 26 1,iN 27 26,iC 28 .eql 27 1]
def LF:Rg:=[iM 29 0,iN 30 29,iA 31 (.aFF 1 4 [(.int .u32 0)] (Tm 30) (Tm 30)),iM 6 31]
def LG:Rg:=[iA 7 (.mv (.const (.int .u64 0)))]
def LH:Rg:=[iM 32 0,iN 33 32,iC 34 .sub 33 1,iM 8 34]
def i7:Rg:=[iM 35 8,iC 36 .geq 35 0]
def i8:Rg:=[iM 39 7,iA 40 (.bin .shl (Tm 39) (.const (.int .u64 32))),iM 41 0,iM 42 8,iX 43 1 41 42,iL 44 43,iA 45 (.conv .u64 (Tm 44)),iB 46 .or 40 45,iM 9 46]
def i9:Rg:=[iM 47 6,iM 48 8,iM 49 9,iM 50 1,iA 51 (.aFO 1 (Tm 50) (Ci 0)),iL 52 51,iA 53 (.conv .u64 (Tm 52)),iB 54 .quo 49 53,iA 55 (.conv .u32 (Tm 54)),iX 56 1 47 48,iS 1 56 55]
def UX:Rg:=[iM 57 9,iM 58 1,iA 59 (.aFO 1 (Tm 58) (Ci 0)),iL 60 59,iA 61 (.conv .u64 (Tm 60)),iB 62 .rem 57 61,iM 7 62]
def UY:Rg:=[iM 37 8,iC 38 .sub 37 1,iM 8 38]
def EV:aE:=(.seq (sq i7 (.cond (Tm 36) .skip (.exit 0))) (.seq (.block 1 (sq i8 (sq i9 (.region UX)))) (.region UY)))
def EW:Rg:=[iM 63 6,iK 64 38 63,iM 65 7,iK 66 35 65,iM 4 64,iM 5 66]
def UZ:Rg:=[iM 67 1,iN 68 67,iA 69 (.bin .mul (Ci 32) (Tm 68)),iM 70 1,iK 71 31 70,iB 72 .sub 69 71,iM 10 72]
def VA:Rg:=[iM 73 0,iM 74 10,iK2 75 45 73 74,iA 76 (.aFC true 1 2 [(.int .u32 0)] [(0,(.const (.int .u32 0))),(1,(.const (.int .u32 0)))]),iA 77 (.append 1 4 (Tm 75) (Tm 76)),iM 78 1,iM 79 10,iK2 80 45 78 79,iM 11 77,iM 12 80]
def EX:Rg:=[iM 81 11,iM 82 0,iM 83 10,iK2 84 45 82 83,iN 85 84,iC 86 .add 85 1,iA 87 (.slice 1 (Tm 81) none (some (Tm 86)) none),iM 11 87]
def EY:Rg:=[iM 88 12,iM 89 12,iN 90 89,iC 91 .sub 90 1,iX 92 1 88 91,iL 93 92,iA 94 (.conv .u64 (Tm 93)),iM 13 94]
def EZ:Rg:=[iM 95 11,iN 96 95,iM 97 12,iN 98 97,iB 99 .sub 96 98,iA 100 (.aFF 1 4 [(.int .u32 0)] (Tm 99) (Tm 99)),iM 14 100]
def FA:Rg:=[iM 101 14,iN 102 101,iC 103 .sub 102 1,iM 15 103]
def VB:Rg:=[iM 104 15,iC 105 .geq 104 0]
def VC:Rd:=[(iM 108 11,false),(iM 109 15,false),(iM 110 12,false),(iN 111 110,false),(iB 112 .add 109 111,false),(iX 113 1 108 112,false),(iL 114 113,false),(iA 115 (.conv .u64 (Tm 114)),false),(iA 116 (.bin .shl (Tm 115) (.const (.int .u64 32))),false),(iM 117 11,false),(iM 118 15,false),(iM 119 12,false),(iN 120 119,false),(iB 121 .add 118 120,false),(iC 122 .sub 121 1,false),(iX 123 1 117 122,false),(iL 124 123,false),(iA 125 (.conv .u64 (Tm 124)),false),(iB 126 .or 116 125,false),(iM 16 126,false)]
def VD:Rg:=[iM 127 16,iM 128 13,iB 129 .quo 127 128,iM 17 129]
def VE:Rg:=[iM 130 17,iA 131 (.bin .gtr (Tm 130) (.const (.int .u64 4294967295)))]
def VG:Rg:=[iA 17 (.mv (.const (.int .u64 4294967295)))]
def VH:Rd:=[(iM 132 12,true),(iM 133 17,false),(iK 134 35 133,true),(iK2 135 44 132 134,true),(iM 136 11,true),(iM 137 15,true),(iM 138 15,true),(iM 139 12,true),(iN 140 139,true),(iB 141 .add 138 140,true),(iC 142 .add 141 1,true),(iA 143 (.slice 1 (Tm 136) (some (Tm 137)) (some (Tm 142)) none),true),(iA 144 (.append 1 4 (.const .aA) (Tm 143)),true),(iK2 145 32 135 144,true),(iC 146 .gtr 145 0,false)]
def VI:Rg:=[iM 147 17,iA 148 (.bin .sub (Tm 147) (.const (.int .u64 1))),iM 17 148]
def wR:aE:=(.seq (dq VH (.cond (Tm 146) .skip (.exit 4))) (.block 5 (.region VI)))
def FB:Rg:=[iM 149 11,iM 150 15,iM 151 15,iM 152 12,iN 153 152,iB 154 .add 151 153,iC 155 .add 154 1,iA 156 (.slice 1 (Tm 149) (some (Tm 150)) (some (Tm 155)) none),iA 157 (.append 1 4 (.const .aA) (Tm 156)),iM 158 12,iM 159 17,iK 160 35 159,iK2 161 44 158 160,iK2 162 42 157 161,iM 18 162]
def FC:Rg:=[iI 19 0]
def VJ:Rg:=[iM 163 19,iM 164 12,iN 165 164,iB 166 .leq 163 165]
def VK:Rg:=[iM 169 11,iM 170 15,iM 171 19,iB 172 .add 170 171,iX 173 1 169 172,⟨none,.store 1 (Tm 173) (.const (.int .u32 0)),none⟩]
def VL:Rg:=[iM 174 19,iM 175 18,iN 176 175,iB 177 .lss 174 176]
def VM:Rg:=[iM 178 11,iM 179 15,iM 180 19,iB 181 .add 179 180,iM 182 18,iM 183 19,iX 184 1 182 183,iL 185 184,iX 186 1 178 181,iS 1 186 185]
def FD:Rg:=[iM 167 19,iC 168 .add 167 1,iM 19 168]
def wS:aE:=(.seq (sq VJ (.cond (Tm 166) .skip (.exit 6))) (.seq (.block 7 (sq VK (sq VL (.cond (Tm 177) (.region VM) .skip)))) (.region FD)))
def FF:Rg:=[iM 187 14,iM 188 15,iM 189 17,iA 190 (.conv .u32 (Tm 189)),iX 191 1 187 188,iS 1 191 190]
def FG:Rg:=[iM 106 15,iC 107 .sub 106 1,iM 15 107]
def wT:aE:=(.seq (sq VB (.cond (Tm 105) .skip (.exit 2))) (.seq (.block 3 (dq VC (sq VD (.seq (sq VE (.cond (Tm 131) (.region VG) .skip)) (.seq (.block 4 (.loop wR)) (sq FB (.seq (sq FC (.block 6 (.loop wS))) (.region FF)))))))) (.region FG)))
def FH:Rg:=[iM 192 14,iK 193 38 192,iM 194 11,iK 195 38 194,iM 196 10,iK2 197 40 195 196,iM 4 193,iM 5 197]
def BC:aE:=(sq iz (.seq (sq i0 (.cond (Tm 23) (sq i5 .ret) .skip)) (.seq (sq i6 (.cond (Tm 28) (sq LF (sq LG (.seq (sq LH (.block 0 (.loop EV))) (sq EW .ret)))) .skip)) (sq UZ (sq VA (sq EX (sq EY (sq EZ (.seq (sq FA (.block 2 (.loop wT))) (sq FH .ret))))))))))
def Zt:List Nat:=[76]
def ni:bC:=⟨2,198,BC,[.tmp 4,.tmp 5]⟩
def Vo:Rg:=[iZ 4,iZ 5,iI 6 0]
def Vp:Rg:=[iM 9 0,iK 10 41 9,iM 11 10,gM 12 1 11 false,gK 13 41 12 11 false,iQ 14 11 13]
def nc:Rg:=[iZ 4,iZ 5,iI 6 2]
def Vq:Rg:=[iM 15 1,iK 16 38 15,iN 17 16,iC 18 .eql 17 0]
def Vs:Rg:=[iZ 4,iZ 5,iI 6 3]
def Vt:Rg:=[iM 20 0,iK 21 38 20,iM 22 1,iK 23 38 22,iK2 24 39 21 23,iM 19 24,iE 25 19 0,iE 26 19 1,iM 7 25,iM 8 26]
def Vu:Rg:=[iM 27 7,iM 28 8,iM 4 27,iM 5 28,iI 6 0]
def RE:aE:=(sq Vo (.seq (sq Vp (.cond (Tm 14) (sq nc .ret) .skip)) (.seq (sq Vq (.cond (Tm 18) (sq Vs .ret) .skip)) (sq Vt (sq Vu .ret)))))
def auI:List Nat:=[]
def udiv:bC:=⟨2,29,RE,[.tmp 4,.tmp 5,.tmp 6]⟩
def Vw:Rg:=[iZ 4,iI 5 0]
def Vx:Rg:=[iM 10 0,iK 11 41 10,iM 12 11,gM 13 1 12 false,gK 14 41 13 12 false,iQ 15 12 14]
def nj:Rg:=[iZ 4,iI 5 2]
def Vy:Rg:=[iM 16 0,iK 17 38 16,iM 18 1,iK 19 38 18,iM 6 17,iM 7 19]
def Vz:Rg:=[iM 20 7,iN 21 20,iC 22 .gtr 21 0]
def V0:Rg:=[iM 24 6,iM 25 7,iK2 26 39 24 25,iM 23 26,iE 27 23 0,iE 28 23 1,iM 8 27,iM 9 28]
def V1:Rg:=[iM 29 7,iM 30 9,iM 6 29,iM 7 30]
def Vv:aE:=(.seq (sq Vz (.cond (Tm 22) .skip (.exit 0))) (.block 1 (sq V0 (.region V1))))
def V2:Rg:=[iM 31 6,iM 4 31,iI 5 0]
def RI:aE:=(sq Vw (.seq (sq Vx (.cond (Tm 15) (sq nj .ret) .skip)) (sq Vy (.seq (.block 0 (.loop Vv)) (sq V2 .ret)))))
def auK:List Nat:=[]
def anM:bC:=⟨2,32,RI,[.tmp 4,.tmp 5]⟩
def jk:Rg:=[iA 6 (.alloc [zB,.aA,.aA])]
def jl:Rg:=[iM 9 1,iK 10 38 9,iM 11 2,iK 12 38 11,iM 1 10,iM 2 12]
def jm:Rg:=[iM 13 1,iN 14 13,iC 15 .eql 14 0]
def jn:Rg:=[iA 16 (.aFC true 1 1 [(.int .u32 0)] [(0,(.const (.int .u32 1)))]),iA 17 (.build [zB,.aA,.aA] [(2,1,(Tm 16))]),iS 3 6 17]
def jo:Rg:=[iM 19 1,iM 20 2,iK2 21 34 19 20,iM 18 21,iE 22 18 0,iE 23 18 1,iM 7 22,iM 8 23]
def jp:Rg:=[iM 24 7,iN 25 24,iC 26 .gtr 25 1,iM 27 26,gM 28 7 27 false,iG 29 (.aFO 1 (Tm 28) (Ci 0)) 27 false,gL 30 29 27 false,iG 31 (.bin .gtr (Tm 30) (.const (.int .u32 1))) 27 false,iQ 32 27 31]
def LX:Rg:=[iM 34 1,iM 35 7,iK2 36 33 34 35,iM 33 36,iE 37 33 0,iE 38 33 1,iE 39 33 2,iM 1 37]
def LY:Rg:=[iM 41 2,iM 42 7,iK2 43 33 41 42,iM 40 43,iE 44 40 0,iE 45 40 1,iE 46 40 2,iM 2 44]
def zF:Rg:=[iM 47 0,iM 48 1,iM 49 2,iA 50 (.build [zB,.aA,.aA] [(0,1,(Tm 47)),(1,1,(Tm 48)),(2,1,(Tm 49))]),iS 3 6 50]
def BE:aE:=(sq jk (sq jl (.seq (sq jm (.cond (Tm 15) (sq jn .ret) .skip)) (.seq (sq jo (sq jp (.cond (Tm 32) (sq LX (.region LY)) .skip))) (sq zF .ret)))))
def Z8:List Nat:=[16]
def np:bC:=⟨3,51,BE,[.cell 6 (some 3)]⟩
def Nk:Rg:=[iA 2 (.mv (.const (.int .u64 0)))]
def Nl:Rg:=[iM 3 0,iC 4 .lss 3 0]
def Nm:Rg:=[iM 5 0,iC 6 .add 5 1,iA 7 (.un .neg (Tm 6)),iA 8 (.conv .u64 (Tm 7)),iA 9 (.bin .add (Tm 8) (.const (.int .u64 1))),iM 2 9]
def Nn:Rg:=[iM 10 0,iA 11 (.conv .u64 (Tm 10)),iM 2 11]
def MA:aE:=(sq Nk (.seq (sq Nl (.cond (Tm 4) (sq Nm .ret) .skip)) (sq Nn .ret)))
def aoG:List Nat:=[]
def Z9:bC:=⟨1,12,MA,[.tmp 2]⟩
def Nd:Rg:=[iA 4 (.alloc [zB,.aA,.aA]),iI 5 0]
def Nf:Rg:=[iM 6 1,iC 7 .eql 6 0]
def Ng:Rg:=[iA 8 (.build [zB,.aA,.aA] []),iS 3 4 8,iI 5 3]
def Nh:Rg:=[iM 9 0,iC 10 .lss 9 0,iM 11 1,iC 12 .lss 11 0,iA 13 (.eqb true (Tm 10) (Tm 12)),iM 14 0,iK 15 59 14,iK 16 35 15,iM 17 1,iK 18 59 17,iK 19 35 18,iA 20 (.call 58 [(Tm 13),(Tm 16),(Tm 19)]),iS 3 4 20,iI 5 0]
def LZ:aE:=(sq Nd (.seq (sq Nf (.cond (Tm 7) (sq Ng .ret) .skip)) (sq Nh .ret)))
def aoE:List Nat:=[]
def ze:bC:=⟨2,21,LZ,[.cell 4 (some 3),.tmp 5]⟩
def V6:Rg:=[iA 2 (.alloc [zB,.aA,.aA])]
def V7:Rg:=[iM 6 0,iA 7 (.call 50 [(Tm 6),(Ci 1)]),iM 5 7,iE 8 5 0,iE 9 5 1,iA 3 (.alloc [zB,.aA,.aA]),iS 3 3 8,iM 4 9]
def V8:Rg:=[iO 10 3 3,iS 3 2 10]
def RT:aE:=(sq V6 (sq V7 (sq V8 .ret)))
def auO:List Nat:=[]
def aoC:bC:=⟨1,11,RT,[.cell 2 (some 3)]⟩
def utF (xs:List Nat) (n:Nat):PF:=((PF.nil.set 0 (aJ xs)).set 3 (.int .i64 n))
theorem anW {C:Ctx} (xs:List Nat) (R:Lim xs) (S:xs.length≤35184372087808):LW.wp C (aT Z1.res (nP 1 (aI (aK (val xs))))) (PF.args [aJ xs]) .nil:=by
 simp only[go_sem,LW,M6,M7,Z1,aGK];refine wp_loop (α:=Nat) (fun n=>utF xs n) (fun _=>.nil) (fun n=>n≤xs.length∧∀ j x,n≤j→xs[j]?=some x→x=0) (fun n=>n) xs.length ⟨aGQ _,fun j x B l=>?_⟩ ?_ a_ ?_
 ·rw[aHZ B] at l; cases l
 ·unfold utF;exact Lq
 rintro n ⟨N,J⟩;have done:(0<n→∀ h:n-1<xs.length,xs[n-1]≠0)→∀ F:PF,(utF xs n).le F→aE.wp C (.seq (.region ai) .ret) (aT [.tmp 2] (nP 1 (aI (aK (val xs))))) F .nil:=by
  intro h F A;have f0:F 0=some (aJ xs):=A 0 _ (by unfold utF; simp only[go_sem]);have K:F 3=some (.int .i64 n):=A 3 _ (by unfold utF; simp only[go_sem]);have E:xs.take n=aK (val xs):=KV R N J fun x w l=>by
   rw[aGS Om] at l;injection l with l
   subst l;exact h w Om
  have M:((n:Nat):Int)≤(xs.length:Nat):=Om;simp only[go_sem,ai,f0,K,aGK,M,or_true,aHW];refine jP (rows:=[]) (src:=aI (aK (val xs))) .nil ?_ ?_ fun v H' O _=>?_
  ·simp only[go_sem];rw[← E,← List.map_take]
  ·unfold roomFor;rw[bX,← E,aGY];simp only[aIV,maxLen];omega
  ·exact KG (.inr rfl) (by simpa using O) rfl
 simp only[aE.wp,go_sem] at done;simp only[go_sem,M5,M8,utF];by_cases w:0<n
 ·have u:((n:Nat):Int)>0:=Om;have hlt:n-1<xs.length:=Om;have y:=bN xs hlt;have I:IntKind.i64.wrap ((n:Int)-1)=((n-1:Nat):Int):=xP Om w;simp only[go_sem,u,I,y];by_cases c:xs[n-1]=0
  ·simp only[go_sem,bM (Om:((xs[n-1]:Nat):Int)=0),M9,I];refine aH (n-1) ⟨by omega,fun j x B l=>?_⟩ Om ?_ a_
   ·by_cases e:j=n-1
    ·subst e;rw[aGS hlt] at l;injection l with l
     omega
    ·exact J j x Om l
   ·exact Lq
  ·simp only[go_sem,bB (Om:((xs[n-1]:Nat):Int)≠0)];exact done (fun _ _=>c) _ (by unfold utF; exact Lq)
 ·have u:¬ ((n:Nat):Int)>0:=Om;simp only[go_sem,u];exact done (fun h=>absurd h w) _ (by unfold utF; exact Lq)
structure qM (C:Ctx):Prop where
 trimM:∀ xs,Lim xs→xs.length≤35184372087808→aG C 38 [aJ xs] .nil (nP 1 (aI (aK (val xs))))
theorem qM.trim {C:Ctx} (L:qM C) (xs:List Nat) (j:Lim xs) (e:xs.length≤35184372087808):aG C 38 [aJ xs] .nil (aM (aJ (aK (val xs)))):=(L.trimM xs j e).freeze
theorem anN {C:Ctx} (L:qM C) (v:Nat) (E:v<18446744073709551616):LK.wp C (aT Zw.res (cD (aJ (aK v)))) (PF.args [.int .u64 v]) .nil:=by
 have y:IntKind.u32.wrap ((v:Nat):Int)=((v%4294967296:Nat):Int):=cI v;have l:v/4294967296<4294967296:=Om;have A:IntKind.u32.wrap ((v/4294967296:Nat):Int)=((v/4294967296:Nat):Int):=by rw[cI,aIB l]
 have B:Lim [v%4294967296,v/4294967296]:=by
  intro x w;simp only[aGV,List.mem_nil_iff,or_false] at w;rcases w with rfl | rfl
  ·exact aIG _ (by decide)
  ·exact l
 have e:val [v%4294967296,v/4294967296]=v:=by simp only[val,Nat.mul_zero,aIC]; exact Nat.mod_add_div v 4294967296
 have j:shift .shr .u64 (v:Int) 32=some (.int .u64 ((v/4294967296:Nat):Int)):=yX;have hb:(2:Nat)*1≤16777216:=by decide
 simp only[go_sem,LK,Mv,Mw,Zw,y,j,A,hb];have u:=L.trim [v%4294967296,v/4294967296] B (by simp);rw[e] at u;refine aB u rfl ?_;simp only[go_sem];exact aU (.inr rfl) .nil rfl a_ ⟨.refl _,rfl⟩
theorem afS {C:Ctx} (L:qM C) (xs:List Nat) (j:Lim xs) (e:xs.length≤35184372087808):FI.wp C (aT Mu.res (cD (.bool (decide (nl (val xs)>512))))) (PF.args [aJ xs]) .nil:=by
 simp only[go_sem,FI,wz,w8,Mu];refine aB (L.trim xs j e) rfl ?_;simp only[go_sem,aGK,bJ];refine aV rfl ?_;rw[decide_eq_decide];omega
theorem Ws {a b:Nat} (h:nl a<nl b):eP a b=-1:=by
 have:a<b:=by
  rcases aHD a b with h' | h'
  ·exact h'
  ·have:=jW h'; omega
 simp[eP,this]
theorem Wq {a b:Nat} (h:nl b<nl a):eP a b=1:=by
 have:b<a:=by
  rcases aHD b a with h' | h'
  ·exact h'
  ·have:=jW h'; omega
 have e:¬ a<b:=Om;simp[eP,this,e]
def Zq (X Y:List Nat) (i:Int):PF:=(((PF.nil.set 0 (aJ X)).set 1 (aJ Y)).set 5 (.int .i64 i))
theorem auF {C:Ctx} (L:qM C) (xs e:List Nat) (B:Lim xs) (E:Lim e) (W:xs.length≤35184372087808) (Z:e.length≤35184372087808) :
  RD.wp C (aT anH.res (aM (.int .i64 (eP (val xs) (val e))))) (PF.args [aJ xs,aJ e]) .nil:=by
 simp only[go_sem,RD,Ve,Vf,anH];refine aB (L.trim xs B W) Ev ?_;simp only[go_sem];refine aB (L.trim e E Z) Ev ?_;have bx:=fY B;have J:=fY E;simp only[go_sem,Vg,aGK,bJ];by_cases w:nl (val xs)≠nl (val e)
 ·simp only[go_sem,dN (show ((nl (val xs):Nat):Int)≠(nl (val e):Nat) by omega),Vh];by_cases K:nl (val xs)<nl (val e)
  ·simp only[go_sem,aGK,bJ,show ((nl (val xs):Nat):Int)<(nl (val e):Nat) by omega,Vi];refine cE (.inr rfl) Ev ?_;rw[Ws K]; rfl
  ·simp only[go_sem,aGK,bJ,show ¬ ((nl (val xs):Nat):Int)<(nl (val e):Nat) by omega,Vj];refine cE (.inr rfl) Ev ?_;rw[Wq Om]; rfl
 replace w:=Decidable.of_not_not w;simp only[go_sem,cK (show ((nl (val xs):Nat):Int)=(nl (val e):Nat) by omega),Vk,aGK,bJ];have ex:=aY (val xs);have x:=aY (val e);have F:=bE (val xs);have I:=bE (val e);generalize R:aK (val xs)=X at *
 generalize S:aK (val e)=Y at *
 have U:X.length=nl (val xs):=by rw[← R]; rfl
 have V:Y.length=nl (val xs):=by rw[w,← S]; rfl
 refine wp_loop (α:=Nat) (fun k=>Zq X Y ((k:Int)-1)) (fun _=>.nil) (fun k=>k≤nl (val xs)∧X.drop k=Y.drop k) (fun k=>k) (nl (val xs)) ⟨aGQ _,?_⟩ ?_ a_ ?_
 ·rw[aKG Om,aKG Om]
 ·unfold Zq
  (repeat' (first|exact d_|refine c_ ?_ ?_))<;>first|(simp only[go_sem,wrap_i64 (show -9223372036854775808≤((nl (val xs):Nat):Int)-1 by omega) (show ((nl (val xs):Nat):Int)-1≤9223372036854775807 by omega)]<;>rfl)|rfl
 rintro k ⟨hk,j⟩;simp only[go_sem,Mg,Vl,Zq];by_cases h0:0<k
 ·obtain⟨m,rfl⟩:∃ m,k=m+1:=⟨k-1,by omega⟩;have A:((m+1:Nat):Int)-1=(m:Int):=Om;have y:(m:Int)≥0:=Om;have l:m<X.length:=Om;have u:m<Y.length:=Om;simp only[go_sem,A,y];refine bP .nil dD a_ ?_;simp only[go_sem,Vm,bN X l,bN Y u];by_cases M:X[m]<Y[m]
  ·simp only[go_sem,show ((X[m]:Nat):Int)<(Y[m]:Nat) by omega,Vn];refine cE (.inr rfl) Ev ?_;have:=br F l u j M;rw[ex,x] at this;simp[cZ,eP,this]
  ·simp only[go_sem,show ¬ ((X[m]:Nat):Int)<(Y[m]:Nat) by omega];refine bP .nil dD a_ ?_;simp only[go_sem,Mh,bN X l,bN Y u];by_cases N:X[m]>Y[m]
   ·simp only[go_sem,show ((X[m]:Nat):Int)>(Y[m]:Nat) by omega,Mi];refine cE (.inr rfl) Ev ?_;have:=br I u l j.symm N;rw[ex,x] at this;have O:¬ val xs<val e:=Om;simp[cZ,eP,this,O]
   ·simp only[go_sem,show ¬ ((X[m]:Nat):Int)>(Y[m]:Nat) by omega,Mj];refine aH m ⟨by omega,nz l u j Om⟩ Om ?_ a_
    (repeat' (first|exact d_|refine c_ ?_ ?_))<;>first|(simp only[go_sem,wrap_i64 (Om:-9223372036854775808≤(m:Int)-1) (Om:(m:Int)-1≤9223372036854775807)]<;>rfl)|rfl
 ·have:k=0:=Om;subst this;have A:¬ ((0:Nat):Int)-1≥0:=by decide
  simp only[go_sem,A,Mk];refine cE (.inr rfl) Ev ?_;rw[aHW,aHW] at j;have:val xs=val e:=by rw[← ex,← x,j]
  simp[cZ,eP,this]
theorem CR (n:Nat):(((n:Nat):Int)==0)=decide (n=0):=by
 by_cases h:n=0
 ·subst h; rfl
 ·rw[bB Om,decide_eq_false h]
structure zp (C:Ctx):Prop extends qM C where
 make:∀ v:Nat,v<18446744073709551616→aG C 35 [.int .u64 v] .nil (aM (aJ (aK v)))
 large:∀ xs,Lim xs→xs.length≤35184372087808→aG C 41 [aJ xs] .nil (aM (.bool (decide (nl (val xs)>512))))
 cmp:∀ xs ys,Lim xs→Lim ys→xs.length≤35184372087808→ys.length≤35184372087808→aG C 32 [aJ xs,aJ ys] .nil (aM (.int .i64 (eP (val xs) (val ys))))
def Zv (a b:Nat):PF:=((PF.nil.set 6 (aJ (aK a))).set 7 (aJ (aK b)))
structure ay (C:Ctx):Prop extends zp C where
 divide:∀ A B:Nat,B≠0→nl A≤512→nl B≤512→aG C 39 [aJ (aK A),aJ (aK B)] .nil (aM (rE A B))
def Xf (a b:Nat):PV:=if fO a b then .tup [aJ [],.int .i64 2] else .tup [aJ (aK (aGN a b)),.int .i64 0]
theorem auJ {C:Ctx} (L:ay C) (a b:List Nat) (w:Lim a) (hb:Lim b) (B:a.length≤35184372087808) (E:b.length≤35184372087808) :
  RI.wp C (aT anM.res (cD (Xf (val a) (val b)))) (PF.args [aJ a,aJ b]) .nil:=by
 unfold Xf;simp only[go_sem,RI,Vw,Vx,anM];refine aB (L.large a w B) rfl ?_;by_cases e:nl (val a)>512
 ·simp only[go_sem,e,nj];rw[if_pos (by simp[fO,e])];exact kJ rfl
 simp only[go_sem,e];refine aB (L.large b hb E) rfl ?_;by_cases j:nl (val b)>512
 ·simp only[go_sem,j,nj];rw[if_pos (by simp[fO,j])];exact kJ rfl
 rw[if_neg (by simp[fO,e,j])];simp only[go_sem,j,Vy];refine aB (L.trim a w B) rfl ?_;simp only[go_sem];refine aB (L.trim b hb E) rfl ?_;simp only[go_sem];refine wp_loop (α:=Nat × Nat) (fun t=>Zv t.1 t.2) (fun _=>.nil) (fun t=>aGN t.1 t.2=aGN (val a) (val b)∧nl t.1≤512∧nl t.2≤512) (fun t=>t.2) (val a,val b) ⟨rfl,by simp only; omega,by simp only; omega⟩ ?_ a_ ?_
 ·unfold Zv;exact Lq
 rintro⟨x,y⟩ ⟨u,F,A⟩;simp only at u F A;simp only[go_sem,Vv,Vz,Zv,bJ];by_cases l:y=0
 ·subst l;have:¬ ((nl 0:Nat):Int)>0:=by rw[zX]; decide
  simp only[go_sem,this,V2];refine aU (vs:=[aJ (aK x),.int .i64 0]) (.inr rfl) .nil rfl a_ ⟨?_,rfl⟩;rw[← u,Nat.gcd_zero_right];exact .refl _
 ·have I:nl y≠0:=fun h=>l (lM.1 h);have:((nl y:Nat):Int)>0:=Om;simp only[go_sem,this,V0];refine aB (L.divide x y l Om Om) rfl ?_;simp only[go_sem,rE,V1];have hlt:x%y<y:=aIG _ (aJE l);refine aH (y,x%y) ⟨?_,A,?_⟩ hlt ?_ a_
  ·simp only;rw[← u,Nat.gcd_comm y,← Nat.gcd_rec y x,Nat.gcd_comm]
  ·have:=jW (Nat.le_of_lt hlt);simp only; omega
  ·exact Lq
theorem auH {C:Ctx} (L:ay C) (a b:List Nat) (w:Lim a) (hb:Lim b) (x:a.length≤35184372087808) (u:b.length≤35184372087808) :
  RE.wp C (aT udiv.res (cD (nS (val a) (val b)))) (PF.args [aJ a,aJ b]) .nil:=by
 unfold nS;simp only[go_sem,RE,Vo,Vp,udiv];refine aB (L.large a w x) rfl ?_;by_cases j:nl (val a)>512
 ·simp only[go_sem,j,nc];rw[if_pos (by simp[fO,j])];exact sX rfl
 simp only[go_sem,j];refine aB (L.large b hb u) rfl ?_;by_cases l:nl (val b)>512
 ·simp only[go_sem,l,nc];rw[if_pos (by simp[fO,l])];exact sX rfl
 rw[if_neg (by simp[fO,j,l])];simp only[go_sem,l,Vq];refine aB (L.trim b hb u) rfl ?_;simp only[go_sem,aGK,bJ,CR,lM];by_cases e:val b=0
 ·rw[if_pos e];simp only[go_sem,decide_eq_true e,Vs];exact sX rfl
 rw[if_neg e];simp only[go_sem,decide_eq_false e,Vt];refine aB (L.trim a w x) rfl ?_;simp only[go_sem];refine aB (L.trim b hb u) rfl ?_;simp only[go_sem];refine aB (L.divide (val a) (val b) e Om Om) rfl ?_;simp only[go_sem,rE,Vu];exact aU (.inr rfl) .nil rfl a_ ⟨.refl _,rfl⟩
def vL (neg:Bool) (a b:Nat):FV:=(neg&&decide (a/aGN a b≠0),a/aGN a b,b/aGN a b)
structure zq (C:Ctx):Prop extends ay C where
 gcd:∀ a b,Lim a→Lim b→a.length≤35184372087808→b.length≤35184372087808→aG C 34 [aJ a,aJ b] .nil (aM (Xf (val a) (val b)))
 div:∀ a b,Lim a→Lim b→a.length≤35184372087808→b.length≤35184372087808→aG C 33 [aJ a,aJ b] .nil (aM (nS (val a) (val b)))
theorem uI {n:Nat} (h:nl n≤512):(aK n).length≤35184372087808:=by rw[bJ]; omega
theorem qg:aK 1=[1]:=pD (by decide) (by decide)
theorem c8 {n:Nat} (h:n≠0):aK n=n%4294967296::aK (n/4294967296):=sW h
theorem AM {n:Nat} (h:n≠0):(nl n>1∨n%4294967296>1)↔n≠1:=by
 constructor
 ·rintro h1 rfl;rcases h1 with h1 | h1
  ·rw[nl,qg] at h1; simp at h1
  ·omega
 ·intro h1;by_cases c:nl n>1
  ·exact .inl c
  ·have:n<4294967296 ^ 1:=(jM n 1).1 Om;rw[Nat.pow_one] at this;rw[aIB this];exact .inr Om
theorem Z7 {C:Ctx} (L:zq C) (neg:Bool) (a b:List Nat) (Y:Lim a) (hb:Lim b) (la:a.length≤35184372087808) (lb:b.length≤35184372087808) (E:nl (val a)≤512) (A:nl (val b)≤512) (I:val b≠0) :
  BE.wp C (aT np.res (cD (.agg (vL neg (val a) (val b)).rf.cells))) (PF.args [.bool neg,aJ a,aJ b]) .nil:=by
 have j:aGN (val a) (val b)≠0:=fun h=>I (Nat.eq_zero_of_gcd_eq_zero_right h);have M:aGN (val a) (val b)≤val b:=Nat.gcd_le_right _ (aJE I);have R:nl (aGN (val a) (val b))≤512:=aJC (jW M) A;have N:fO (val a) (val b)=false:=lK E A;simp only[go_sem,BE,jk,jl,np];refine aQ fun o ho=>?_;simp only[go_sem];refine aB (L.trim a Y la) rfl ?_;simp only[go_sem];refine aB (L.trim b hb lb) rfl ?_;simp only[go_sem,jm,aGK,bJ,CR,lM];by_cases B:val a=0
 ·simp only[go_sem,decide_eq_true B,jn];have e:(vL neg (val a) (val b)).rf=⟨false,[],[1]⟩:=by rw[B];unfold vL FV.rf;simp[gV,Nat.div_self (aJE I),qg]
  rw[e];refine aU (vs:=[.agg [.bool false,.aA,aJ [1]]]) (.inr rfl) .nil ?_ a_ ⟨show Co (.agg _) (.agg _) from CoL.agg (CoL.cons (.refl _) (CoL.cons (.nil 1) (CoL.cons (.refl _) .nil))),rfl⟩;simp only[go_sem];rfl
 have l:=L.gcd (aK (val a)) (aK (val b)) (bE _) (bE _) (uI E) (uI A);rw[aY,aY,Xf,N] at l;simp only[go_sem,decide_eq_false B,jo];refine aB l rfl ?_;have fin:∀ x y:Nat,x=val a/aGN (val a) (val b)→y=val b/aGN (val a) (val b)→∀ (F:PF) (H:PH),F 0=some (.bool neg)→F 1=some (aJ (aK x))→F 2=some (aJ (aK y))→F 6=some (.ptr o 3 0 0)→H o=some (.rows 3 [[.bool false,.aA,.aA]]) →
   aE.wp C (.seq (.region zF) .ret) (aT [.cell 6 (some 3)] (cD (.agg (vL neg (val a) (val b)).rf.cells))) F H:=by
  intro x y O Z F H f0 f1 f2 f6 J;subst O; subst Z;simp only[go_sem,zF,f0,f1,f2,f6,J];have hq:val a/aGN (val a) (val b)≠0:=by have:=Nat.div_pos (Nat.gcd_le_left (val b) (aJE B)) (aJE j);omega
  have e:(vL neg (val a) (val b)).rf=⟨neg,aK (val a/aGN (val a) (val b)),aK (val b/aGN (val a) (val b))⟩:=by unfold vL FV.rf;simp only[hq,ne_eq,not_false_eq_true,decide_true,aIY]
  rw[e];refine aU (vs:=[.agg (gT neg (aK (val a/aGN (val a) (val b))) (aK (val b/aGN (val a) (val b))))]) (.inr rfl) .nil ?_ a_ ⟨.refl _,rfl⟩;simp only[go_sem,f6]
 simp only[aE.wp,go_sem] at fin;have K:=fun x (O:nl x≤512)=>L.div (aK x) (aK (aGN (val a) (val b))) (bE _) (bE _) (uI O) (uI R);simp only[aY,nS] at K;have tail:aGN (val a) (val b)≠1→∀ (F:PF) (H:PH),F 0=some (.bool neg)→F 1=some (aJ (aK (val a)))→F 2=some (aJ (aK (val b)))→F 6=some (.ptr o 3 0 0)→F 7=some (aJ (aK (aGN (val a) (val b))))→H o=some (.rows 3 [[.bool false,.aA,.aA]]) →
   aE.wp C (.seq (.seq (.region LX) (.region LY)) (.seq (.region zF) .ret)) (aT [.cell 6 (some 3)] (cD (.agg (vL neg (val a) (val b)).rf.cells))) F H:=by
  intro _ F H f0 f1 f2 f6 f7 J;have V:=K (val a) E;have W:=K (val b) A;rw[lK E R,if_neg j] at V;rw[lK A R,if_neg j] at W;simp only[go_sem,LX,f1,f7];refine aB V rfl ?_;simp only[go_sem,aJP,LY,f2,f7];refine aB W rfl ?_;simp only[go_sem,aJP];exact fin _ _ rfl rfl _ _ (by simp only[go_sem,f0]) rfl rfl (by simp only[go_sem,f6]) J
 simp only[aE.wp,go_sem] at tail;simp only[go_sem,aJP,jp,aGK,bJ];by_cases S:nl (aGN (val a) (val b))>1
 ·have u:((nl (aGN (val a) (val b)):Nat):Int)>1:=Om;simp only[go_sem,u];exact tail ((AM j).1 (.inl S)) _ _ rfl rfl rfl rfl rfl Sq
 ·have u:¬ ((nl (aGN (val a) (val b)):Nat):Int)>1:=Om;simp only[go_sem,u,c8 j];by_cases U:aGN (val a) (val b)%4294967296>1
  ·have w:((aGN (val a) (val b)%4294967296:Nat):Int)>1:=Om;simp only[go_sem,w];exact tail ((AM j).1 (.inr U)) _ _ rfl rfl rfl rfl (by simp only[go_sem,c8 j]) Sq
  ·have w:¬ ((aGN (val a) (val b)%4294967296:Nat):Int)>1:=Om;have X:aGN (val a) (val b)=1:=by
    rcases Decidable.em (aGN (val a) (val b)=1) with h | h
    ·exact h
    ·rcases (AM j).2 h with h | h
     ·exact absurd h S
     ·exact absurd h U
   simp only[go_sem,w];exact fin (val a) (val b) (by rw[X,Nat.div_one]) (by rw[X,Nat.div_one]) _ _ rfl rfl rfl rfl Sq
theorem aoF {C:Ctx} (v:Int) (w:-9223372036854775808≤v) (x:v≤9223372036854775807) :
  MA.wp C (aT Z9.res (aM (.int .u64 (v.natAbs:Nat)))) (PF.args [.int .i64 v]) .nil:=by
 simp only[go_sem,MA,Nk,Nl,Z9];by_cases c:v<0
 ·have j:IntKind.i64.wrap (v+1)=v+1:=wrap_i64 Om Om;have l:IntKind.i64.wrap (0-(v+1))=-(v+1):=by rw[wrap_i64 Om Om]; omega
  have u:IntKind.u64.wrap (IntKind.u64.wrap (-(v+1))+1)=(v.natAbs:Int):=by rw[gQ,gQ]; omega
  simp only[go_sem,c,Nm,j,l,u];refine cE (.inr rfl) rfl ?_;rfl
 ·have e:IntKind.u64.wrap v=(v.natAbs:Int):=by rw[gQ]; omega
  simp only[go_sem,c,Nn,e];refine cE (.inr rfl) rfl ?_;rfl
structure Wc (C:Ctx):Prop extends zq C where
 lowest:∀ neg a b,Lim a→Lim b→a.length≤35184372087808→b.length≤35184372087808→nl (val a)≤512→nl (val b)≤512→val b≠0→aG C 58 [.bool neg,aJ a,aJ b] .nil (aM (.agg (vL neg (val a) (val b)).rf.cells))
 size:∀ v:Int,dV v→aG C 59 [.int .i64 v] .nil (aM (.int .u64 (v.natAbs:Nat)))
def mkT (n d:Int):RF:=(vL (decide (n<0) != decide (d<0)) n.natAbs d.natAbs).rf
def xN (n d:Int):PV:=if d=0 then BL 3 else .tup [.agg (mkT n d).cells,.int .i64 0]
theorem aoD {C:Ctx} (L:Wc C) (n d:Int) (e:dV n) (j:dV d) :
  LZ.wp C (aT ze.res (cD (xN n d))) (PF.args [.int .i64 n,.int .i64 d]) .nil:=by
 simp only[go_sem,LZ,Nd,Nf];refine aQ fun o l=>?_;unfold xN;by_cases c:d=0
 ·subst c;simp only[go_sem,Ng];refine oT ?_;simp only[go_sem,ze]
 ·rw[if_neg c];simp only[go_sem,bB c,Nh];refine aB (L.size n e) rfl ?_;simp only[go_sem];refine aB (L.make n.natAbs Om) rfl ?_;simp only[go_sem];refine aB (L.size d j) rfl ?_;simp only[go_sem];refine aB (L.make d.natAbs Om) rfl ?_;simp only[go_sem];have u:nl n.natAbs≤2:=qC Om;have w:nl d.natAbs≤2:=qC Om;have low:=L.lowest (decide (n<0) != decide (d<0)) (aK n.natAbs) (aK d.natAbs) (bE _) (bE _) (by rw[bJ]; omega) (by rw[bJ]; omega);rw[aY,aY] at low;have low:=low Om Om Om;refine aB low rfl ?_;simp only[go_sem];exact aU (.inr rfl) .nil (vs:=[.agg (mkT n d).cells,.int .i64 0]) (by simp only[go_sem,ze]; rfl) a_ ⟨.refl _,rfl⟩
structure ba (C:Ctx):Prop extends Wc C where
 fmk:∀ n d:Int,dV n→dV d→aG C 50 [.int .i64 n,.int .i64 d] .nil (aM (xN n d))
theorem auN {C:Ctx} (L:ba C) (n:Int) (u:dV n) :
  RT.wp C (aT aoC.res (cD (.agg (mkT n 1).cells))) (PF.args [.int .i64 n]) .nil:=by
 simp only[go_sem,RT,V6,V7,aoC];refine aQ fun o w=>?_;simp only[go_sem];refine aB (L.fmk n 1 u (by unfold dV; omega)) rfl ?_;unfold xN;rw[if_neg (by decide)];simp only[go_sem];refine aQ fun p l=>?_;have e:o≠p:=by rintro rfl;simp only[aP,if_true] at l;cases l
 have j:p≠o:=fun h=>e h.symm;simp only[go_sem,e,V8];refine aU (vs:=[.agg (mkT n 1).cells]) (.inr rfl) .nil ?_ a_ ⟨.refl _,rfl⟩;simp only[go_sem,j]
def aD (l:List Nat) (n a:Nat):Nat × Nat:=if l.length≤a∨n<2 then (0,a) else (l.getD a 0%n,a+1)
theorem bU (l:List Nat) {n:Nat} (h:0<n) (a:Nat):(aD l n a).1<n:=by
 unfold aD;split
 ·exact h
 ·exact aIG _ h
theorem bD (l:List Nat) (n:Nat) {a:Nat} (h:a≤l.length):(aD l n a).2≤l.length:=by
 unfold aD;split
 ·exact h
 ·simp only; omega
def fV (l:List Nat) (a:Nat):RF × Nat :=
 let x:=aD l 6 a
 let y:=aD l 8 x.2
 (mkT ((1+x.1:Nat):Int) ((1+y.1:Nat):Int),y.2)
abbrev kC:RF:=mkT 0 1
def jL (l:List Nat) (i j a:Nat):RF × Nat :=
 if j=i+1 then fV l a
 else if j=i then (kC,a)
 else let t:=aD l 3 a
  if t.1=0 then fV l t.2 else (kC,t.2)
def dT (l:List Nat) (i a:Nat):Nat→List RF × Nat
 | 0=>([],a)
 | j+1=>let s:=dT l i a j
  let z:=jL l i j s.2
  (s.1++[z.1],z.2)
structure CY where
 start:List RF
 exit:List RF
 aFB:List (List RF)
 left:Nat
 a:Nat
def dS (l:List Nat) (n i:Nat) (s:CY):Nat × Nat:=if i+1<n then aD l (s.left+1) s.a else (s.left,s.a)
def fG (l:List Nat) (n i a:Nat):RF × Nat :=
 let e:=fV l a
 if i+1<n then (let t:=aD l 3 e.2; (if t.1=0 then kC else e.1,t.2)) else e
def gI (l:List Nat) (n a:Nat):Nat→CY
 | 0=>⟨[],[],[],8,a⟩
 | i+1=>let s:=gI l n a i
  let k:=dS l n i s
  let e:=fG l n i k.2
  let r:=dT l i e.2 n
  ⟨s.start++[mkT (k.1:Nat) 8],s.exit++[e.1],s.aFB++[r.1],s.left-k.1,r.2⟩
def rF (l:List Nat) (eN a:Nat):dA × Nat :=
 let t:=aD l eN a
 let s:=gI l (1+t.1) t.2 (1+t.1)
 (⟨[],s.start,s.aFB,s.exit⟩,s.a)
def kK (l:List Nat) (a:Nat):Nat→List RF × Nat
 | 0=>([],a)
 | k+1=>let s:=kK l a k
  let z:=fV l s.2
  (s.1++[z.1],z.2)
abbrev bW (n:Nat):List UInt8:=Lib.decDigits n
def iJ (l:List Nat) (a:Nat):Nat→List dA × Nat
 | 0=>([],a)
 | k+1=>let s:=iJ l a k
  let z:=rF l 2 s.2
  (s.1++[{ z.1 with name:=[108,97,119]++bW k }],z.2)
def eQ (l:List Nat) (aFE a:Nat):Nat→List dX × Nat
 | 0=>([],a)
 | k+1=>let s:=eQ l aFE a k
  let x:=aD l 4 s.2
  let y:=aD l 8 x.2
  let z:=aD l aFE y.2
  (s.1++[⟨[109]++bW k,(1+x.1:Nat),(1+y.1:Nat),(z.1:Nat)⟩],z.2)
structure GS where
 aFG:List cU
 aFQ:List dQ
 a:Nat
def jZ (l:List Nat) (mc aEW e:Nat) (s:GS):Nat→GS
 | 0=>s
 | i+1=>let s:=jZ l mc aEW e s i
  if s.aFQ.length<aEW then
   let t:=aD l mc s.a
   { s with aFQ:=s.aFQ++[⟨[100]++bW s.aFQ.length,(t.1:Nat),(e:Nat)⟩],a:=t.2 }
  else s
def mD (level:Nat):UInt8:=match level with
 | 0=>45
 | 1=>115
 | 2=>114
 | 3=>107
 | _=>109
def oC (l:List Nat) (level e:Nat) (s:GS):GS :=
 let u:=aD l 16 s.a
 let t:=aD l 3 u.2
 let k:=aD l 6 t.2
 let sh:RF × Nat:=if t.1=0 then (mkT 1 ((2+k.1:Nat):Int),k.2) else (kC,t.2)
 { s with aFG:=s.aFG++[⟨[mD level]++bW s.aFG.length,(level:Nat),(e:Nat),(1+u.1:Nat),sh.1⟩],a:=sh.2 }
def qP (aEW:Nat) (s:GS):Bool:=decide (aEW≤s.aFQ.length)||decide (35≤s.aFG.length)
def gZ (l:List Nat) (level aEW e:Nat) (rec:Nat→GS→GS) (s:GS):Nat→GS
 | 0=>s
 | i+1=>let s:=gZ l level aEW e rec s i
  if qP aEW s then s else (let s':=oC l level e s; rec (s'.aFG.length-1) s')
def fA (l:List Nat) (mc aEW:Nat):Nat→Nat→GS→GS
 | 0,e,s=>let t:=aD l 2 s.a
  jZ l mc aEW e { s with a:=t.2 } (1+t.1)
 | k+1,e,s=>let t:=aD l 2 s.a
  gZ l (4-k) aEW e (fA l mc aEW k) { s with a:=t.2 } (if 4-k=2 then 1 else 1+t.1)
def mV:cU:=⟨[],0,-1,0,kC⟩
def iR (l:List Nat) (a:Nat):Int × Nat :=
 let t:=aD l 3 a
 let k:=aD l 3 t.2
 if t.1=0 then ((1+k.1:Nat),k.2) else (0,t.2)
def mY (l:List Nat) (aEX i a:Nat):cW × Nat :=
 let k:=aD l 2 a
 let m:=aD l 3 k.2
 let h:=aD l 4 m.2
 let q:=aD l (m.1+1) h.2
 let r:=kK l q.2 (max m.1 1)
 let g:=aD l 9 r.2
 let s1:=iR l g.2
 let s2:=iR l s1.2
 let s3:=iR l s2.2
 let s4:=iR l s3.2
 let f:=aD l aEX s4.2
 let b:=aD l 2 f.2
 let ms:List Int × Nat:=if 1<aEX then (if b.1=0 then ([(f.1:Int),1-(f.1:Int)],b.2) else ([(f.1:Int)],b.2)) else ([(f.1:Int)],f.2)
 (⟨[112]++bW i,(1+k.1:Nat),(m.1:Nat),(1+k.1+q.1:Nat),0,s1.1,s2.1,s3.1,s4.1,ms.1,r.1,mkT (g.1:Nat) 8,mkT ((1+h.1:Nat):Int) 1⟩,ms.2)
def dY (l:List Nat) (aEX a:Nat):Nat→List cW × Nat
 | 0=>([],a)
 | k+1=>let s:=dY l aEX a k
  let z:=mY l aEX k s.2
  (s.1++[z.1],z.2)
def eT (l:List Nat) (pols a:Nat):Nat→List iY × Nat
 | 0=>([],a)
 | k+1=>let s:=eT l pols a k
  let z:=aD l pols s.2
  (s.1++[⟨[118]++bW k,(z.1:Nat)⟩],z.2)
def hC (l:List Nat) (aEW aEY a:Nat):aC × Nat :=
 let e:=aD l 2 a
 let u:=aD l 2 e.2
 let aFE:=iJ l u.2 (1+u.1)
 let j:=aD l 2 aFE.2
 let aEX:=eQ l (1+u.1) j.2 (1+j.1)
 let g:=fA l (1+j.1) aEW 4 0 ⟨[mV],[],aEX.2⟩
 let pl:=aD l 2 g.a
 let pols:=dY l (1+j.1) pl.2 (1+pl.1)
 let w:=aD l (aEY+1) pols.2
 let vols:=eT l (1+pl.1) w.2 w.1
 (⟨(1+e.1:Nat),aFE.1,aEX.1,g.aFG,g.aFQ,pols.1,vols.1⟩,vols.2)
def nI (l:List Nat) (a:Nat):Nat→List Int × Nat
 | 0=>([],a)
 | k+1=>let s:=nI l a k
  let z:=aD l 7 s.2
  (s.1++[(z.1:Int)-1],z.2)
def pQ (l:List Nat) (f:aC) (a:Nat):List Int × Nat :=
 let t:=aD l 4 a
 if t.1=0 then ([],t.2) else nI l t.2 f.aEW.length
def pM (l:List Nat) (aEW at_ i a:Nat):Int × Nat :=
 if aEW=0 then (-1,a) else
  let t:=aD l 6 a
  if t.1=0 then (let z:=aD l aEW t.2; ((z.1:Int),z.2))
  else if t.1=1 then (let z:=aD l (aEW+1) t.2; ((z.1:Int)-1,z.2))
  else (((at_+i)%aEW:Nat),t.2)
def kN (l:List Nat) (aEW at_ a:Nat):Nat→List Int × Nat
 | 0=>([],a)
 | i+1=>let s:=kN l aEW at_ a i
  let z:=pM l aEW at_ i s.2
  (s.1++[z.1],z.2)
def cY (l:List Nat) (f:aC) (a:Nat):Nat→List (List Int) × Nat
 | 0=>([],a)
 | v+1=>let s:=cY l f a v
  let t:=aD l (f.aEW.length+1) s.2
  let r:=kN l f.aEW.length t.1 t.2 (fR f v).toNat
  (s.1++[r.1],r.2)
abbrev kB (l:List Nat):List (List PV):=l.map fun (n:Nat)=>[PV.int .u8 (n:Int)]
theorem RN (l:List Nat):(kB l).length=l.length:=by simp
theorem anV (l:List Nat) {i:Nat} (h:i<l.length):(kB l)[i]?=some [.int .u8 (l[i]:Nat)]:=by simp[h]
abbrev aR (v:PV) (a:Nat):bG:=.rows 2 [[v,.int .i64 a]]
structure Tp (l:List Nat) (v:PV):Prop where
 seen:Seen 1 v (kB l)
 byte:∀ x∈l,x<256
 len:l.length≤400
def jv (l:List Nat) (r:PV) (H:PH):Prop:=∃ o v,r=.ptr o 2 0 0∧Tp (l.take 400) v∧H=PH.nil.set o (aR v 0)
theorem yf {t q s:Nat} {rs:List (List PV)} {F:PF} {H H2:PH} {R:PV→PH→Prop} {v:PV} {e:kE} (he:e=.normal∨e=.ret) (A:F t=some v) (hq:H q=some (.rows s rs)) (x:H2.le (H.frz q s rs)) (y:R (PV.frz q s rs v) H2):aT [.tmp t] R e F H:=by
 have j:∃ vs,dW.evs F H [.tmp t]=some vs∧∃ l w H2,jF (PF.nil.set 0 (cZ vs)) H l w∧H2.le w∧∃ u,l 0=some u∧R u H2:=by refine⟨[v],by rw[kY,oJ,A,pH],_,_,H2,.step q hq (.refl _ _),x,PV.frz q s rs v,?_,y⟩;rw[oF,mR,if_pos rfl,aHS];rfl
 rcases he with rfl | rfl<;>exact j
theorem asL {C:Ctx} (l:List Nat) (hb:∀ x∈l,x<256) (O:l.length≤9223372036854775807):OR.wp C (aT akR.res (jv l)) (PF.args [.sl 1 (kB l)]) .nil:=by
 simp only[go_sem,OR,S0,S1,akR,aGK];have fin:∀ F:PF,F 0=some (.sl 1 (kB (l.take 400)))→aE.wp C (.seq (.region ll) .ret) (aT [.tmp 2] (jv l)) F .nil:=by
  intro F f0;have y:(l.take 400).length≤400:=by rw[aGY]; omega
  have w:∀ x∈l.take 400,x<256:=fun x M=>hb x (List.mem_of_mem_take M);have A:∀ o v,Seen 1 v (kB (l.take 400))→jv l (.ptr o 2 0 0) (PH.nil.set o (aR v 0)):=fun o v K=>⟨o,v,rfl,⟨K,w,y⟩,rfl⟩;generalize N:l.take 400=L at *
  simp only[go_sem,ll,f0];refine BF (src:=kB L) rfl ?_ (fun h=>?_) fun h o I=>?_
  ·unfold roomFor;rw[RN];simp only[maxLen]; omega
  ·simp only[go_sem,aGV,aHH,or_false,forall_eq];refine aQ fun o I=>?_;simp only[go_sem];exact aU (vs:=[.ptr o 2 0 0]) (.inr rfl) (PH.nil.set o (aR .aA 0)) rfl b_ (A o .aA (.inl ⟨h,rfl⟩))
  ·simp only[go_sem,aGV,aHH,or_false,forall_eq];refine aQ fun p J=>?_;have e:¬ p=o:=(jH.1 J).1;have j:¬ o=p:=fun h=>e h.symm;simp only[go_sem];refine yf (v:=.ptr p 2 0 0) (q:=o) (s:=1) (rs:=kB L) (H2:=PH.nil.set p (aR (.sl 1 (kB L)) 0)) (.inr rfl) rfl (by simp only[go_sem,j]) (e_ a_ ?_) (A p _ (.inr rfl));have E:(kB L).take L.length=kB L:=aGZ (by rw[RN]; exact aGQ _);simp only[go_sem,e,bG.frz,PV.bV,aGK,E];rfl
 simp only[aE.wp,go_sem] at fin;by_cases c:l.length>400
 ·have u:(l.length:Int)>400:=Om;have B:(400:Int)≤(l.length:Int):=Om;simp only[go_sem,u,S3,aGK,B];refine fin _ ?_;rw[mR,if_pos rfl];simp[kB]
 ·have u:¬ (l.length:Int)>400:=Om;simp only[go_sem,u];refine fin _ ?_;rw[aGZ Om];simp only[go_sem]
def av (l:List Nat) (v:PV) (o n a:Nat) (r:PV) (H:PH):Prop:=r=.int .i64 ((aD l n a).1:Nat)∧H=PH.nil.set o (aR v (aD l n a).2)
theorem akS {C:Ctx} {l:List Nat} {v:PV} (T:Tp l v) (o n a:Nat) (U:n≤1000000) (R:a≤l.length):yP.wp C (aT y7.res (av l v o n a)) (PF.args [.ptr o 2 0 0,.int .i64 n]) (PH.nil.set o (aR v a)):=by
 obtain⟨N,hb,S⟩:=T;have zero:(l.length≤a∨n<2)→∀ F,aE.wp C (.seq (.region YK) .ret) (aT [.tmp 4] (av l v o n a)) F (PH.nil.set o (aR v a)):=by
  intro h F;have e:aD l n a=(0,a):=by unfold aD; rw[if_pos h]
  simp only[go_sem,YK];exact aU (vs:=[.int .i64 0]) (.inr rfl) _ rfl b_ ⟨by rw[e]; rfl,by rw[e]⟩
 simp only[aE.wp,go_sem] at zero;rcases N with ⟨K,rfl⟩ | rfl
 ·have O:l.length=0:=by rw[← RN,K]; rfl
  have x:(a:Int)≥0:=Om;simp only[go_sem,yP,YJ,y7];refine bP .nil dD a_ ?_;simp only[go_sem,JO,x];exact zero (.inl Om) _
 simp only[go_sem,yP,YJ,y7];refine bP .nil dD a_ ?_;by_cases A:l.length≤a
 ·have j:(a:Int)≥(l.length:Nat):=Om;simp only[go_sem,JO,aGK,j];exact zero (.inl A) _
 have j:¬ (a:Int)≥(l.length:Nat):=Om;simp only[go_sem,JO,aGK,j];by_cases B:n<2
 ·have u:(n:Int)<2:=Om;simp only[go_sem,u];exact zero (.inr B) _
 have u:¬ (n:Int)<2:=Om;have w:a<l.length:=Om;have e:aD l n a=(l[a]%n,a+1):=by unfold aD;rw[if_neg Om];simp[aGU,w]
 have J:IntKind.i64.wrap ((a:Int)+1)=((a+1:Nat):Int):=dJ Om;have I:IntKind.i64.wrap (((a+1:Nat):Int)-1)=((a:Nat):Int):=by rw[wrap_i64 Om Om]; omega
 have M:=anV l w;have V:=hb _ (aGP w);have E:IntKind.i64.wrap ((l[a]:Nat):Int)=((l[a]:Nat):Int):=al Om;have y:¬ ((n:Nat):Int)=0:=Om;have em:Int.tmod ((l[a]:Nat):Int) ((n:Nat):Int)=((l[a]%n:Nat):Int):=rfl;simp only[go_sem,u,Hb,J];refine bP .nil dD a_ ?_;simp only[go_sem,Hc,I,M,E,y,em];exact aU (vs:=[.int .i64 (l[a]%n:Nat)]) (.inr rfl) _ rfl b_ ⟨by rw[e]; rfl,by rw[e]⟩
def PV.oid:PV→Option Nat
 | .osl q _ _ _=>some q
 | _=>none
abbrev LI:=PV × Nat × List (List PV)
abbrev BX:=Nat × bG
def eC (B:List BX):List Nat:=B.map (·.1)
def dC (L:List LI):List Nat:=L.filterMap fun x=>x.1.oid
structure aL (H:PH) (B:List BX) (L:List LI):Prop where
 box:∀ b∈B,H b.1=some b.2
 lst:∀ x∈L,bA H x.2.1 x.1 x.2.2
 nd:(eC B++dC L).Nodup
section
variable {C:Ctx} {H:PH} {B:List BX} {L:List LI} {K:PV→PH→Prop}
theorem bA.id {s q:Nat} {v:PV} {rows:List (List PV)} (h:bA H s v rows) (hq:v.oid=some q):∃ rs,H q=some (.rows s rs)∧v=.osl q s 0 rows.length∧rows.length≤rs.length∧rs.take rows.length=rows:=by
 rcases h with ⟨_,rfl⟩ | ⟨p,rs,rfl,h1,h2,h3⟩
 ·cases hq
 ·cases hq;exact⟨rs,h1,rfl,h2,h3⟩
theorem bA.same {s:Nat} {v:PV} {rows:List (List PV)} {H':PH} (h:bA H s v rows) (e:∀ q,v.oid=some q→H' q=H q):bA H' s v rows:=by
 rcases h with h | ⟨p,rs,rfl,h1,h2,h3⟩
 ·exact .inl h
 ·exact .inr ⟨p,rs,rfl,by rw[e p rfl]; exact h1,h2,h3⟩
theorem mN {x:LI} {q:Nat} (h:x∈L) (hq:x.1.oid=some q):q∈dC L:=List.mem_filterMap.2 ⟨x,h,hq⟩
theorem vM {b:BX} (h:b∈B):b.1∈eC B:=aHJ.2 ⟨b,h,rfl⟩
theorem aL.nil:aL H [] []:=⟨by simp,by simp,by simp[eC,dC]⟩
theorem aL.at (h:aL H B L) (i:Nat) {o:Nat} {x:bG} (hi:B[i]?=some (o,x)):H o=some x:=h.box _ (aII hi)
theorem aL.own (h:aL H B L) (i:Nat) {s:Nat} {v:PV} {rows:List (List PV)} (hi:L[i]?=some (v,s,rows)):bA H s v rows:=h.lst _ (aII hi)
theorem aL.ndB (h:aL H B L):(eC B).Nodup:=(aJK.1 h.nd).1
theorem aL.ndL (h:aL H B L):(dC L).Nodup:=(aJK.1 h.nd).2.1
theorem aL.ndX (h:aL H B L) {o q:Nat} (e:o∈eC B) (hq:q∈dC L):o≠q:=(aJK.1 h.nd).2.2 o e q hq
theorem aL.ne (h:aL H B L) (i j:Nat) {o p:Nat} {x y:bG} (hi:B[i]?=some (o,x)) (M:B[j]?=some (p,y)) (l:i≠j):o≠p:=by
 intro e;have I:(eC B)[i]?=some o:=by unfold eC; rw[aHF,hi]; rfl
 have J:(eC B)[j]?=some p:=by unfold eC; rw[aHF,M]; rfl
 obtain⟨E,u⟩:=aHP.1 I;obtain⟨F,w⟩:=aHP.1 J;have A:=List.pairwise_iff_getElem.1 h.ndB;rcases Nat.lt_or_gt_of_ne l with g | g
 ·exact A i j E F g (by rw[u,w,e])
 ·exact A j i F E g (by rw[u,w,e])
theorem aL.neL (h:aL H B L) (i j:Nat) {o q:Nat} {x:bG} {y:LI} (hi:B[i]?=some (o,x)) (e:L[j]?=some y) (hq:y.1.oid=some q):o≠q :=
 h.ndX (vM (aII hi)) (mN (aII e) hq)
theorem aL.fresh (h:aL H B L) {o:Nat} (j:H o=none):o ∉ eC B∧o ∉ dC L:=by
 refine⟨fun l=>?_,fun l=>?_⟩
 ·obtain⟨b,hb,rfl⟩:=aHJ.1 l;rw[h.box b hb] at j; cases j
 ·obtain⟨x,w,e⟩:=List.mem_filterMap.1 l;obtain⟨rs,u,_⟩:=(h.lst x w).id e;rw[u] at j; cases j
theorem aL.keep (h:aL H B L) {H':PH} (e:∀ q,q∈eC B∨q∈dC L→H' q=H q):aL H' B L :=
 ⟨fun b hb=>by rw[e _ (.inl (vM hb))]; exact h.box b hb,fun x j=>(h.lst x j).same fun q hq=>e q (.inr (mN j hq)),h.nd⟩
theorem ajF {i:Nat} {o:Nat} {x y:bG} (hi:B[i]?=some (o,x)):eC (B.set i (o,y))=eC B:=by
 unfold eC;rw[List.map_set];refine List.ext_getElem? fun j=>?_;rw[List.getElem?_set];split
 ·rename_i e;subst e;rw[aHF,hi];have:=(aHP.1 hi).1;simp[this]
 ·rfl
theorem aL.set (h:aL H B L) (i:Nat) {o:Nat} {x:bG} (hi:B[i]?=some (o,x)) (y:bG):aL (H.set o y) (B.set i (o,y)) L:=by
 have w:o∈eC B:=vM (aII hi);refine⟨fun b hb=>?_,fun z A=>(h.lst z A).same fun q hq=>?_,by rw[ajF hi]; exact h.nd⟩
 ·obtain⟨j,l⟩:=List.mem_iff_getElem?.1 hb;rw[List.getElem?_set] at l;split at l
  ·split at l
   ·cases l; simp only[aP,if_true]
   ·cases l
  ·rename_i u;have:b.1≠o:=fun e=>h.ne i j hi (show B[j]?=some (b.1,b.2) from l) u e.symm;rw[aP,if_neg this];exact h.box b (aII l)
 ·have:q≠o:=fun e=>h.ndX w (mN A hq) e.symm;rw[aP,if_neg this]
theorem aL.new (h:aL H B L) {o:Nat} (u:H o=none) (y:bG):aL (H.set o y) (B++[(o,y)]) L:=by
 obtain⟨f1,f2⟩:=h.fresh u;refine⟨fun b hb=>?_,fun z l=>(h.lst z l).same fun q hq=>?_,?_⟩
 ·rw[aHQ,aHU] at hb;rcases hb with hb | rfl
  ·have:b.1≠o:=fun e=>f1 (e ▸ vM hb);rw[aP,if_neg this]; exact h.box b hb
  ·simp only[aP,if_true]
 ·have:q≠o:=fun e=>f2 (e ▸ mN l hq);rw[aP,if_neg this]
 ·have:=h.nd;simp only[eC,aHX,aHR,aIW] at *
  rw[aHN,aJK] at *
  obtain⟨a,b,c⟩:=this;refine⟨a,?_,fun p j q hq=>?_⟩
  ·rw[List.singleton_append,List.nodup_cons]; exact⟨f2,b⟩
  ·rw[List.singleton_append,aGV] at hq;rcases hq with rfl | hq
   ·intro e; subst e; exact f1 j
   ·exact c p j q hq
theorem lY (L1 L2:List LI):dC (L1++L2)=dC L1++dC L2:=List.filterMap_append ..
theorem aL.mO (h:aL H B L) (s:Nat):aL H B (L++[(.aA,s,[])]):=by
 refine⟨h.box,fun z e=>?_,?_⟩
 ·rw[aHQ,aHU] at e;rcases e with e | rfl
  ·exact h.lst z e
  ·exact .nil
 ·rw[lY,show dC [((.aA:PV),s,([]:List (List PV)))]=[] from rfl,aHY]; exact h.nd
theorem aL.me (h:aL H B L) {o s:Nat} {rows:List (List PV)} (l:H o=none):aL (H.set o (.rows s rows)) B (L++[(.osl o s 0 rows.length,s,rows)]):=by
 obtain⟨f1,f2⟩:=h.fresh l;have j:=h.keep (H':=H.set o (.rows s rows)) fun q hq=>by
  have:q≠o:=by rintro rfl; exact hq.elim f1 f2
  rw[aP,if_neg this]
 refine⟨j.box,fun z e=>?_,?_⟩
 ·rw[aHQ,aHU] at e;rcases e with e | rfl
  ·exact j.lst z e
  ·exact .inr ⟨o,rows,rfl,by simp only[aP,if_true],aGQ _,aHV⟩
 ·rw[lY,show dC [((.osl o s 0 rows.length:PV),s,rows)]=[o] from rfl,← aHN,aJK];refine⟨h.nd,by simp,fun p hp q hq=>?_⟩;rw[aHU] at hq;subst hq;rintro rfl;rcases aHQ.1 hp with hp | hp
  ·exact f1 hp
  ·exact f2 hp
theorem E7 {i:Nat} {v v':PV} {s s':Nat} {rows rows':List (List PV)} (hi:L[i]?=some (v,s,rows)):∃ L1 L2,L=L1++(v,s,rows)::L2∧L.set i (v',s',rows')=L1++(v',s',rows')::L2:=by
 obtain⟨e,he⟩:=aHP.1 hi;refine⟨L.take i,L.drop (i+1),?_,?_⟩
 ·rw[← he,← aIZ e,aJH]
 ·rw[List.set_eq_take_append_cons_drop,if_pos e]
theorem aL.iy (h:aL H B L) (i:Nat) {s:Nat} {v:PV} {rows:List (List PV)} (hi:L[i]?=some (v,s,rows)) {s':Nat} {v':PV} {rows':List (List PV)} {H':PH} (R:bA H' s' v' rows')
  (I:∀ q,v'.oid=some q→v.oid=some q∨H q=none) (O:∀ q,q∈eC B∨q∈dC L→(∀ p,v.oid=some p→q≠p)→H' q=H q):aL H' B (L.set i (v',s',rows')):=by
 obtain⟨L1,L2,M,N⟩:=E7 (v':=v') (s':=s') (rows':=rows') hi;rw[N];subst M;have j:=h.nd;have E:dC (L1++(v,s,rows)::L2)=dC L1++(v.oid.toList++dC L2):=by rw[lY];congr 1;unfold dC;rw[List.filterMap_cons];cases e:v.oid<;>simp
 have F:dC (L1++(v',s',rows')::L2)=dC L1++(v'.oid.toList++dC L2):=by rw[lY];congr 1;unfold dC;rw[List.filterMap_cons];cases e:v'.oid<;>simp
 rw[E] at j;have x:∀ q,q∈eC B∨q∈dC L1∨q∈dC L2→∀ p,v.oid=some p→q≠p:=by
  intro q hq p w e;subst e;rw[w] at j;simp only[Option.toList_some] at j;rw[aJK] at j;obtain⟨a,b,c⟩:=j;rw[aJK] at b;obtain⟨J,y,A⟩:=b;rw[List.singleton_append,List.nodup_cons] at y;rcases hq with hq | hq | hq
  ·exact c q hq q (by simp) rfl
  ·exact A q hq q (by simp) rfl
  ·exact y.1 hq
 have l:∀ q,q∈eC B∨q∈dC L1∨q∈dC L2→H' q=H q:=by
  intro q hq;refine O q ?_ (x q hq);rw[E];simp only[aHQ];rcases hq with hq | hq | hq
  ·exact .inl hq
  ·exact .inr (.inl hq)
  ·exact .inr (.inr (.inr hq))
 refine⟨fun b hb=>by rw[l _ (.inl (vM hb))]; exact h.box b hb,fun z hz=>?_,?_⟩
 ·rw[aHQ,aGV] at hz;rcases hz with hz | rfl | hz
  ·exact (h.lst z (by simp[hz])).same fun q hq=>l q (.inr (.inl (mN hz hq)))
  ·exact R
  ·exact (h.lst z (by simp[hz])).same fun q hq=>l q (.inr (.inr (mN hz hq)))
 ·rw[F];cases e:v'.oid with
  | none =>simp only[Option.toList_none,aJX];refine List.Nodup.sublist ?_ j;exact aIQ.append (aIQ.refl _) (aIQ.append (aIQ.refl _) (List.sublist_append_right _ _))
  | some q =>
   rcases I q e with S | hn
   ·rw[S] at j;exact j
   ·obtain⟨f1,f2⟩:=h.fresh hn;rw[E] at f2;simp only[aHQ,not_or] at f2;have u:(eC B++(dC L1++dC L2)).Nodup:=List.Nodup.sublist (aIQ.append (aIQ.refl _) (aIQ.append (aIQ.refl _) (List.sublist_append_right _ _))) j;simp only[Option.toList_some];rw[aJK] at u ⊢;obtain⟨a,b,c⟩:=u;rw[aJK] at b;obtain⟨J,y,A⟩:=b;refine⟨a,?_,?_⟩
    ·rw[aJK];refine⟨J,by rw[List.singleton_append,List.nodup_cons]; exact⟨f2.2.2,y⟩,fun p w r hr=>?_⟩;rw[List.singleton_append,aGV] at hr;rcases hr with rfl | hr
     ·rintro rfl; exact f2.1 w
     ·exact A p w r hr
    ·intro p w r hr;rw[aHQ,List.singleton_append,aGV] at hr;rcases hr with hr | rfl | hr
     ·exact c p w r (by simp[hr])
     ·rintro rfl; exact f1 w
     ·exact c p w r (by simp[hr])
theorem aL.append (h:aL H B L) (i:Nat) {s b:Nat} {v y:PV} {rows src:List (List PV)} (hi:L[i]?=some (v,s,rows)) (E:dH H s y=some src) (A:roomFor rows.length src.length b)
  (w:∀ v' H',aL H' B (L.set i (v',s,rows++src))→(src≠[]→∃ q,v'=.osl q s 0 (rows++src).length)→K v' H'):mS H s b v y K:=by
 rcases h.own i hi with ⟨rfl,rfl⟩ | ⟨q,rs,rfl,h1,h2,h3⟩
 ·refine⟨src,E,A,fun e=>?_,fun e o u=>?_⟩
  ·subst e;refine w _ _ ?_ fun h=>absurd rfl h;exact h.iy i hi (.inl ⟨rfl,rfl⟩) (fun q hq=>by cases hq) fun q _ _=>rfl
  ·refine w _ _ (h.iy i hi (.inr ⟨o,src,rfl,by simp only[aP,if_true],aGQ _,aHV⟩) (fun q hq=>by cases hq; exact .inr u) fun q hq _=>?_) fun _=>⟨o,rfl⟩;obtain⟨f1,f2⟩:=h.fresh u;have:q≠o:=by rintro rfl; exact hq.elim f1 f2
   rw[aP,if_neg this]
 ·have j:(rows++src).length=rows.length+src.length:=aGO;refine⟨src,E,rfl,rfl,A,rs,h1,h2,?_,fun o u=>?_⟩
  ·rw[h3];refine w _ _ (h.iy i hi (.inr ⟨q,rows++src,by rw[j],by simp only[aP,if_true],aGQ _,aHV⟩) (fun p l=>by cases l; exact .inl rfl) fun p _ l=>?_) fun _=>⟨q,by rw[j]⟩;rw[aP,if_neg (l q rfl)]
  ·rw[h3];refine w _ _ (h.iy i hi (.inr ⟨o,rows++src,by rw[j],by simp only[aP,if_true],aGQ _,aHV⟩) (fun p l=>by cases l; exact .inr u) fun p x l=>?_) fun _=>⟨o,by rw[j]⟩;obtain⟨f1,f2⟩:=h.fresh u;have F:p≠o:=by rintro rfl; exact x.elim f1 f2
   rw[aP,if_neg F]
theorem aL.sub (h:aL H B L) {B':List BX} {L':List LI} (hB:B'.Sublist B) (e:L'.Sublist L):aL H B' L' :=
 ⟨fun b hb=>h.box b (hB.subset hb),fun x j=>h.lst x (e.subset j),List.Nodup.sublist (aIQ.append (hB.map _) (e.filterMap _)) h.nd⟩
theorem aL.BI (h:aL H B L) (i:Nat):aL H (B.eraseIdx i) L:=h.sub (List.eraseIdx_sublist ..) (aIQ.refl _)
theorem aL.bu (h:aL H B L) (i:Nat):aL H B (L.eraseIdx i):=h.sub (aIQ.refl _) (List.eraseIdx_sublist ..)
end
section
variable {C:Ctx} {F:PF} {H:PH} {B:List BX} {L:List LI}
theorem aL.AA (h:aL H B L) {q:Nat} (hq:q∈eC B∨q∈dC L):∃ x,H q=some x:=by
 rcases hq with hq | hq
 ·obtain⟨b,hb,rfl⟩:=aHJ.1 hq;exact⟨_,h.box b hb⟩
 ·obtain⟨x,l,e⟩:=List.mem_filterMap.1 hq;obtain⟨rs,j,_⟩:=(h.lst x l).id e;exact⟨_,j⟩
theorem aL.perm (h:aL H B L) {B':List BX} {L':List LI} (hB:B.Perm B') (e:L.Perm L'):aL H B' L' :=
 ⟨fun b hb=>h.box b (hB.mem_iff.2 hb),fun x j=>h.lst x (e.mem_iff.2 j),(aJG.nodup_iff ((hB.map _).append (e.filterMap _))).1 h.nd⟩
theorem aL.only (h:aL H B L) {B1:List BX} {L1:List LI} (hB:B1.Sublist B) (e:L1.Sublist L):aL (H.only (eC B1++dC L1)) B1 L1:=by
 refine (h.sub hB e).keep fun q hq=>?_;rw[qX];rw[if_pos (aHQ.2 hq)]
theorem awC {a b c d:List Nat} (j:(a++c).Nodup) (l:(b++d).Nodup) (u:∀ q,q∈a∨q∈c→q∈b∨q∈d→False):((a++b)++(c++d)).Nodup:=by
 have e:aJG ((a++b)++(c++d)) ((a++c)++(b++d)):=by rw[aHN,aHN];exact aJG.append_left a (by rw[← aHN,← aHN]; exact aJG.append_right d List.perm_append_comm)
 rw[e.nodup_iff,aJK];refine⟨j,l,fun p w q hq=>?_⟩;rintro rfl;exact u p (aHQ.1 w) (aHQ.1 hq)
theorem aL.frame {H':PH} {B1 B2 B':List BX} {L1 L2 L':List LI} (h:aL H (B1++B2) (L1++L2)) (w:aL H' B' L') (J:lI H (H.only (eC B1++dC L1)) H'):aL (H.over (H.only (eC B1++dC L1)) H') (B'++B2) (L'++L2):=by
 have E:aL H B2 L2:=h.sub (List.sublist_append_right ..) (List.sublist_append_right ..);have l:∀ q,q∈eC B2∨q∈dC L2→¬ (q∈eC B1++dC L1):=by
  intro q hq K;have j:=h.nd;rw[show eC (B1++B2)=eC B1++eC B2 from aHX,lY] at j;have e:aJG ((eC B1++eC B2)++(dC L1++dC L2)) ((eC B1++dC L1)++(eC B2++dC L2)):=by rw[aHN,aHN];exact aJG.append_left _ (by rw[← aHN,← aHN]; exact aJG.append_right _ List.perm_append_comm)
  rw[e.nodup_iff,aJK] at j;exact j.2.2 q K q (aHQ.2 hq) rfl
 have new:∀ q,q∈eC B'∨q∈dC L'→(H.over (H.only (eC B1++dC L1)) H') q=H' q:=by intro q hq;obtain⟨x,hx⟩:=w.AA hq;rw[pF,hx]
 have I:∀ q,q∈eC B2∨q∈dC L2→(H.over (H.only (eC B1++dC L1)) H') q=H q:=by
  intro q hq;obtain⟨x,hx⟩:=E.AA hq;have A:(H.only (eC B1++dC L1)) q=none:=by rw[qX,if_neg (l q hq)]
  rw[pF];cases e:H' q with
  | none=>simp only[A]
  | some y =>have:=J q y e A;rw[hx] at this; cases this
 have k1:=w.keep new;have k2:=E.keep I;refine⟨fun b hb=>?_,fun x hx=>?_,?_⟩
 ·rcases aHQ.1 hb with hb | hb
  ·exact k1.box b hb
  ·exact k2.box b hb
 ·rcases aHQ.1 hx with hx | hx
  ·exact k1.lst x hx
  ·exact k2.lst x hx
 ·rw[show eC (B'++B2)=eC B'++eC B2 from aHX,lY];refine awC w.nd E.nd fun q hq u=>?_;obtain⟨x,hx⟩:=w.AA hq;obtain⟨y,M⟩:=E.AA u;have A:(H.only (eC B1++dC L1)) q=none:=by rw[qX,if_neg (l q u)]
  have:=J q x hx A;rw[M] at this; cases this
theorem FP {name:Nat} {vs:List PV} {args:List aN} {d:Option Nat} {K:PF→PH→Prop} {B1 B2:List BX} {L1 L2:List LI} {Q:PV→List BX→List LI→Prop} (h:aL H (B1++B2) (L1++L2))
  (w:∀ j,aL j B1 L1→aG C name vs j (fun r H'=>∃ B' L',Q r B' L'∧aL H' B' L')) (u:aN.evs F args=some vs)
  (x:∀ r B' L' H',Q r B' L'→aL H' (B'++B2) (L'++L2)→K (F.put d r) H'):gA C name args [] d K F H:=by
 refine dU (w (H.only (eC B1++dC L1)) (h.only (aKI ..) (aKI ..))) u (SW H _) ?_;rintro r H' ⟨B',L',hq,l⟩ e;exact x r B' L' _ hq (h.frame l e)
theorem aL.nB {B:List BX} {o:Nat} {x:bG} (h:aL H (B++[(o,x)]) L):H o=some x:=h.box (o,x) (by simp)
theorem aL.tA {B:List BX} {o:Nat} {x:bG} (h:aL H (B++[(o,x)]) L) (y:bG):aL (H.set o y) (B++[(o,y)]) L:=by
 have:=h.set B.length (o:=o) (x:=x) (by simp) y
 rwa [aKB _ _ (aGQ _),Nat.sub_self] at this
theorem aL.dropLast {B:List BX} {b:BX} (h:aL H (B++[b]) L):aL H B L:=h.sub (aKI ..) (aIQ.refl _)
theorem aL.atX {B:List BX} {o:Nat} {x:bG} (h:aL H ((o,x)::B) L) (y:bG):aL (H.set o y) ((o,y)::B) L:=h.set 0 rfl y
theorem aL.avM {B:List BX} {o:Nat} {x:bG} (h:aL H ((o,x)::B) L):H o=some x:=h.at 0 rfl
theorem mC {name o:Nat} {x y:bG} {r:PV} {vs:List PV} {args:List aN} {d:Option Nat} {K:PF→PH→Prop} (h:aG C name vs (PH.nil.set o x) (fun e H'=>e=r∧H'=PH.nil.set o y)) (u:H o=some x) (j:aN.evs F args=some vs)
  (l:K (F.put d r) (H.set o y)):gA C name args [] d K F H:=by
 refine dU h j (e_ a_ u) ?_;rintro e H' ⟨rfl,rfl⟩ -;rw[PH.qE];exact l
theorem ahK {Hs:PH} {S:Spec} {name o:Nat} {x y:bG} {r:PV} {vs:List PV} {R:PH→PV→PH→Prop} {args:List aN} {st:Bool} {d:Option Nat} {K:PF→PH→Prop} (N:S name vs=some ([o],R)) (M:H o=some x)
  (h:aG C name vs (PH.nil.set o x) (fun j H'=>j=r∧H'=PH.nil.set o y)) (l:R (PH.nil.set o x) r (PH.nil.set o y)) (A:∀ j H',R (PH.nil.set o x) j H'→j=r∧H'=PH.nil.set o y) (O:aN.evs F args=some vs)
  (E:Hs.le (H.set o y)) (U:K (F.put d r) (H.set o y)):dOp C Hs S st (.call name args) d K F H:=by
 have e:=Jm M;refine⟨vs,[o],_,O,N,fun q hq=>?_,?_,fun G=>⟨r,_,by rw[e]; exact l,fun q z J w=>?_⟩,fun j H' u _=>?_⟩
 ·simp at hq; subst hq; exact⟨x,M⟩
 ·rw[e];exact h.post fun j H' u=>⟨j,.refl _,by rw[u.1,u.2]; exact l⟩
 ·rw[e] at w;rw[aP] at J w;split at w
  ·cases w
  ·rename_i I;rw[if_neg I] at J; cases J
 ·rw[e] at u;obtain⟨rfl,rfl⟩:=A j H' u;rw[e,PH.qE];exact⟨E,U⟩
theorem amR {s:Nat} {q z:Nat} {rs:List (List PV)} {v:PV} {rows:List (List PV)} (h:bA H s v rows) (l:v.oid≠some q):bA (H.frz q z rs) s v (rows.map fun r=>r.map (PV.bV q z rs)):=by
 rcases h with ⟨rfl,rfl⟩ | ⟨p,rs',rfl,h1,h2,h3⟩
 ·exact .inl ⟨rfl,rfl⟩
 ·have j:¬ p=q:=fun e=>l (by rw[e]; rfl);refine .inr ⟨p,rs'.map fun r=>r.map (PV.bV q z rs),by rw[aGK],?_,by simpa using h2,?_⟩
  ·rw[zU,if_neg j,h1]; rfl
  ·rw[aGK,← List.map_take,h3]
theorem aL.frz (h:aL H B L) (i:Nat) {q s k:Nat} {rows:List (List PV)} (hi:L[i]?=some (.osl q s 0 k,s,rows)):∃ rs,H q=some (.rows s rs)∧PV.bV q s rs (.osl q s 0 k)=.sl s rows∧PV.frz q s rs (.osl q s 0 k)=.sl s rows∧(∀ j x,j≠i→L[j]?=some x→PV.bV q s rs x.1=x.1) ∧
  aL (H.frz q s rs) (B.map fun b=>(b.1,b.2.frz q s rs)) ((L.eraseIdx i).map fun x=>(x.1,x.2.1,x.2.2.map fun r=>r.map (PV.bV q s rs))):=by
 obtain⟨rs,U,V,W,X⟩:=(h.own i hi).id rfl;injection V with _ _ _ hk
 subst hk;have e:PV.frz q s rs (.osl q s 0 rows.length)=.sl s rows:=by rw[zQ W,X]
 refine⟨rs,U,e,e,?_⟩;refine⟨fun j x J R=>?_,?_⟩
 ·have u:x.1.oid≠some q:=by
   intro u;obtain⟨K,he⟩:=aHP.1 hi;obtain⟨α,Y⟩:=aHP.1 R;have w:x∈L.eraseIdx i:=List.mem_eraseIdx_iff_getElem?.2 ⟨j,J,R⟩;have l:=h.ndL;have N:L=L.take i++(L[i]::L.drop (i+1)):=by rw[← aIZ K,aJH]
   rw[List.eraseIdx_eq_take_drop_succ] at w;rw[N,lY] at l;have I:dC (L[i]::L.drop (i+1))=q::dC (L.drop (i+1)):=by rw[he]; rfl
   rw[I,aJK] at l;obtain⟨a,b,c⟩:=l;rcases aHQ.1 w with hx | hx
   ·exact c q (mN hx u) q (by simp) rfl
   ·exact (List.nodup_cons.1 b).1 (mN hx u)
  cases hx:x.1<;>try rfl
  rename_i p z β len;have:¬ p=q:=fun e=>u (by rw[hx,e]; rfl);simp only[PV.bV,if_neg this]
 obtain⟨L1,L2,e1,e2⟩:=E7 (v':=.aA) (s':=s) (rows':=rows) hi;have Z:i=L1.length∨True:=.inr trivial;have y:(L.eraseIdx i).Sublist L:=List.eraseIdx_sublist ..;have M:∀ x∈L.eraseIdx i,x.1.oid≠some q:=by
  intro x hx u;obtain⟨K,he⟩:=aHP.1 hi;have l:=h.ndL;have N:L=L.take i++(L[i]::L.drop (i+1)):=by rw[← aIZ K,aJH]
  rw[List.eraseIdx_eq_take_drop_succ] at hx;rw[N,lY] at l;have I:dC (L[i]::L.drop (i+1))=q::dC (L.drop (i+1)):=by rw[he]; rfl
  rw[I,aJK] at l;obtain⟨a,b,c⟩:=l;rcases aHQ.1 hx with hx | hx
  ·exact c q (mN hx u) q (by simp) rfl
  ·exact (List.nodup_cons.1 b).1 (mN hx u)
 refine⟨fun b hb=>?_,fun x hx=>?_,?_⟩
 ·obtain⟨O,A,rfl⟩:=aHJ.1 hb;have:¬ O.1=q:=h.ndX (vM A) (mN (aII hi) rfl);simp only;rw[zU,if_neg this,h.box O A]; rfl
 ·obtain⟨S,E,rfl⟩:=aHJ.1 hx;exact amR (h.lst S (y.subset E)) (M S E)
 ·have i1:eC (B.map fun b=>(b.1,b.2.frz q s rs))=eC B:=by unfold eC; rw[aJQ]; rfl
  have i2:dC ((L.eraseIdx i).map fun x=>(x.1,x.2.1,x.2.2.map fun r=>r.map (PV.bV q s rs)))=dC (L.eraseIdx i):=by unfold dC; rw[List.filterMap_map]; rfl
  rw[i1,i2];exact List.Nodup.sublist (aIQ.append (aIQ.refl _) (y.filterMap _)) h.nd
def Flat (rows:List (List PV)):Prop:=∀ q s rs,rows.map (fun r=>r.map (PV.bV q s rs))=rows
theorem Flat.nil:Flat []:=fun _ _ _=>rfl
theorem Flat.of {rows:List (List PV)} (h:∀ r∈rows,∀ c∈r,∀ q s rs,PV.bV q s rs c=c):Flat rows:=fun q s rs=>by
 conv=>rhs; rw[← List.map_id rows]
 refine aIP fun r j=>?_
 conv=>rhs; rw[id,← List.map_id r]
 exact aIP fun c e=>h r j c e q s rs
theorem Flat.map {α:Type} {f:α→List PV} (l:List α) (h:∀ x,∀ c∈f x,∀ q s rs,PV.bV q s rs c=c):Flat (l.map f):=Flat.of fun r e=>by
 obtain⟨x,_,rfl⟩:=aHJ.1 e;exact h x
theorem Flat.append {r1 r2:List (List PV)} (e:Flat r1) (j:Flat r2):Flat (r1++r2):=fun q s rs=>by rw[aHX,e,j]
theorem aL.flat {φ:PV→List (List PV)} (h:aL H B L):aL H B L:=h
def oP (v:PV) (H:PH) (R:PV→PH→Prop):Prop:=∃ e j H2,jF (PF.nil.set 0 v) H e j∧H2.le j∧∃ u,e 0=some u∧R u H2
theorem oP.done {v:PV} {H2:PH} {R:PV→PH→Prop} (j:R v H2) (e:H2.le H):oP v H R:=⟨_,_,H2,.refl _ _,e,v,by rw[mR,if_pos rfl],j⟩
theorem oP.step {v:PV} {q s:Nat} {rs:List (List PV)} {R:PV→PH→Prop} (hq:H q=some (.rows s rs)) (h:oP (PV.frz q s rs v) (H.frz q s rs) R):oP v H R:=by
 obtain⟨j,l,H2,u,w,x⟩:=h;have e:(PF.nil.set 0 v).frz q s rs=PF.nil.set 0 (PV.frz q s rs v):=by funext i;rw[oF,mR,mR];split<;>rfl
 exact⟨j,l,H2,.step q hq (by rw[e]; exact u),w,x⟩
theorem oI {res:List dW} {R:PV→PH→Prop} {vs:List PV} {e:kE} (he:e=.normal∨e=.ret) (h:dW.evs F H res=some vs) (x:oP (cZ vs) H R):aT res R e F H:=by
 have j:∃ vs,dW.evs F H res=some vs∧∃ l w H2,jF (PF.nil.set 0 (cZ vs)) H l w∧H2.le w∧∃ u,l 0=some u∧R u H2:=⟨vs,h,x⟩;rcases he with rfl | rfl<;>exact j
theorem HS {u:PV} (h:u.oid=none) (q s:Nat) (rs:List (List PV)):PV.bV q s rs u=u:=by
 cases u<;>first | rfl | (simp[PV.oid] at h)
theorem Seen.co {s:Nat} {v:PV} {rows:List (List PV)} (h:Seen s v rows):Co v (.sl s rows):=by
 rcases h with ⟨rfl,rfl⟩ | rfl
 ·exact .nil s
 ·exact .refl _
theorem aL.giveUp:∀ (L:List LI) {H:PH} {B:List BX},aL H B L→(∀ x∈L,Flat x.2.2)→(∀ b∈B,∀ q s rs,bG.frz q s rs b.2=b.2) →
  ∃ (φ:PV→PV) (y:PH),(∀ x∈L,Seen x.2.1 (φ x.1) x.2.2)∧(∀ u,u.oid=none→φ u=u)∧aL y B []∧∀ cs R,oP (.agg (cs.map φ)) y R→oP (.agg cs) H R
 | [],H,B,h,_,_=>⟨id,H,by simp,fun _ _=>rfl,h,fun cs R I=>by rwa [List.map_id] at I⟩
 | (w,s,rows)::L,H,B,h,E,hB=>by
  have l:∀ q z rs,(L.map fun x=>(x.1,x.2.1,x.2.2.map fun r=>r.map (PV.bV q z rs)))=L:=fun q z rs=>by
   conv=>rhs; rw[← List.map_id L]
   refine aIP fun x hx=>?_;rw[E x (by simp[hx]) q z rs]; rfl
  rcases h.own 0 rfl with ⟨A,S⟩ | ⟨q,rs,A,_⟩
  ·obtain⟨φ,y,k1,k2,J,K⟩:=aL.giveUp L (h.bu 0) (fun x hx=>E x (by simp[hx])) hB;refine⟨φ,y,fun x hx=>?_,k2,J,K⟩;rw[aGV] at hx;rcases hx with rfl | hx
   ·exact .inl ⟨A,by simp only; rw[S]; exact k2 _ rfl⟩
   ·exact k1 x hx
  ·subst A;obtain⟨rs,V,W,Z,X,N⟩:=h.frz 0 rfl;have Y:aL (H.frz q s rs) B L:=by
    have O:(B.map fun b=>(b.1,b.2.frz q s rs))=B:=by
     conv=>rhs; rw[← List.map_id B]
     refine aIP fun b hb=>?_;rw[hB b hb q s rs]; rfl
    rw[O] at N;have:=N;simp only[List.eraseIdx_cons_zero] at this
    rwa [l q s rs] at this
   obtain⟨φ,y,k1,k2,J,K⟩:=aL.giveUp L Y (fun x hx=>E x (by simp[hx])) hB;refine⟨fun u=>φ (PV.bV q s rs u),y,fun x hx=>?_,fun u M=>?_,J,fun cs R I=>?_⟩
   ·rw[aGV] at hx;rcases hx with rfl | hx
    ·simp only;rw[W];exact .inr (k2 _ rfl)
    ·obtain⟨j,U⟩:=List.mem_iff_getElem?.1 hx;have:=X (j+1) x Om (by simpa using U);simp only;rw[this];exact k1 x hx
   ·simp only;rw[HS M,k2 u M]
   ·refine .step V ?_;have e:PV.frz q s rs (.agg cs)=.agg (cs.map (PV.bV q s rs)):=rfl;rw[e];refine K _ R ?_;rw[aJQ];exact I
theorem BT {K:cG} {α:Type} {e:α→PF} {Hs:α→PH} {j:α→Prop} {m:α→Nat} {n q s:Nat} {rs:List (List PV)} (a:α) (hq:H q=some (.rows s rs)) (l:j a) (x:m a<n) (u:(e a).le (F.frz q s rs)) (w:(Hs a).le (H.frz q s rs)):jE e Hs j m n K .normal F H :=
 ⟨a,_,_,.step q hq (.refl _ _),l,x,u,w⟩
end
structure tO (C:Ctx):Prop extends ba C where
 int:∀ n:Int,dV n→aG C 47 [.int .i64 n] .nil (aM (.agg (mkT n 1).cells))
 itoa:∀ n:Nat,n<100→aG C 195 [.int .i64 n] .nil (aM (.str (bW n)))
 next:∀ (l:List Nat) (v:PV),Tp l v→∀ (o n a:Nat),n≤1000000→a≤l.length→aG C 4 [.ptr o 2 0 0,.int .i64 n] (PH.nil.set o (aR v a)) (av l v o n a)
section
variable {C:Ctx} {F:PF} {H:PH} {l:List Nat} {v:PV} {o a:Nat}
theorem cR (j:tO C) (T:Tp l v) {n:Nat} {args:List aN} {d:Option Nat} {K:PF→PH→Prop} (x:n≤1000000) (u:a≤l.length) (e:aN.evs F args=some [.ptr o 2 0 0,.int .i64 n]) (y:H o=some (aR v a))
  (w:K (F.put d (.int .i64 ((aD l n a).1:Nat))) (H.set o (aR v (aD l n a).2))):gA C 4 args [] d K F H :=
 mC (j.next l v T o n a x u) y e w
end
def aoK (l:List Nat) (v:PV) (o a:Nat) (r:PV) (H:PH):Prop:=r=.agg (fV l a).1.cells∧H=PH.nil.set o (aR v (fV l a).2)
theorem vG (l:List Nat) {a:Nat} (h:a≤l.length):(fV l a).2≤l.length:=bD l 8 (bD l 6 h)
theorem akE {C:Ctx} (j:tO C) {l:List Nat} {v:PV} (T:Tp l v) (o a:Nat) (x:a≤l.length):JG.wp C (aT X6.res (aoK l v o a)) (PF.args [.ptr o 2 0 0]) (PH.nil.set o (aR v a)):=by
 simp only[go_sem,JG,Gm,X6];refine aQ fun p K=>?_;have y:¬ p=o:=(jH.1 K).1;have e:¬ o=p:=fun h=>y h.symm;have M:=bU l (show 0<6 by decide) a;have a1:=bD l 6 x;simp only[go_sem,Gn];refine cR j T (o:=o) (n:=6) (a:=a) (by decide) x rfl (by simp only[go_sem,e]) ?_;have E:IntKind.i64.wrap (1+((aD l 6 a).1:Int))=((1+(aD l 6 a).1:Nat):Int):=by rw[wrap_i64 Om Om]; omega
 simp only[go_sem,E];have N:=bU l (show 0<8 by decide) (aD l 6 a).2;refine cR j T (o:=o) (n:=8) (a:=(aD l 6 a).2) (by decide) a1 rfl Sq ?_;have I:IntKind.i64.wrap (1+((aD l 8 (aD l 6 a).2).1:Int))=((1+(aD l 8 (aD l 6 a).2).1:Nat):Int):=by rw[wrap_i64 Om Om]; omega
 simp only[go_sem,I];refine aB (j.fmk ((1+(aD l 6 a).1:Nat):Int) ((1+(aD l 8 (aD l 6 a).2).1:Nat):Int) (by unfold dV; omega) (by unfold dV; omega)) rfl ?_;have J:¬ ((1+(aD l 8 (aD l 6 a).2).1:Nat):Int)=0:=Om;unfold xN;rw[if_neg J];simp only[go_sem];refine aQ fun q hq=>?_;have A:¬ q=o:=(jH.1 hq).1;have B:¬ q=p:=(jH.1 (jH.1 hq).2).1;have w:¬ p=q:=fun h=>B h.symm;have u:¬ o=q:=fun h=>A h.symm;simp only[go_sem,Gp,y,e,A,B,w];refine aU (vs:=[.agg (fV l a).1.cells]) (.inr rfl) (PH.nil.set o (aR v (fV l a).2)) ?_ (e_ a_ ?_) ⟨rfl,rfl⟩
 ·simp only[go_sem];rfl
 ·simp only[go_sem,e,u];rfl
structure zk (C:Ctx):Prop extends tO C where
 frac:∀ (l:List Nat) (v:PV),Tp l v→∀ (o a:Nat),a≤l.length→aG C 1 [.ptr o 2 0 0] (PH.nil.set o (aR v a)) (aoK l v o a)
abbrev gU (l:List RF):List (List PV):=l.map RF.cells
theorem yD (l:List RF) (x:RF):gU l++[x.cells]=gU (l++[x]):=by simp[gU]
theorem HR (l:List RF):Flat (gU l):=Flat.map l fun x c e q s rs=>by
 simp only[RF.cells,gT,aGV,aHH,or_false] at e;rcases e with rfl | rfl | rfl<;>rfl
theorem nD (l:List RF):(gU l).length=l.length:=by simp[gU]
theorem Tp.frz {l:List Nat} {v:PV} (T:Tp l v) (q s:Nat) (rs:List (List PV)):PV.bV q s rs v=v:=by
 rcases T.seen with ⟨_,rfl⟩ | rfl<;>rfl
theorem GK (l:List Nat) {a:Nat} (h:a≤l.length):∀ k,(kK l a k).2≤l.length
 | 0=>h
 | k+1=>vG l (GK l h k)
theorem J1 (l:List Nat) (a:Nat):∀ k,(kK l a k).1.length=k
 | 0=>rfl
 | k+1=>by simp only[kK,aGO,aGR,J1 l a k]
def avF (l:List Nat) (v:PV) (o a k:Nat) (r:PV) (H:PH):Prop:=r=frs (kK l a k).1∧H=PH.nil.set o (aR v (kK l a k).2)
def Yd (o:Nat) (m:Nat) (w:PV) (i:Nat):PF:=((((PF.nil.set 0 (.ptr o 2 0 0)).set 1 (.int .i64 m)).set 5 (w)).set 6 (.int .i64 i))
theorem asN {C:Ctx} (K:zk C) {l:List Nat} {v:PV} (T:Tp l v) (o a m:Nat) (V:m≤1000) (O:a≤l.length):OS.wp C (aT akW.res (avF l v o a (max m 1))) (PF.args [.ptr o 2 0 0,.int .i64 m]) (PH.nil.set o (aR v a)):=by
 have x:∀ i:Nat,((i:Int)<(if (m:Int)<1 then 1 else (m:Int)))↔i<max m 1:=by intro i;split<;>omega
 simp only[go_sem,OS,S5,S6,S7,akW];have M:aL (PH.nil.set o (aR v a)) [(o,aR v a)] [(.aA,3,gU [])]:=(aL.nil.new (H:=PH.nil) rfl (aR v a)).mO 3;refine wp_loop (α:=Nat × PV × PH) (fun t=>Yd o m t.2.1 t.1) (fun t=>t.2.2) (fun t=>t.1≤max m 1∧aL t.2.2 [(o,aR v (kK l a t.1).2)] [(t.2.1,3,gU (kK l a t.1).1)]) (fun t=>max m 1-t.1) (0,.aA,PH.nil.set o (aR v a)) ⟨aGW _,M⟩ ?_ b_ ?_
 ·unfold Yd;exact Lq
 rintro⟨k,w,U⟩ ⟨R,u⟩;simp only at R u ⊢;simp only[go_sem,S4,S8,Yd];have E:=GK l O k;have j:=J1 l a k;by_cases hlt:k<max m 1
 ·have B:=(x k).2 hlt;simp only[go_sem,B,S9];refine mC (K.frac l v T o _ E) (u.at 0 rfl) rfl ?_;have A:=u.set 0 rfl (aR v (fV l (kK l a k).2).2);have y:(1:Nat)*3≤16777216:=by decide
  simp only[go_sem,y];refine A.append 0 (src:=[(fV l (kK l a k).2).1.cells]) rfl rfl (by unfold roomFor; rw[nD,j]; simp only[aGR,maxLen]; omega) fun S H' J _=>?_;rw[yD] at J;simp only[go_sem,Ta,wZz k];refine aH (k+1,S,H') ⟨hlt,J⟩ (by simp only; omega) ?_ b_;exact Lq
 ·have B:¬ ((k:Int)<(if (m:Int)<1 then 1 else (m:Int))):=fun h=>hlt ((x k).1 h);have e:k=max m 1:=Om;subst e;simp only[go_sem,B,Tb];have I:gU (kK l a (max m 1)).1≠[]:=fun h=>by have:=congrArg List.length h;rw[nD,j] at this;simp at this
  rcases u.own 0 rfl with ⟨N,_⟩ | ⟨q,rs,rfl,_⟩
  ·exact absurd N I
  obtain⟨rs,g1,g2,g3,-,g4⟩:=u.frz 0 rfl;refine oI (vs:=[.osl q 3 0 (gU (kK l a (max m 1)).1).length]) (.inr rfl) rfl (.step g1 (.done (H2:=PH.nil.set o (aR v (kK l a (max m 1)).2)) ?_ (e_ a_ ?_)))
  ·rw[cZ,g3];exact⟨rfl,rfl⟩
  ·have:=g4.at 0 rfl;rw[this];simp only[bG.frz,aHR,aIW,T.frz];rfl
theorem akP {C:Ctx} (j:tO C) (s:List UInt8) (n:Nat) (x:s.length≤100) (u:n<100):JN.wp C (aT Yb.res (aM (.str (s++bW n)))) (PF.args [.str s,.int .i64 n]) .nil:=by
 have w:(bW n).length≤2:=by
  unfold bW;rw[Lib.decDigits];split
  ·simp
  ·rw[Lib.decDigits,dif_pos Om]; simp
 have e:¬ (((s.length+(bW n).length:Nat):Int)>9223372036854775807):=Om;simp only[go_sem,JN,G9,Ha,Yb];refine aB (j.itoa n u) rfl ?_;simp only[go_sem,Wm,e];refine cE (.inr rfl) rfl ?_;rfl
structure tP (C:Ctx):Prop extends zk C where
 rep:∀ (l:List Nat) (v:PV),Tp l v→∀ (o a m:Nat),m≤1000→a≤l.length→aG C 5 [.ptr o 2 0 0,.int .i64 m] (PH.nil.set o (aR v a)) (avF l v o a (max m 1))
 name:∀ (s:List UInt8) (n:Nat),s.length≤100→n<100→aG C 29 [.str s,.int .i64 n] .nil (aM (.str (s++bW n)))
theorem ahB (l:List Nat) (i j:Nat) {a:Nat} (h:a≤l.length):(jL l i j a).2≤l.length:=by
 unfold jL;split
 ·exact vG l h
 ·split
  ·exact h
  ·simp only;split
   ·exact vG l (bD l 3 h)
   ·exact bD l 3 h
theorem m6 (l:List Nat) (i:Nat) {a:Nat} (h:a≤l.length):∀ j,(dT l i a j).2≤l.length
 | 0=>h
 | j+1=>ahB l i j (m6 l i h j)
theorem ZO (l:List Nat) (i a:Nat):∀ j,(dT l i a j).1.length=j
 | 0=>rfl
 | j+1=>by simp only[dT,aGO,aGR,ZO l i a j]
theorem XL (l:List Nat) (n i:Nat) (s:CY) (h:s.a≤l.length):(dS l n i s).2≤l.length∧(dS l n i s).1≤s.left:=by
 unfold dS;split
 ·exact⟨bD l _ h,by have:=bU l (Om:0<s.left+1) s.a; omega⟩
 ·exact⟨h,aGQ _⟩
theorem At (l:List Nat) (n i:Nat) {a:Nat} (h:a≤l.length):(fG l n i a).2≤l.length:=by
 unfold fG;simp only;split
 ·exact bD l 3 (vG l h)
 ·exact vG l h
theorem kx (l:List Nat) (n:Nat) {a:Nat} (h:a≤l.length):∀ i,(gI l n a i).a≤l.length∧(gI l n a i).left≤8∧(gI l n a i).start.length=i∧(gI l n a i).exit.length=i∧(gI l n a i).aFB.length=i
 | 0=>⟨h,aGQ _,rfl,rfl,rfl⟩
 | i+1=>by
  obtain⟨e,x,j,u,h5⟩:=kx l n h i;have w:=XL l n i (gI l n a i) e;refine⟨?_,?_,?_,?_,?_⟩
  ·exact m6 l i (At l n i w.1) n
  ·simp only[gI]; omega
  ·simp only[gI,aGO,aGR,j]
  ·simp only[gI,aGO,aGR,u]
  ·simp only[gI,aGO,aGR,h5]
abbrev vT (l:List (List RF)):List (List PV):=l.map fun r=>[frs r]
theorem uk (l:List (List RF)):Flat (vT l):=Flat.map l fun x c e q s rs=>by
 simp only[aGV,aHH,or_false] at e;subst e; rfl
abbrev XK (e j l:PV):bG:=.rows 4 [[.str [],e,j,l]]
abbrev Fc:bG:=.rows 4 [[.str [],.aA,.aA,.aA]]
def fX (o o4 o6 n left i:Nat) (w:PV) (j:Nat):PF:=((((((((PF.nil.set 0 (.ptr o 2 0 0)).set 4 (.ptr o4 4 0 0)).set 5 (.int .i64 n)).set 6 (.ptr o6 4 0 0)).set 7 (.int .i64 left)).set 8 (.int .i64 i)).set 13 (w)).set 14 (.int .i64 j))
def cV (o o4 o6 n left i:Nat):PF:=((((((PF.nil.set 0 (.ptr o 2 0 0)).set 4 (.ptr o4 4 0 0)).set 5 (.int .i64 n)).set 6 (.ptr o6 4 0 0)).set 7 (.int .i64 left)).set 8 (.int .i64 i))
theorem XW {l:List RF} (h:l.length≤1000):roomFor (gU l).length 1 56:=by
 unfold roomFor;rw[nD];simp only[maxLen]; omega
theorem akL {C:Ctx} (W:tP C) {l:List Nat} {v:PV} (T:Tp l v) (o o4 o6 n left i a:Nat) (ha:a≤l.length) (hn:n≤100) (hi:i<n) (B:List BX) (L:List LI) (K:cG) (F:PF) (H:PH)
  (hF:(fX o o4 o6 n left i .aA 0).le F) (O:aL H ((o,aR v a)::B) L)
  (hK:∀ w y H',(fX o o4 o6 n left i w n).le y→aL H' ((o,aR v (dT l i a n).2)::B) (L++[(w,3,gU (dT l i a n).1)])→K (.exit 2) y H') :
  aE.wp C (.loop JI) K F H:=by
 refine wp_loop (α:=Nat × PV × PH) (fun t=>fX o o4 o6 n left i t.2.1 t.1) (fun t=>t.2.2) (fun t=>t.1≤n∧aL t.2.2 ((o,aR v (dT l i a t.1).2)::B) (L++[(t.2.1,3,gU (dT l i a t.1).1)])) (fun t=>n-t.1) (0,.aA,H) ⟨aGW _,O.mO 3⟩ hF b_ ?_;rintro⟨j,w,H0⟩ ⟨hj,O⟩;simp only at hj O ⊢;have N:=m6 l i ha j;have ε:=ZO l i a j;have e1:IntKind.i64.wrap ((i:Int)+1)=((i+1:Nat):Int):=dJ Om;simp only[go_sem,JI,G4,fX];by_cases hlt:j<n
 ·have I:(j:Int)<(n:Nat):=Om;simp only[go_sem,I,G5];refine aB (W.int 0 (by unfold dV; omega)) rfl ?_;simp only[go_sem];refine aQ fun p hp=>?_;have A:=O.new hp (.rows 3 [kC.cells]);simp only[go_sem,G6,e1];have fin:∀ (y:PF) (H':PH),(fX o o4 o6 n left i w j).le y→y 15=some (.ptr p 3 0 0)→aL H' ((o,aR v (jL l i j (dT l i a j).2).2)::B++[(p,.rows 3 [(jL l i j (dT l i a j).2).1.cells])]) (L++[(w,3,gU (dT l i a j).1)]) →
    aE.wp C (.region YG) (fF 3 (kL C (aE.wp C (.region YH)) (jE (fun (t:Nat × PV × PH)=>fX o o4 o6 n left i t.2.1 t.1) (fun t=>t.2.2) (fun t=>t.1≤n∧aL t.2.2 ((o,aR v (dT l i a t.1).2)::B) (L++[(t.2.1,3,gU (dT l i a t.1).1)])) (fun t=>n-t.1) (n-j) K))) y H':=by
   intro y H' e J R;have f0:y 0=some (.ptr o 2 0 0):=e 0 _ (by unfold fX; simp only[go_sem]);have f4:y 4=some (.ptr o4 4 0 0):=e 4 _ (by unfold fX; simp only[go_sem]);have f5:y 5=some (.int .i64 n):=e 5 _ (by unfold fX; simp only[go_sem]);have f6:y 6=some (.ptr o6 4 0 0):=e 6 _ (by unfold fX; simp only[go_sem]);have f7:y 7=some (.int .i64 left):=e 7 _ (by unfold fX; simp only[go_sem]);have f8:y 8=some (.int .i64 i):=e 8 _ (by unfold fX; simp only[go_sem]);have f13:y 13=some w:=e 13 _ (by unfold fX; simp only[go_sem]);have f14:y 14=some (.int .i64 j):=e 14 _ (by unfold fX; simp only[go_sem]);have γ:H' p=some (.rows 3 [(jL l i j (dT l i a j).2).1.cells]):=R.box (p,.rows 3 [(jL l i j (dT l i a j).2).1.cells]) (by simp);have Y:(1:Nat)*3≤16777216:=by decide
   simp only[go_sem,YG,f13,J,γ,Y];refine R.append (v:=w) (s:=3) (rows:=gU (dT l i a j).1) L.length (src:=[(jL l i j (dT l i a j).2).1.cells]) (by simp) rfl (XW Om) fun w' H2 h2 _=>?_;rw[yD,aKB _ _ (aGQ _),Nat.sub_self] at h2;simp only[go_sem,YH,f14,wZz j];refine aH (α:=Nat × PV × PH) (j+1,w',H2) ⟨hlt,h2.sub (aKI ..) (aIQ.refl _)⟩ (by simp only; omega) ?_ b_;unfold fX;exact Lq
  simp only[aE.wp,go_sem] at fin;have V:∀ x:RF,PH.set (PH.set H0 p (.rows 3 [kC.cells])) p (.rows 3 [x.cells])=PH.set H0 p (.rows 3 [x.cells]):=fun x=>PH.set_set p _ _;have draw:∀ (y:PF) (S:PH) (a1:Nat),a1≤l.length→(fX o o4 o6 n left i w j).le y→y 15=some (.ptr p 3 0 0)→aL S ((o,aR v a1)::B++[(p,.rows 3 [kC.cells])]) (L++[(w,3,gU (dT l i a j).1)])→jL l i j (dT l i a j).2=fV l a1→∀ K',(∀ M H2,(fX o o4 o6 n left i w j).le M→M 15=some (.ptr p 3 0 0)→aL H2 ((o,aR v (jL l i j (dT l i a j).2).2)::B++[(p,.rows 3 [(jL l i j (dT l i a j).2).1.cells])]) (L++[(w,3,gU (dT l i a j).1)])→K' M H2) →
    wpOps C YF K' y S:=by
   intro y S a1 β e J A he K' Z;have f0:y 0=some (.ptr o 2 0 0):=e 0 _ (by unfold fX; simp only[go_sem]);simp only[go_sem,YF,f0];refine mC (W.frac l v T o a1 β) (A.at 0 rfl) rfl ?_;have E:aL (S.set o (aR v (fV l a1).2)) ((o,aR v (fV l a1).2)::B++[(p,.rows 3 [kC.cells])]) (L++[(w,3,gU (dT l i a j).1)]):=A.set 0 rfl _;have δ:=E.nB;simp only[go_sem,J,δ];refine Z _ _ ?_ (by simp only[go_sem,J]) ?_
   ·have g:=fun (q:Nat) u h=>e q u h;unfold fX at g ⊢;refine c_ (c_ (c_ (c_ (c_ (c_ (c_ (c_ d_ ?_) ?_) ?_) ?_) ?_) ?_) ?_) ?_
    ·simp only[go_sem,f0]
    ·simp only[go_sem,g 4 _ rfl]
    ·simp only[go_sem,g 5 _ rfl]
    ·simp only[go_sem,g 6 _ rfl]
    ·simp only[go_sem,g 7 _ rfl]
    ·simp only[go_sem,g 8 _ rfl]
    ·simp only[go_sem,g 13 _ rfl]
    ·simp only[go_sem,g 14 _ rfl]
   ·rw[he];exact E.tA (.rows 3 [(fV l a1).1.cells])
  by_cases U:j=i+1
  ·have he:jL l i j (dT l i a j).2=fV l (dT l i a j).2:=by unfold jL; rw[if_pos U]
   simp only[go_sem,bM (Om:(j:Int)=((i+1:Nat):Int))];refine draw _ _ _ N (by unfold fX; exact Lq) rfl A he _ ?_;intro M H2 k1 k2 k3;exact fin M H2 k1 k2 k3
  ·simp only[go_sem,bB (Om:¬ (j:Int)=((i+1:Nat):Int))];by_cases X:j=i
   ·have he:jL l i j (dT l i a j).2=(kC,(dT l i a j).2):=by unfold jL; rw[if_neg U,if_pos X]
    simp only[go_sem,cK (Om:(j:Int)=(i:Int))];exact fin _ _ (by unfold fX; exact Lq) rfl (by rw[he]; exact A)
   ·simp only[go_sem,dN (Om:¬ (j:Int)=(i:Int))];refine cR W.totO T (o:=o) (n:=3) (a:=(dT l i a j).2) (by decide) N rfl (A.at 0 rfl) ?_;have E:aL _ ((o,aR v (aD l 3 (dT l i a j).2).2)::B++[(p,.rows 3 [kC.cells])]) (L++[(w,3,gU (dT l i a j).1)]):=A.set 0 rfl _;by_cases c3:(aD l 3 (dT l i a j).2).1=0
    ·have he:jL l i j (dT l i a j).2=fV l (aD l 3 (dT l i a j).2).2:=by unfold jL; rw[if_neg U,if_neg X]; simp only[c3,if_true]
     simp only[go_sem,bM (show (((aD l 3 (dT l i a j).2).1:Nat):Int)=0 by omega)];refine draw _ _ _ (bD l 3 N) (by unfold fX; exact Lq) rfl E he _ ?_;intro M H2 k1 k2 k3;exact fin M H2 k1 k2 k3
    ·have he:jL l i j (dT l i a j).2=(kC,(aD l 3 (dT l i a j).2).2):=by unfold jL; rw[if_neg U,if_neg X]; simp only[c3,if_false]
     simp only[go_sem,bB (show ¬ (((aD l 3 (dT l i a j).2).1:Nat):Int)=0 by omega)];exact fin _ _ (by unfold fX; exact Lq) rfl (by rw[he]; exact E)
 ·have I:¬ (j:Int)<(n:Nat):=Om;have:j=n:=Om;subst this;simp only[go_sem,I];exact hK w _ _ (by unfold fX; exact Lq) O
abbrev rW (o o4 o6:Nat) (v e j l:PV) (a:Nat):List BX:=[(o,aR v a),(o4,Fc),(o6,XK e j l)]
abbrev wH (s:CY) (e j l:PV):List LI:=[(e,3,gU s.start),(j,1,vT s.aFB),(l,3,gU s.exit)]
theorem acY {C:Ctx} (J:tP C) {l:List Nat} {v:PV} (T:Tp l v) (o o4 o6 n i:Nat) (s:CY) (I:s.a≤l.length) (V:s.left≤8) (W:n≤100) (hi:i<n) (B:List BX) (L:List LI) (e:aE) (K:cG) (F:PF) (H:PH)
  (j:(cV o o4 o6 n s.left i).le F) (A:aL H ((o,aR v s.a)::B) L)
  (w:∀ x H',(cV o o4 o6 n (s.left-(dS l n i s).1) i).le x→x 9=some (.int .i64 ((dS l n i s).1:Nat))→aL H' ((o,aR v (dS l n i s).2)::B) L→aE.wp C e K x H') :
  aE.wp C (.seq (.region lg) (.seq (.seq (.region lh) (.cond (.tmp 29) (.region lj) .skip)) (.seq (.region SQ) e))) K F H:=by
 have f0:F 0=some (.ptr o 2 0 0):=j 0 _ (by unfold cV; simp only[go_sem]);have S:F 4=some (.ptr o4 4 0 0):=j 4 _ (by unfold cV; simp only[go_sem]);have O:F 5=some (.int .i64 n):=j 5 _ (by unfold cV; simp only[go_sem]);have f6:F 6=some (.ptr o6 4 0 0):=j 6 _ (by unfold cV; simp only[go_sem]);have f7:F 7=some (.int .i64 s.left):=j 7 _ (by unfold cV; simp only[go_sem]);have R:F 8=some (.int .i64 i):=j 8 _ (by unfold cV; simp only[go_sem]);have M:IntKind.i64.wrap ((i:Int)+1)=((i+1:Nat):Int):=dJ Om;have U:=(XL l n i s I).2;have u:IntKind.i64.wrap ((s.left:Int)-((dS l n i s).1:Int))=((s.left-(dS l n i s).1:Nat):Int):=by rw[wrap_i64 Om Om]; omega
 simp only[go_sem,lg,f7,lh,R,O,M];by_cases c:i+1<n
 ·have y:((i+1:Nat):Int)<(n:Nat):=Om;have he:dS l n i s=aD l (s.left+1) s.a:=by unfold dS; rw[if_pos c]
  have N:IntKind.i64.wrap ((s.left:Int)+1)=((s.left+1:Nat):Int):=dJ Om;rw[he] at w u;simp only[go_sem,y,lj,f0,f7,N];refine cR J.totO T (o:=o) (n:=s.left+1) (a:=s.a) Om I rfl A.avM ?_;have E:=A.atX (aR v (aD l (s.left+1) s.a).2);simp only[go_sem,SQ,f7,u];refine w _ _ ?_ rfl E;unfold cV;exact Lq
 ·have y:¬ ((i+1:Nat):Int)<(n:Nat):=Om;have he:dS l n i s=(s.left,s.a):=by unfold dS; rw[if_neg c]
  rw[he] at w u;simp only at w u;simp only[go_sem,y,SQ,f7,u];refine w _ _ ?_ rfl A;unfold cV;exact Lq
theorem X8 {C:Ctx} (R:tP C) {l:List Nat} {v:PV} (o o4 o6 n i left k a:Nat) (hk:k≤8) (hi:i<n) (hn:n≤100) (s:CY) (hs:s.start.length=i) (O x A:PV) (B:List BX) (e:aE) (K:cG) (F:PF) (H:PH)
  (w:(cV o o4 o6 n left i).le F) (S:F 9=some (.int .i64 k)) (X:aL H (rW o o4 o6 v O x A a++B) (wH s O x A))
  (Y:∀ u N H' B',(cV o o4 o6 n left i).le N→aL H' (rW o o4 o6 v u x A a++B') (wH { s with start:=s.start++[mkT (k:Nat) 8] } u x A)→aE.wp C e K N H') :
  aE.wp C (.seq (.region XY) (.seq (.region XZ) e)) K F H:=by
 have f0:F 0=some (.ptr o 2 0 0):=w 0 _ (by unfold cV; simp only[go_sem]);have f4:F 4=some (.ptr o4 4 0 0):=w 4 _ (by unfold cV; simp only[go_sem]);have f5:F 5=some (.int .i64 n):=w 5 _ (by unfold cV; simp only[go_sem]);have f6:F 6=some (.ptr o6 4 0 0):=w 6 _ (by unfold cV; simp only[go_sem]);have f7:F 7=some (.int .i64 left):=w 7 _ (by unfold cV; simp only[go_sem]);have f8:F 8=some (.int .i64 i):=w 8 _ (by unfold cV; simp only[go_sem]);simp only[go_sem,XY,S];refine aB (R.fmk (k:Int) 8 (by unfold dV; omega) (by unfold dV; omega)) rfl ?_;unfold xN;rw[if_neg (by decide)];simp only[go_sem];refine aQ fun p Z=>?_;have j:=X.new Z (.rows 3 [(mkT (k:Nat) 8).cells]);have U:=j.at 2 rfl;have V:=j.nB;have I:(1:Nat)*3≤16777216:=by decide
 have α:∀ y,PH.set (PH.set H p (.rows 3 [[PV.bool false,PV.aA,PV.aA]])) p y=PH.set H p y:=fun y=>PH.set_set p _ _;simp only[go_sem,XZ,f6,U,V,I];refine j.append 0 (src:=[(mkT (k:Nat) 8).cells]) rfl rfl (XW Om) fun u H2 J M=>?_;rw[yD] at J M; rw[nD] at M;obtain⟨q,rfl⟩:=M (by simp);have E:=J.at 2 rfl;simp only[go_sem,E,aGV,aHH,or_false,forall_eq];have W:=J.set 2 rfl (XK (.osl q 3 0 (s.start++[mkT (k:Nat) 8]).length) x A);refine Y _ _ _ (B++[(p,.rows 3 [(mkT (k:Nat) 8).cells])]) ?_ W;unfold cV;exact Lq
theorem acX {C:Ctx} (N:tP C) {l:List Nat} {v:PV} (T:Tp l v) (o o4 o6 n i left a:Nat) (ha:a≤l.length) (hi:i<n) (hn:n≤100) (s:CY) (hs:s.exit.length=i) (w x M:PV) (B:List BX) (u:aE) (K:cG) (F:PF) (H:PH)
  (J:(cV o o4 o6 n left i).le F) (hH:aL H (rW o o4 o6 v w x M a++B) (wH s w x M))
  (hK:∀ I e H' B',(cV o o4 o6 n left i).le e→aL H' (rW o o4 o6 v w x I (fG l n i a).2++B') (wH { s with exit:=s.exit++[(fG l n i a).1] } w x I)→aE.wp C u K e H') :
  aE.wp C (.seq (.region YA) (.seq (.seq (.region YB) (.cond (.tmp 58) (.region YC) .skip)) (.seq (.region JJ) u))) K F H:=by
 have f0:F 0=some (.ptr o 2 0 0):=J 0 _ (by unfold cV; simp only[go_sem]);have f4:F 4=some (.ptr o4 4 0 0):=J 4 _ (by unfold cV; simp only[go_sem]);have f5:F 5=some (.int .i64 n):=J 5 _ (by unfold cV; simp only[go_sem]);have f6:F 6=some (.ptr o6 4 0 0):=J 6 _ (by unfold cV; simp only[go_sem]);have f7:F 7=some (.int .i64 left):=J 7 _ (by unfold cV; simp only[go_sem]);have f8:F 8=some (.int .i64 i):=J 8 _ (by unfold cV; simp only[go_sem]);have e1:IntKind.i64.wrap ((i:Int)+1)=((i+1:Nat):Int):=dJ Om;simp only[go_sem,YA,f0];refine mC (N.frac l v T o a ha) (hH.at 0 rfl) rfl ?_;have X:=hH.set 0 rfl (aR v (fV l a).2);simp only[go_sem];refine aQ fun p hp=>?_;have A:=X.new hp (.rows 3 [(fV l a).1.cells]);simp only[go_sem,YB,f8,f5,e1];have fin:∀ (e:PF) (H':PH),(cV o o4 o6 n left i).le e→e 12=some (.ptr p 3 0 0)→aL H' (rW o o4 o6 v w x M (fG l n i a).2++B++[(p,.rows 3 [(fG l n i a).1.cells])]) (wH s w x M)→wpOps C JJ (aE.wp C u K) e H':=by
  intro e H' j R y;have q0:e 0=some (.ptr o 2 0 0):=j 0 _ (by unfold cV; simp only[go_sem]);have q4:e 4=some (.ptr o4 4 0 0):=j 4 _ (by unfold cV; simp only[go_sem]);have q5:e 5=some (.int .i64 n):=j 5 _ (by unfold cV; simp only[go_sem]);have q6:e 6=some (.ptr o6 4 0 0):=j 6 _ (by unfold cV; simp only[go_sem]);have q7:e 7=some (.int .i64 left):=j 7 _ (by unfold cV; simp only[go_sem]);have q8:e 8=some (.int .i64 i):=j 8 _ (by unfold cV; simp only[go_sem]);have g6:=y.at 2 rfl;have U:=y.nB;have V:(1:Nat)*3≤16777216:=by decide
  simp only[go_sem,JJ,q6,g6,R,U,V];refine y.append 2 (src:=[(fG l n i a).1.cells]) rfl rfl (XW Om) fun I H2 W Z=>?_;rw[yD] at W Z; rw[nD] at Z;obtain⟨q,rfl⟩:=Z (by simp);have S:=W.at 2 rfl;simp only[go_sem,S,aGV,aHH,or_false,forall_eq];have h3:=W.set 2 rfl (XK w x (.osl q 3 0 (s.exit++[(fG l n i a).1]).length));refine hK _ _ _ (B++[(p,.rows 3 [(fG l n i a).1.cells])]) ?_ h3;unfold cV;exact Lq
 by_cases c:i+1<n
 ·have O:((i+1:Nat):Int)<(n:Nat):=Om;have Y:=vG l ha;simp only[go_sem,O,f0];refine cR N.totO T (o:=o) (n:=3) (a:=(fV l a).2) (by decide) Y rfl (A.at 0 rfl) ?_;have E:=A.set 0 rfl (aR v (aD l 3 (fV l a).2).2);by_cases c3:(aD l 3 (fV l a).2).1=0
  ·have he:fG l n i a=(kC,(aD l 3 (fV l a).2).2):=by unfold fG; simp only[if_pos c,c3,if_true]
   have U:=aL.nB (B:=rW o o4 o6 v w x M (aD l 3 (fV l a).2).2++B) E;simp only[go_sem,bM (show (((aD l 3 (fV l a).2).1:Nat):Int)=0 by omega),YC];refine aB (N.int 0 (by unfold dV; omega)) rfl ?_;simp only[go_sem,U];refine fin _ _ ?_ rfl ?_
   ·unfold cV;exact Lq
   ·rw[he];exact aL.tA (B:=rW o o4 o6 v w x M (aD l 3 (fV l a).2).2++B) E (.rows 3 [kC.cells])
  ·have he:fG l n i a=((fV l a).1,(aD l 3 (fV l a).2).2):=by unfold fG; simp only[if_pos c,c3,if_false]
   simp only[go_sem,bB (show ¬ (((aD l 3 (fV l a).2).1:Nat):Int)=0 by omega)];refine fin _ _ ?_ rfl ?_
   ·unfold cV;exact Lq
   ·rw[he];exact E
 ·have O:¬ ((i+1:Nat):Int)<(n:Nat):=Om;have he:fG l n i a=fV l a:=by unfold fG; simp only[if_neg c]
  simp only[go_sem,O];refine fin _ _ ?_ rfl ?_
  ·unfold cV;exact Lq
  ·rw[he];exact A
def agS (l:List Nat) (v:PV) (o eN a:Nat) (r:PV) (H:PH):Prop:=r=.agg (rF l eN a).1.cells∧H=PH.nil.set o (aR v (rF l eN a).2)
theorem aeT {l:List (List RF)} (h:l.length≤1000):roomFor (vT l).length 1 24:=by
 unfold roomFor;simp only[aGK,maxLen]; omega
theorem aeU (l:List (List RF)) (x:List RF):vT l++[[frs x]]=vT (l++[x]):=by simp[vT]
theorem X7 {C:Ctx} (Lb:tP C) {l:List Nat} {v:PV} (T:Tp l v) (o o4 o6 n left i a:Nat) (ha:a≤l.length) (hn:n≤100) (hi:i<n) (s:CY) (hs:s.aFB.length=i) (y N I:PV) (B:List BX) (K:cG) (F:PF) (H:PH)
  (J:(cV o o4 o6 n left i).le F) (hH:aL H (rW o o4 o6 v y N I a++B) (wH s y N I))
  (hK:∀ E A W H' B',(cV o o4 o6 n left i).le W→(∃ q,A=.osl q 3 0 n)→aL H' (rW o o4 o6 v y E I (dT l i a n).2++B') [(y,3,gU s.start),(E,1,vT s.aFB++[[A]]),(I,3,gU s.exit),(A,3,gU (dT l i a n).1)]→K .normal W H') :
  aE.wp C (.seq (.region YD) (.seq (.seq (.region YE) (.block 2 (.loop JI))) (.region YI))) K F H:=by
 have f0:F 0=some (.ptr o 2 0 0):=J 0 _ (by unfold cV; simp only[go_sem]);have f4:F 4=some (.ptr o4 4 0 0):=J 4 _ (by unfold cV; simp only[go_sem]);have f5:F 5=some (.int .i64 n):=J 5 _ (by unfold cV; simp only[go_sem]);have f6:F 6=some (.ptr o6 4 0 0):=J 6 _ (by unfold cV; simp only[go_sem]);have f7:F 7=some (.int .i64 left):=J 7 _ (by unfold cV; simp only[go_sem]);have f8:F 8=some (.int .i64 i):=J 8 _ (by unfold cV; simp only[go_sem]);simp only[go_sem,YD,YE];refine akL (C:=C) Lb T o o4 o6 n left i a ha hn hi ([(o4,Fc),(o6,XK y N I)]++B) (wH s y N I) _ _ H ?_ hH ?_
 ·unfold fX
  (repeat' (first|exact d_|refine c_ ?_ ?_))<;>first|(simp only[go_sem,f0,f4,f5,f6,f7,f8]<;>rfl)|rfl
 intro w u H1 e x;have j:=ZO l i a n;have hw:∃ q,w=.osl q 3 0 n:=by
  rcases x.own (v:=w) 3 rfl with ⟨M,_⟩ | ⟨q,rs,M,_⟩
  ·have:=congrArg List.length M;rw[nD,j] at this;simp at this; omega
  ·rw[nD,j] at M;exact⟨q,M⟩
 obtain⟨q,rfl⟩:=hw;have g0:u 0=some (.ptr o 2 0 0):=e 0 _ (by unfold fX; simp only[go_sem]);have g4:u 4=some (.ptr o4 4 0 0):=e 4 _ (by unfold fX; simp only[go_sem]);have g5:u 5=some (.int .i64 n):=e 5 _ (by unfold fX; simp only[go_sem]);have X:u 6=some (.ptr o6 4 0 0):=e 6 _ (by unfold fX; simp only[go_sem]);have g7:u 7=some (.int .i64 left):=e 7 _ (by unfold fX; simp only[go_sem]);have g8:u 8=some (.int .i64 i):=e 8 _ (by unfold fX; simp only[go_sem]);have R:u 13=some (.osl q 3 0 n):=e 13 _ (by unfold fX; simp only[go_sem]);have b6:=x.at 2 rfl;have S:(1:Nat)*1≤16777216:=by decide
 simp only[go_sem,YI,X,b6,R,S,aGV,aHH,or_false,forall_eq];refine x.append 1 (src:=[[.osl q 3 0 n]]) rfl Sq (aeT Om) fun E H2 Y V=>?_;obtain⟨q2,rfl⟩:=V (by simp);have O:=Y.at 2 rfl;simp only[go_sem,O,aGV,aHH,or_false,forall_eq];have Z:=Y.set 2 rfl (XK y (.osl q2 1 0 (vT s.aFB++[[PV.osl q 3 0 n]]).length) I);have U:(vT s.aFB++[[(PV.osl q 3 0 n:PV)]]).length=s.aFB.length+1:=by simp
 rw[U] at Z ⊢;refine hK (.osl q2 1 0 (s.aFB.length+1)) (.osl q 3 0 n) _ _ B ?_ ⟨q,rfl⟩ Z;unfold cV
 (repeat' (first|exact d_|refine c_ ?_ ?_))<;>first|(simp only[go_sem,g0,g4,g5,X,g7,g8]<;>rfl)|rfl
theorem asH {C:Ctx} (K:tP C) {l:List Nat} {v:PV} (T:Tp l v) (o eN a:Nat) (hm:0<eN) (ε:eN≤50) (ha:a≤l.length):OQ.wp C (aT akK.res (agS l v o eN a)) (PF.args [.ptr o 2 0 0,.int .i64 eN]) (PH.nil.set o (aR v a)):=by
 have h0:aL (PH.nil.set o (aR v a)) [(o,aR v a)] []:=aL.nil.new (H:=PH.nil) rfl (aR v a);simp only[go_sem,OQ,Su,akK];refine aQ fun o4 γ=>?_;have J:=h0.new γ Fc;simp only[go_sem,Sv];refine cR K.totO T (o:=o) (n:=eN) (a:=a) Om ha Sq (J.at 0 rfl) ?_;have h2:=J.set 0 rfl (aR v (aD l eN a).2);have hN:=bU l hm a;have Z:=bD l eN ha;have e1:IntKind.i64.wrap (1+((aD l eN a).1:Int))=((1+(aD l eN a).1:Nat):Int):=by rw[wrap_i64 Om Om]; omega
 have β:∀ s:CY,s=gI l (1+(aD l eN a).1) (aD l eN a).2 (1+(aD l eN a).1)→rF l eN a=(⟨[],s.start,s.aFB,s.exit⟩,s.a):=fun s hs=>by rw[hs]; rfl
 have Y:∀ r H,agS l v o eN a r H↔r=.agg (rF l eN a).1.cells∧H=PH.nil.set o (aR v (rF l eN a).2):=fun _ _=>Iff.rfl;generalize hn:1+(aD l eN a).1=n at *
 generalize hb:(aD l eN a).2=b at *
 have ζ:0<n:=Om;have e:n≤100:=Om;simp only[go_sem,e1,Sw];refine aQ fun o6 δ=>?_;have h3:=((h2.new δ Fc).mO 3).mO 1;have h4:=h3.mO 3;simp only[go_sem,Sx,Sy];refine wp_loop (α:=Nat × PV × PV × PV × PH) (fun t=>cV o o4 o6 n (gI l n b t.1).left t.1) (fun t=>t.2.2.2.2)
  (fun t=>t.1≤n∧aL t.2.2.2.2 (rW o o4 o6 v t.2.1 t.2.2.1 t.2.2.2.1 (gI l n b t.1).a) (wH (gI l n b t.1) t.2.1 t.2.2.1 t.2.2.2.1)) (fun t=>n-t.1) (0,.aA,.aA,.aA,_) ⟨aGW _,h4⟩ ?_ b_ ?_
 ·unfold cV
  (repeat' (first|exact d_|refine c_ ?_ ?_))<;>first|(simp only[go_sem,gI]<;>rfl)|rfl
 rintro⟨i,w1,M,N,H0⟩ ⟨hi,F⟩;simp only at hi F ⊢;obtain⟨k1,k2,k3,k4,k5⟩:=kx l n Z i;simp only[go_sem,G3,Sz,cV];by_cases hlt:i<n
 ·have B:(i:Int)<(n:Nat):=Om;have E:gI l n b (i+1)=⟨(gI l n b i).start++[mkT ((dS l n i (gI l n b i)).1:Nat) 8],(gI l n b i).exit++[(fG l n i (dS l n i (gI l n b i)).2).1],(gI l n b i).aFB++[(dT l i (fG l n i (dS l n i (gI l n b i)).2).2 n).1],(gI l n b i).left-(dS l n i (gI l n b i)).1,(dT l i (fG l n i (dS l n i (gI l n b i)).2).2 n).2⟩:=rfl;have kl:=XL l n i (gI l n b i) k1;have ke:=At l n i kl.1;generalize hs:gI l n b i=s at *
  simp only[go_sem,B];refine acY (C:=C) K T o o4 o6 n i s k1 k2 e hlt [(o4,Fc),(o6,XK w1 M N)] (wH s w1 M N) _ _ _ H0 (by unfold cV; exact Lq) F ?_;intro F1 H1 O f9 U;refine X8 (C:=C) (l:=l) K o o4 o6 n i _ (dS l n i s).1 (dS l n i s).2 Om hlt e s k3 w1 M N [] _ _ F1 H1 O f9 U ?_;intro j F2 H2 B2 R V;refine acX (C:=C) K T o o4 o6 n i _ (dS l n i s).2 kl.1 hlt e { s with start:=s.start++[mkT ((dS l n i s).1:Nat) 8] } k4 j M N B2 _ _ F2 H2 R V ?_;intro u F3 H3 B3 S W;refine X7 (C:=C) K T o o4 o6 n _ i (fG l n i (dS l n i s).2).2 ke e hlt { s with start:=s.start++[mkT ((dS l n i s).1:Nat) 8],exit:=s.exit++[(fG l n i (dS l n i s).2).1] } k5 j M u B3 _ F3 H3 S W ?_;rintro A η I H4 B4 y ⟨q,rfl⟩ X;have g0:I 0=some (.ptr o 2 0 0):=y 0 _ (by unfold cV; simp only[go_sem]);have g4:I 4=some (.ptr o4 4 0 0):=y 4 _ (by unfold cV; simp only[go_sem]);have g5:I 5=some (.int .i64 n):=y 5 _ (by unfold cV; simp only[go_sem]);have g6:I 6=some (.ptr o6 4 0 0):=y 6 _ (by unfold cV; simp only[go_sem]);have g7:I 7=some (.int .i64 (s.left-(dS l n i s).1:Nat)):=y 7 _ (by unfold cV; simp only[go_sem]);have g8:I 8=some (.int .i64 i):=y 8 _ (by unfold cV; simp only[go_sem]);obtain⟨rs,z1,z2,z3,z4,z5⟩:=X.frz 3 rfl;have y1:=z4 0 _ (by decide) rfl;have y2:=z4 1 _ (by decide) rfl;have y3:=z4 2 _ (by decide) rfl;simp only at y1 y2 y3;have y4:=T.frz q 3 rs;simp only[go_sem,G7,g8,wZz i];refine BT (i+1,j,A,u,H4.frz q 3 rs) z1 ⟨hlt,?_⟩ (by simp only; omega) ?_ b_
  ·rw[E];have eB:(rW o o4 o6 v j A u (dT l i (fG l n i (dS l n i s).2).2 n).2).map (fun b=>(b.1,b.2.frz q 3 rs))=rW o o4 o6 v j A u (dT l i (fG l n i (dS l n i s).2).2 n).2:=by simp only[aHR,aIW,bG.frz,y1,y2,y3,y4];rfl
   have eL:([(j,3,gU (s.start++[mkT ((dS l n i s).1:Nat) 8])),(A,1,vT s.aFB++[[.osl q 3 0 n]]),(u,3,gU (s.exit++[(fG l n i (dS l n i s).2).1]))]:List LI).map (fun x=>(x.1,x.2.1,x.2.2.map fun r=>r.map (PV.bV q 3 rs))) =
     wH ⟨s.start++[mkT ((dS l n i s).1:Nat) 8],s.exit++[(fG l n i (dS l n i s).2).1],s.aFB++[(dT l i (fG l n i (dS l n i s).2).2 n).1],s.left-(dS l n i s).1,(dT l i (fG l n i (dS l n i s).2).2 n).2⟩ j A u:=by
    have e2:(vT s.aFB++[[PV.osl q 3 0 n]]).map (fun r=>r.map (PV.bV q 3 rs))=vT (s.aFB++[(dT l i (fG l n i (dS l n i s).2).2 n).1]):=by rw[aHX,uk,aHR,aIW,aHR,aIW,z2,aeU]
    show ([(j,3,(gU (s.start++[mkT ((dS l n i s).1:Nat) 8])).map (fun r=>r.map (PV.bV q 3 rs))),(A,1,(vT s.aFB++[[PV.osl q 3 0 n]]).map (fun r=>r.map (PV.bV q 3 rs))),(u,3,(gU (s.exit++[(fG l n i (dS l n i s).2).1])).map (fun r=>r.map (PV.bV q 3 rs)))]:List LI)=_;rw[HR,e2,HR]
   rw[← eB,← eL];exact z5.sub (by rw[aHX]; exact aKI ..) (aIQ.refl _)
  ·rw[E]
   (repeat' (first|exact d_|refine c_ ?_ ?_))<;>first|(simp only[go_sem,g0,g4,g5,g6,g7,g8]<;>rfl)|rfl
 ·have B:¬ (i:Int)<(n:Nat):=Om;have:i=n:=Om;subst this;simp only[go_sem,B,G8];have b4:=F.at 1 rfl;have b6:=F.at 2 rfl;have osl:∀ {w:PV} {z:Nat} {rows:List (List PV)},rows.length=i→bA H0 z w rows→∃ q,w=.osl q z 0 i:=by
   intro w z rows hr hO;rcases hO with ⟨J,_⟩ | ⟨q,rs,J,_⟩
   ·rw[J] at hr; simp at hr; omega
   ·exact⟨q,by rw[J,hr]⟩
  obtain⟨q1,rfl⟩:=osl (by rw[nD,k3]) (F.own 0 rfl);obtain⟨q2,rfl⟩:=osl (by rw[aGK,k5]) (F.own 1 rfl);obtain⟨q3,rfl⟩:=osl (by rw[nD,k4]) (F.own 2 rfl);have hR:=β (gI l i b i) rfl;simp only[go_sem,b6,b4,aGV,aHH,or_false,forall_eq,forall_eq_or_imp];have x1:=F.set 1 rfl (XK (.osl q1 3 0 i) (.osl q2 1 0 i) (.osl q3 3 0 i));obtain⟨r1,s1,s2,s3,s4,s5⟩:=x1.frz 0 rfl;have u2:=s4 1 _ (by decide) rfl;have u3:=s4 2 _ (by decide) rfl;simp only at u2 u3;have u4:=T.frz q1 3 r1;obtain⟨r2,t1,t2,t3,t4,t5⟩:=s5.frz 0 rfl;have m3:=t4 1 _ (by decide) rfl;simp only at m3;have m4:=T.frz q2 1 r2;obtain⟨r3,n1,n2,n3,n4,n5⟩:=t5.frz 0 rfl;have n4:=T.frz q3 3 r3;refine oI (vs:=[.agg [.str [],.osl q1 3 0 i,.osl q2 1 0 i,.osl q3 3 0 i]]) (.inr rfl) ?_ (.step s1 (.step t1 (.step n1 (.done (H2:=PH.nil.set o (aR v (gI l i b i).a)) ?_ (e_ a_ ?_)))))
  ·simp only[go_sem]
  ·rw[Y,hR];refine⟨?_,rfl⟩;simp only[cZ,PV.frz,PV.pZ,aHR,aIW,s2,u2,u3,t2,m3,n2];simp only[PV.bV,HR _ _ _ _,uk _ _ _ _]
  ·have:=n5.at 0 rfl;rw[this];simp only[bG.frz,aHR,aIW,u4,m4,n4];rfl
structure nU (C:Ctx):Prop extends tP C where
 law:∀ (l:List Nat) (v:PV),Tp l v→∀ (o eN a:Nat),0<eN→eN≤50→a≤l.length→aG C 2 [.ptr o 2 0 0,.int .i64 eN] (PH.nil.set o (aR v a)) (agS l v o eN a)
structure GOk (l:List Nat) (aEW:Nat) (s:GS):Prop where
 aFG:s.aFG.length≤35
 aFQ:s.aFQ.length≤aEW
 a:s.a≤l.length
theorem WU {l:List Nat} {mc aEW dom:Nat} {s:GS} (h:GOk l aEW s):∀ i,GOk l aEW (jZ l mc aEW dom s i)∧(jZ l mc aEW dom s i).aFG=s.aFG
 | 0=>⟨h,rfl⟩
 | i+1=>by
  obtain⟨⟨e,w,j⟩,u⟩:=WU (mc:=mc) (dom:=dom) h i;simp only[jZ];split
  ·exact⟨⟨e,by simp only[aGO,aGR]; omega,bD l mc j⟩,u⟩
  ·exact⟨⟨e,w,j⟩,u⟩
theorem O7 {l:List Nat} {level dom aEW:Nat} {s:GS} (h:GOk l aEW s) (e:qP aEW s=false):GOk l aEW (oC l level dom s)∧∃ x:cU,(oC l level dom s).aFG=s.aFG++[x]∧x.level=(level:Int)∧x.parent=(dom:Int):=by
 obtain⟨w,j,u⟩:=h;unfold qP at e;rw[Bool.or_eq_false_iff] at e;have y:=of_decide_eq_false e.2;refine⟨⟨?_,j,?_⟩,_,rfl,rfl,rfl⟩
 ·simp only[oC,aGO,aGR]; omega
 ·have a1:=bD l 3 (bD l 16 u);simp only[oC];split
  ·exact bD l 6 a1
  ·exact a1
theorem WV {l:List Nat} {level aEW dom:Nat} {rec:Nat→GS→GS} (e:∀ d t,GOk l aEW t→GOk l aEW (rec d t)∧∃ u,(rec d t).aFG=t.aFG++u) {s:GS} (h:GOk l aEW s) :
  ∀ i,GOk l aEW (gZ l level aEW dom rec s i)∧∃ u,(gZ l level aEW dom rec s i).aFG=s.aFG++u
 | 0=>⟨h,[],by simp[gZ]⟩
 | i+1=>by
  obtain⟨j,u,w⟩:=WV e h i;simp only[gZ];split
  ·exact⟨j,u,w⟩
  ·rename_i y;obtain⟨g1,x,g2,-⟩:=O7 (level:=level) (dom:=dom) j (by simpa using y);obtain⟨k1,A,k2⟩:=e ((oC l level dom (gZ l level aEW dom rec s i)).aFG.length-1) _ g1;exact⟨k1,u++[x]++A,by rw[k2,g2,w]; simp⟩
theorem IC {l:List Nat} {mc aEW:Nat}:∀ (k dom:Nat) {s:GS},GOk l aEW s→GOk l aEW (fA l mc aEW k dom s)∧∃ u,(fA l mc aEW k dom s).aFG=s.aFG++u
 | 0,dom,s,h=>by have e:GOk l aEW { s with a:=(aD l 2 s.a).2 }:=⟨h.aFG,h.aFQ,bD l 2 h.a⟩;obtain⟨j,w⟩:=WU (mc:=mc) (dom:=dom) e (1+(aD l 2 s.a).1);exact⟨j,[],by simp only[fA]; rw[w]; simp⟩
 | k+1,dom,s,h=>by have e:GOk l aEW { s with a:=(aD l 2 s.a).2 }:=⟨h.aFG,h.aFQ,bD l 2 h.a⟩;exact WV (level:=4-k) (dom:=dom) (fun d t x=>IC k d x) e (if 4-k=2 then 1 else 1+(aD l 2 s.a).1)
theorem Xm {l : List Nat} {level aEW dom : Nat} {rec : Nat → GS → GS} {s : GS} {i : Nat} (h : qP aEW (gZ l level aEW dom rec s i) = true) : ∀ n, i ≤ n → gZ l level aEW dom rec s n = gZ l level aEW dom rec s i := by
  intro n hn
  induction n with
  | zero => have : i = 0 := Om
            subst this; rfl
  | succ n ih =>
    rcases aHD n i with h' | h'
    · have : i = n + 1 := Om
      subst this; rfl
    · have e := ih h'
      simp only [gZ];rw [e, if_pos h]
def mkS (l:List Nat) (v:PV):Spec:=fun name vs=>match name,vs with
 | 29,[.str s,.int _ i]=>some ([],fun _=>aM (.str (s++bW i.toNat)))
 | 47,[.int _ n]=>some ([],fun _=>aM (.agg (mkT n 1).cells))
 | 4,[.ptr o _ _ _,.int _ n]=>some ([o],fun e r H'=>∀ a,e o=some (aR v a)→av l v o n.toNat a r H')
 | _,_=>none
section
variable {C:Ctx} {F:PF} {H Hs:PH} {l:List Nat} {v:PV} {o a:Nat}
theorem sC (w:tO C) (T:Tp l v) {n:Nat} {st:Bool} {args:List aN} {d:Option Nat} {K:PF→PH→Prop} (E:n≤1000000) (A:a≤l.length) (e:aN.evs F args=some [.ptr o 2 0 0,.int .i64 n]) (I:H o=some (aR v a))
  (j:Hs.le (H.set o (aR v (aD l n a).2))) (B:K (F.put d (.int .i64 ((aD l n a).1:Nat))) (H.set o (aR v (aD l n a).2))):dOp C Hs (mkS l v) st (.call 4 args) d K F H:=by
 refine ahK (x:=aR v a) (y:=aR v (aD l n a).2) (r:=.int .i64 ((aD l n a).1:Nat)) (R:=fun u r H'=>∀ a,u o=some (aR v a)→av l v o n a r H') rfl I (w.next l v T o n a E A) ?_ ?_ e j B
 ·intro b hb;rw[cM] at hb;injection hb with hb
  injection hb with _ hb
  injection hb with hb _
  injection hb with _ hb
  injection hb with hb _
  injection hb with _ hb
  have:a=b:=Om;subst this;exact⟨rfl,rfl⟩
 ·intro M H' J;exact J a (by rw[cM])
theorem HD (u:tP C) {s:List UInt8} {n:Nat} {st:Bool} {args:List aN} {d:Option Nat} {K:PF→PH→Prop} (y:s.length≤100) (x:n<100) (e:aN.evs F args=some [.str s,.int .i64 n]) (j:Hs.le H) (w:K (F.put d (.str (s++bW n))) H) :
  dOp C Hs (mkS l v) st (.call 29 args) d K F H :=
 dP (v:=.str (s++bW n)) rfl (u.name s n y x) e j w
theorem apW (u:tO C) {n:Int} {st:Bool} {args:List aN} {d:Option Nat} {K:PF→PH→Prop} (x:dV n) (e:aN.evs F args=some [.int .i64 n]) (j:Hs.le H) (w:K (F.put d (.agg (mkT n 1).cells)) H) :
  dOp C Hs (mkS l v) st (.call 47 args) d K F H :=
 dP (v:=.agg (mkT n 1).cells) rfl (u.int n x) e j w
end
theorem bA.uD {H:PH} {s:Nat} {v:PV} {rows:List (List PV)} (h:bA H s v rows):PV.uD v=some (.int .i64 (rows.length:Nat)):=by
 rcases h with ⟨rfl,rfl⟩ | ⟨q,rs,rfl,_⟩<;>rfl
abbrev kI (l:List cU):List (List PV):=l.map cU.cells
abbrev nC (l:List dQ):List (List PV):=l.map dQ.cells
abbrev flB (ext wl j e l wp wv:PV):bG:=.rows 7 [[ext,wl,j,e,l,wp,wv]]
structure GE where
 o:Nat
 fo:Nat
 qm:Nat
 ext:PV
 wl:PV
 wp:PV
 wv:PV
abbrev GE.boxes (G:GE) (v:PV) (mc:Nat) (e j:PV) (a:Nat):List BX:=[(G.o,aR v a),(G.fo,flB G.ext G.wl (.osl G.qm 4 0 mc) e j G.wp G.wv)]
abbrev mT (s:GS) (e j:PV):List LI:=[(e,7,kI s.aFG),(j,3,nC s.aFQ)]
def fH (G:GE) (dom aEW level n i:Nat):PF:=(((((((PF.nil.set 0 (.ptr G.o 2 0 0)).set 1 (.ptr G.fo 7 0 0)).set 2 (.int .i64 dom)).set 3 (.int .i64 aEW)).set 8 (.int .i64 level)).set 9 (.int .i64 n)).set 10 (.int .i64 i))
theorem bA.one {H:PH} {s:Nat} {v:PV} {rows:List (List PV)} (h:bA H s v rows) (e:0<rows.length):∃ q,v=.osl q s 0 rows.length:=by
 rcases h with ⟨rfl,_⟩ | ⟨q,rs,rfl,_⟩
 ·simp at e
 ·exact⟨q,rfl⟩
theorem Gq {C:Ctx} (U:nU C) {l:List Nat} {v:PV} (T:Tp l v) (G:GE) (mc aEW dom n:Nat) (δ:0<mc) (β:mc≤1000) (γ:aEW≤60) (hn:n≤10) (s:GS) (hs:GOk l aEW s) (w y:PV) (K:cG) (F:PF) (H:PH)
  (hF:(fH G dom aEW 5 n 0).le F) (x:aL H (G.boxes v mc w y s.a) (mT s w y))
  (hK:∀ J B F' H',aL H' (G.boxes v mc J B (jZ l mc aEW dom s n).a) (mT (jZ l mc aEW dom s n) J B)→K (.exit 0) F' H') :
  aE.wp C (.loop xG) K F H:=by
 refine wp_loop (α:=Nat × PV × PV × PH) (fun t=>fH G dom aEW 5 n t.1) (fun t=>t.2.2.2) (fun t=>t.1≤n∧aL t.2.2.2 (G.boxes v mc t.2.1 t.2.2.1 (jZ l mc aEW dom s t.1).a) (mT (jZ l mc aEW dom s t.1) t.2.1 t.2.2.1)) (fun t=>n-t.1) (0,w,y,H) ⟨aGW _,x⟩ hF b_ ?_;rintro⟨i,w,y,S⟩ ⟨hi,x⟩;simp only at hi x ⊢;obtain⟨O,-⟩:=WU (mc:=mc) (dom:=dom) hs i;have j:jZ l mc aEW dom s (i+1)=(if (jZ l mc aEW dom s i).aFQ.length<aEW then { jZ l mc aEW dom s i with aFQ:=(jZ l mc aEW dom s i).aFQ++[⟨[100]++bW (jZ l mc aEW dom s i).aFQ.length,((aD l mc (jZ l mc aEW dom s i).a).1:Nat),(dom:Nat)⟩],a:=(aD l mc (jZ l mc aEW dom s i).a).2 } else jZ l mc aEW dom s i):=rfl;simp only[go_sem,xG,XT,fH];by_cases hlt:i<n
 ·have u:(i:Int)<(n:Nat):=Om;generalize hg:jZ l mc aEW dom s i=g at *
  have M:=x.at 1 rfl;have R:=(x.own 1 rfl).uD;rw[aGK] at R;have W:=wZz i;simp only[go_sem,u,XU,show (((5:Nat):Int)==5)=true from rfl,Gw,M,R];by_cases Z:g.aFQ.length<aEW
  ·have A:(g.aFQ.length:Int)<(aEW:Nat):=Om;rw[if_pos Z] at j;simp only[go_sem,A];have I:(PH.nil.set G.fo (flB G.ext G.wl (.osl G.qm 4 0 mc) w y G.wp G.wv)).le S:=e_ a_ M;refine bP (PH.nil.set G.fo (flB G.ext G.wl (.osl G.qm 4 0 mc) w y G.wp G.wv)) (mkS l v) I ?_;simp only[go_sem,Gx,M,R];refine HD U.totP (s:=[100]) (n:=g.aFQ.length) (by decide) (by have:=O.aFQ; omega) rfl I ?_;simp only[go_sem];have ho:=x.at 0 rfl;have X:=x.set 0 rfl (aR v (aD l mc g.a).2);have N:=X.at 1 rfl;refine sC U.totO T (o:=G.o) (n:=mc) (a:=g.a) Om O.a rfl ho (e_ a_ N) ?_;have E:(1:Nat)*3≤16777216:=by decide
   simp only[go_sem,E,aGV,aHH,or_false,forall_eq,forall_eq_or_imp];refine X.append 1 (src:=[(⟨[100]++bW g.aFQ.length,((aD l mc g.a).1:Nat),(dom:Nat)⟩:dQ).cells]) rfl rfl (by unfold roomFor; rw[aGK]; have:=O.aFQ; simp only[aGR,maxLen]; omega) fun B H2 Y hw=>?_;obtain⟨q,rfl⟩:=hw (by simp);have V:=Y.at 1 rfl;refine⟨e_ a_ V,?_⟩;refine bP .nil dD a_ ?_;simp only[go_sem,Gy,V,aGV,aHH,or_false,forall_eq];have h3:=Y.set 1 rfl (flB G.ext G.wl (.osl G.qm 4 0 mc) w (.osl q 3 0 (nC g.aFQ++[(⟨[100]++bW g.aFQ.length,((aD l mc g.a).1:Nat),(dom:Nat)⟩:dQ).cells]).length) G.wp G.wv);refine⟨a_,?_⟩;simp only[go_sem,xH,W];refine aH (i+1,w,.osl q 3 0 (nC g.aFQ++[(⟨[100]++bW g.aFQ.length,((aD l mc g.a).1:Nat),(dom:Nat)⟩:dQ).cells]).length,_) ⟨hlt,?_⟩ (by simp only; omega) ?_ b_
   ·rw[j];have e:nC (g.aFQ++[(⟨[100]++bW g.aFQ.length,((aD l mc g.a).1:Nat),(dom:Nat)⟩:dQ)])=nC g.aFQ++[(⟨[100]++bW g.aFQ.length,((aD l mc g.a).1:Nat),(dom:Nat)⟩:dQ).cells]:=by simp[nC]
    unfold mT;simp only;rw[e];exact h3
   ·exact Lq
  ·have A:¬ (g.aFQ.length:Int)<(aEW:Nat):=Om;rw[if_neg Z] at j;simp only[go_sem,A,xH,W];refine aH (i+1,w,y,S) ⟨hlt,by rw[j]; exact x⟩ (by simp only; omega) ?_ b_;exact Lq
 ·have u:¬ (i:Int)<(n:Nat):=Om;have:i=n:=Om;subst this;simp only[go_sem,u];exact hK w y _ _ x
end Go.PM
